/-
  A part of the proofs of several laws (see the last file): no condition.
-/
import Derived.Test.YtjmahledcmocoaaGreatUbA
import Derived.Test.YtjmahledcmocoaaGreatRows
import Derived.Deep.Slices
import Derived.ChangeArms
set_option linter.all false
set_option linter.unusedVariables false
set_option linter.unusedSimpArgs false
set_option linter.unusedSectionVars false
set_option maxRecDepth 10000
set_option maxHeartbeats 4000000
namespace Go.Abs
theorem JE.mono {w:World} {G G':Ye} {v:Value} {k:Nat} {ls:List AV} (hA:U1 G w w G') (h:JE w G v k ls):JE w G' v k ls:=by
 rcases h with ⟨rfl,h0⟩|⟨g,len,cap,cur,el,rfl,h1,h2,h3,h4,h5⟩
 ·exact .inl ⟨rfl,h0⟩
 ·exact .inr ⟨g,len,cap,cur,el,rfl,h1,h2,h3,h4,h5.mono hA⟩
theorem Qa.same {w:World} {G G':Ye} {r:Res} (hA:U1 G w w G') (h:Qa w G r):Qa w G' r:=by
 cases r with
 | obj b ls=>obtain ⟨cs,e,h1,h2⟩:=h;exact ⟨cs,e,h1,h2.mono hA⟩
 | tail v k=>exact h
 | ge s=>exact h
 | vec v ls=>
  rcases h with ⟨rfl,h0⟩|⟨g,cap,cur,el,rfl,h1,h2,h3,h4⟩
  ·exact .inl ⟨rfl,h0⟩
  ·exact .inr ⟨g,cap,cur,el,rfl,h1,h2,h3,h4.mono hA⟩
 | many ts=>exact h
 | own B m=>exact h
 | row v k ls=>exact h.mono hA
theorem Ys.alloc_rrow {w:World} {G:Ye} {h:List Res} (hh:Ys w G h) (cs:Array Value) (t:TypeId) {ls:List AV} {len cap k:Nat} (hcap:len<=cap) (Xo:cs.size=cap*k) (hl:ls.length=len*k)
  (hls:YV w G ls (cs.toList.take (len*k))) :
  Ys (w.alloc (.cells cs t)) G (.row (.slice (some ⟨w.heap.size,0,none⟩) len cap) k ls::h)/\YT w G h (w.alloc (.cells cs t)) G (.row (.slice (some ⟨w.heap.size,0,none⟩) len cap) k ls::h):=by
 have hA:U1 G w (w.alloc (.cells cs t)) G:=⟨fun b j hg=>DY w _ (hh.lt b j hg),fun _ _ h=>h⟩
 refine hh.alloc (.cells cs t) (h':=[.row (.slice (some ⟨w.heap.size,0,none⟩) len cap) k ls]) (fun _ _ h=>h) (fun _ _ h=>.inl h) ?_ ?_ (BU _ _) ?_
 ·intro r hr
  rw [Xx.1 hr]
  exact .inr ⟨_,len,cap,cs,t,rfl,Dd w _,hcap,Xo,hl,hls.mono hA⟩
 ·intro r hr b j hf
  rw [Xx.1 hr] at hf
  exact hf
 ·intro r hr b j hf hg
  rw [Xx.1 hr] at hf
  have:=hh.lt b j hg
  have:b=w.heap.size:=hf
  omega
theorem Ys.rwrite {w:World} {G:Ye} {h2:List Res} {g len cap k:Nat} {ls ls':List AV} (hh:Ys w G (.row (.slice (some ⟨g,0,none⟩) len cap) k ls::h2)) {cs cs':Array Value} {e:TypeId}
  (hb:w.heap[g]? = some (.cells cs e (0,0))) (Xo:cs'.size=cs.size) (hle:len<=cap) (hcap:cs.size=cap*k) (hl:ls'.length=len*k) (hls:YV w G ls' (cs'.toList.take (len*k))) :
  Ys (w.setRow g cs') G (.row (.slice (some ⟨g,0,none⟩) len cap) k ls'::h2) /\
   YT w G (.row (.slice (some ⟨g,0,none⟩) len cap) k ls::h2) (w.setRow g cs') G (.row (.slice (some ⟨g,0,none⟩) len cap) k ls'::h2):=by
 have hmem:Res.row (.slice (some ⟨g,0,none⟩) len cap) k ls∈Res.row (.slice (some ⟨g,0,none⟩) len cap) k ls::h2:=Xl ..
 have hA:U1 G w (w.setRow g cs') G:=⟨fun c j hg=>by
  have hne:c≠g:=fun he=>hh.prot _ hmem c j he hg
  simp [World.cell?,VY w g c cs' hne],fun _ _ h=>h⟩
 have hpw:=WU.1 hh.apart
 have hother:∀r∈h2,∀c j,r.fp c j->c≠g:=fun r hr c j hf hc=>hpw.1 r hr c j hc hf
 have e1:YT w G [.row (.slice (some ⟨g,0,none⟩) len cap) k ls] (w.setRow g cs') G [.row (.slice (some ⟨g,0,none⟩) len cap) k ls']:=by
  refine ⟨rfl,rfl,rfl,by simp [World.setRow],fun _ _ h=>h,?_,fun _ _ _ h=>.inl h,?_⟩
  ·intro c hc
   by_cases hcb:c=g
   ·subst hcb
    exact .inr ⟨cs,cs',e,(0,0),hb,setRow_heap w c cs cs' e (0,0) hb,Xo,fun j hj=>absurd ⟨_,Xl ..,rfl⟩ hj⟩
   ·exact .inl (VY w g c cs' hcb)
  ·rintro c j _ ⟨r,hr,hf⟩
   rw [Xx.1 hr] at hf
   exact ⟨_,Xl ..,hf⟩
 have e2:Ys (w.setRow g cs') G [.row (.slice (some ⟨g,0,none⟩) len cap) k ls']:=by
  refine ⟨fun r hr=>?_,BU _ _,fun r hr c j hf hg=>?_,fun c j hg=>?_⟩
  ·rw [Xx.1 hr]
   exact .inr ⟨g,len,cap,cs',e,rfl,setRow_heap w g cs cs' e (0,0) hb,hle,Xo.trans hcap,hl,hls.mono hA⟩
  ·rw [Xx.1 hr] at hf
   exact hh.prot _ hmem c j hf hg
  ·have:=hh.lt c j hg
   simpa [World.setRow] using this
 exact Ys.frame (h:=[.row (.slice (some ⟨g,0,none⟩) len cap) k ls]) (k:=h2) hh e1 e2
theorem Zcv {w:World} {G:Ye} {h:List Res} {k:Nat} (hh:Ys w G h):Ys w G (.row (.slice none 0 0) k []::h)/\YT w G h w G (.row (.slice none 0 0) k []::h):=
 ⟨⟨fun r hr=>by
   rcases YF.1 hr with rfl|hr
   ·exact .inl ⟨rfl,rfl⟩
   ·exact hh.ok r hr,WU.2 ⟨fun _ _ _ _ hf=>hf.elim,hh.apart⟩,fun r hr b o hf hg=>by
   rcases YF.1 hr with rfl|hr
   ·exact hf.elim
   ·exact hh.prot r hr b o hf hg,hh.lt⟩,
  ⟨rfl,rfl,rfl,X5 _,fun _ _ h=>h,fun _ _=>.inl rfl,fun _ _ _ h=>.inl h,fun b o _ ⟨r,hr,hf⟩=>by
   rcases YF.1 hr with rfl|hr
   ·exact hf.elim
   ·exact ⟨r,hr,hf⟩⟩⟩
theorem JE.form {w:World} {G:Ye} {v:Value} {k:Nat} {ls:List AV} (h:JE w G v k ls):∃a len cap,v=.slice a len cap/\ls.length=len*k:=by
 rcases h with ⟨rfl,rfl⟩|⟨g,len,cap,cur,e,rfl,_,_,_,h4,_⟩
 ·exact ⟨none,0,0,rfl,by simp⟩
 ·exact ⟨_,len,cap,rfl,h4⟩
theorem Cx {w:World} {G:Ye} {v:Value} {k:Nat} {es:List AV} {h2:List Res} (hh:Ys w G (.row v k (Zp es)::h2)) (hes:∀y∈es,y.leaves.length=k) (hk:0<k) :
  ∃G',Ys w G' (.tail v k::h2)/\YT w G (.row v k (Zp es)::h2) w G' (.tail v k::h2)/\RV w G' (.sl es (some v)) v:=by
 have hpw:=WU.1 hh.apart
 have hfl:=TS es hes
 rcases hh.ok _ (Xl ..) with ⟨rfl,h0⟩|⟨g,len,cap,cur,e,rfl,h1,h3,h4,h5,h6⟩
 ·have hes0:es=[]:=by
   cases es with
   | nil=>rfl
   | cons y r=>
    have h7:0<(r.length+1)*k:=Nat.mul_pos om hk
    rw [h0,YS] at hfl
    rw [<-hfl] at h7
    simp at h7
  subst hes0
  obtain ⟨k1,k2⟩:=My (sz:=k) (hh.sub (BV _ _))
  refine ⟨G,k1,⟨rfl,rfl,rfl,X5 _,fun _ _ h=>h,fun _ _=>.inl rfl,fun _ _ _ h=>.inl h,?_⟩,.nil (by simp)⟩
  rintro b o _ ⟨r,hr,hf⟩
  rcases YF.1 hr with rfl|hr
  ·exact hf.elim
  ·exact ⟨r,XE _ hr,hf⟩
 ·have hlen:len=es.length:=Hy hk (h5.symm.trans hfl)
  subst hlen
  let G':Ye:=fun b o=>G b o∨(b=g/\o<es.length*k)
  have hA:U1 G w w G':=⟨fun _ _ _=>rfl,fun _ _ h=>.inl h⟩
  have hmem:Res.row (.slice (some ⟨g,0,none⟩) es.length cap) k (Zp es)∈Res.row (.slice (some ⟨g,0,none⟩) es.length cap) k (Zp es)::h2:=Xl ..
  refine ⟨G',⟨fun r hr=>?_,WU.2 ⟨fun r hr b o f1 f2=>hpw.1 r hr b o f1.1 f2,hpw.2⟩,fun r hr b o hf hg=>?_,fun b o hg=>?_⟩,
   ⟨rfl,rfl,rfl,X5 _,fun _ _ h=>.inl h,fun _ _=>.inl rfl,fun b o _ hg=>hg.imp id fun ⟨e1,_⟩=>⟨_,hmem,e1⟩,?_⟩,?_⟩
  ·rcases YF.1 hr with rfl|hr
   ·exact .inr ⟨g,es.length,cap,cur,e,rfl,h1,h3,h4⟩
   ·exact (hh.ok r (XE _ hr)).same hA
  ·rcases YF.1 hr with rfl|hr2
   ·obtain ⟨hbg,hf2⟩:=hf
    rcases hg with hg|⟨_,hg⟩
    ·exact hh.prot _ hmem b o hbg hg
    ·omega
   ·rcases hg with hg|⟨hbg,_⟩
    ·exact hh.prot r (XE _ hr2) b o hf hg
    ·exact hpw.1 r hr2 b o hbg hf
  ·rcases hg with hg|⟨rfl,_⟩
   ·exact hh.lt b o hg
   ·exact (T2.1 h1).1
  ·rintro b o _ ⟨r,hr,hf⟩
   rcases YF.1 hr with rfl|hr
   ·exact ⟨_,hmem,hf.1⟩
   ·exact ⟨r,XE _ hr,hf⟩
  ·refine .sl (k:=k) (fun x hx=>by cases hx;rfl) h3 (Vn.of_flat es hes (Ww.of_cells (h6.mono hA) fun j u hj=>?_))
   have hjl:j<es.length*k:=by
    have:=(Xi.1 hj).1
    have h7:=h6.length
    omega
   rw [TW,Ze hjl] at hj
   refine ⟨?_,.inr ⟨rfl,by omega⟩⟩
   rw [Vl,cell_of_row w g j cur e (0,0) h1]
   simpa using hj
section
variable {P:Program} {n:Nat} {ops:Array Oper} {B:Fr->List Res->Prop} {k:Nat} {F:Fr} {h h2:List Res}
theorem Z0h {k:Nat}:TC h (.row (.slice none 0 0) k []::h):=fun _ _ hh=>let ⟨a,b⟩:=Zcv hh;⟨_,a,b⟩
theorem Zfk (j:Nat) {v:Value} {kk m:Nat} {ls:List AV} (hl:Dn P ops F k=some (.val v)) (hj:h[j]? = some (.row v kk ls)) (hm:ls.length=m*kk) (hk:0<kk):XA P (ZC ops k) F h [] (.val (.int .i64 m)):=by
 unfold Dn at hl
 generalize hoo:ZC ops k=o at hl
 obtain ⟨dst,op,type,pos,after,guard⟩:=o
 cases op<;>simp only at hl<;>try (cases hl)
 rename_i c
 obtain ⟨callee,args,tys⟩:=c
 simp only at hl
 split at hl
 ·rename_i x t hargs htys
  split at hl
  ·rename_i el hu
   simp only [Wj] at hl
   intro n w G a hF hh
   have hv:=hF.ev x
   rw [hl] at hv
   have hv:=hv.val_inv
   obtain ⟨ad,len,cap,rfl,hlen⟩:=JE.form (hh.ok _ (ZY hj))
   have:len=m:=Hy hk (hlen.symm.trans hm)
   subst this
   have e1:args=#[x]:=by rw [<-Uk (xs:=args),hargs]
   have e2:tys=#[t]:=by rw [<-Uk (xs:=tys),htys]
   subst e1;subst e2
   exact ⟨_,.val,fun w' _ _=>by simp [execOp,resolve,invoke,builtin,hv,Builtin.len_,VP hu,goInt]⟩
  ·cases hl
 ·cases hl
def Lp (ops:Array Oper) (F:Fr) (k:Nat):Option (TypeId × AV):=
 match (ZC ops k).op with
 | .load t x=>some (t,F.ev x)
 | _=>none
theorem Zfl (j:Nat) {g len cap kk o:Nat} {ls zs:List AV} {t:TypeId} {y:AV} (hl:Lp ops F k=some (t,.val (.pointer (some ⟨g,o,none⟩)))) (hj:h[j]? = some (.row (.slice (some ⟨g,0,none⟩) len cap) kk ls))
  (hz:(ls.drop o).take zs.length=zs) (hy:AH P t zs=some y):XA P (ZC ops k) F h [g] y:=by
 unfold Lp at hl
 generalize hoo:ZC ops k=q at hl
 obtain ⟨dst,op,type,pos,after,guard⟩:=q
 cases op<;>simp only at hl<;>try (cases hl)
 rename_i t' x
 intro n w G a hF hh
 simp only [Wj,Prod.mk.injEq] at hl
 obtain ⟨rfl,hl⟩:=hl
 have hv:=hF.ev x
 rw [hl] at hv
 have hv:=hv.val_inv
 rcases hh.ok _ (ZY hj) with ⟨h0,_⟩|⟨g',len',cap',cur,e,h0,h1,h2,h3,h4,h5⟩
 ·cases h0
 ·cases h0
  have hc:=(h5.drop o).take zs.length
  rw [hz] at hc
  obtain ⟨v,j1,j2⟩:=GW (P:=P) (b:=g) (o:=o) hy hc
  refine ⟨v,j1,fun w' _ hw=>?_⟩
  have hrow:=hw g (by simp)
  rw [h1] at hrow
  simp only [execOp,hv]
  refine Vq ?_
  simp only [Instr.loadAt,Instr.sureAddr,Sem.run_bind,Sem.run_pure,Result.andThen_ok]
  refine j2 w' fun j u hj=>?_
  rw [cell_of_row w' g (o+j) cur e (0,0) hrow]
  rw [TW] at hj
  split at hj
  ·rw [BR,TW] at hj
   split at hj
   ·simpa using hj
   ·cases hj
  ·cases hj
theorem Ro {K:Fr->List Res->Prop} {g len cap kk:Nat} {ls xs:List AV} {i:Nat} (hs:storeAt P ops F k=some (g,i,xs)) (hlt:i+xs.length<=ls.length)
  (hK:K F (.row (.slice (some ⟨g,0,none⟩) len cap) kk (ls.take i++xs++ls.drop (i+xs.length))::h2)):WD P n (ZC ops k) F (.row (.slice (some ⟨g,0,none⟩) len cap) kk ls::h2) K:=by
 unfold storeAt at hs
 generalize hoo:ZC ops k=q at hs
 obtain ⟨dst,op,type,pos,after,guard⟩:=q
 cases op<;>simp only at hs<;>try (cases hs)
 rename_i t x z
 split at hs
 ·rename_i b' o' inf hx hi
  split at hs
  ·rename_i hc
   simp only [W6] at hc
   simp only [Wj,Prod.mk.injEq] at hs
   obtain ⟨rfl,rfl,hz⟩:=hs
   intro Q w G a hF hh
   have hvx:=hF.ev x
   rw [hx] at hvx
   have hvx:=hvx.val_inv
   have hvy:=hF.ev z
   have hcs:=hvy.cells hc.2.1
   rw [hz] at hcs hc
   have hone:=hcs.one_cells hc.2.2
   have Xo:inf.size=xs.length:=UN hc.1
   have hlen:(a.eval z).cells.size=xs.length:=by have:=hcs.length;simpa using this
   rcases hh.ok (.row (.slice (some ⟨b',0,none⟩) len cap) kk ls) (Xl ..) with ⟨h0,_⟩|⟨g',len',cap',cur,e,h0,h1,h2',h3,h4,h5⟩
   ·cases h0
   ·cases h0
    have hlc:len*kk<=cap*kk:=QJ _ h2'
    have hst:=run_storeCells_at P b' o' e (a.eval z).cells.toList 0 cur w h1 (by simp [hlen];omega) hone
    simp only [CI,KJ] at hst
    have hr:(execOp a.eval { dst:=none,op:=.store t x z,type:=type,pos:=pos,after:=after,guard:=guard }).run P w =
      .ok .skip (w.setRow b' (cur.toList.take o'++(a.eval z).cells.toList++cur.toList.drop (o'+(a.eval z).cells.size)).toArray):=by
     simp only [execOp,hvx]
     simp [Instr.storeAt,Instr.sureAddr,storeVar,Qp hi,hlen,Xo,hst]
    unfold Oper.wp
    rw [hr]
    have hcl:(a.eval z).cells.toList.length=xs.length:=by simpa using hlen
    obtain ⟨j1,j2⟩:=hh.rwrite (ls':=ls.take o'++xs++ls.drop (o'+xs.length)) (cs':=(cur.toList.take o'++(a.eval z).cells.toList++cur.toList.drop (o'+(a.eval z).cells.size)).toArray) h1
     (by simp [hlen];omega) h2' h3 (by simp;omega) (by
      rw [DL,hlen]
      have e1:(cur.toList.take o'++(a.eval z).cells.toList++cur.toList.drop (o'+xs.length)).take (len*kk) =
        (cur.toList.take (len*kk)).take o'++(a.eval z).cells.toList++(cur.toList.take (len*kk)).drop (o'+xs.length):=by
       have q1:(cur.toList.take o'++(a.eval z).cells.toList).length=o'+xs.length:=by simp [hlen];omega
       rw [List.take_append,q1,Vd om,List.take_take,VG om,List.drop_take]
      rw [e1]
      exact ((h5.take o').append hcs).append (h5.drop _))
    refine ⟨F,_,G,hK,?_,j1,j2⟩
    have:=hF.mono (j2.agree hh)
    simpa [Act.put] using this
  ·cases hs
 ·cases hs
theorem Zbn {K:Fr->List Res->Prop} {sz:Nat} (hd:Vz n (ZC ops k)=true) (ha:TL P ops F k=some ([],0,sz))
  (hK:∀g,K (F.put (ZC ops k).dst (.val (.slice (some ⟨g,0,none⟩) 0 0))) (.row (.slice (some ⟨g,0,none⟩) 0 0) sz []::h)):WD P n (ZC ops k) F h K:=by
 unfold TL at ha
 generalize hoo:ZC ops k=q at ha hd hK
 obtain ⟨dst,op,type,pos,after,guard⟩:=q
 cases op<;>simp only at ha<;>try (cases ha)
 rename_i t ln parts
 split at ha
 case h_2=>cases ha
 rename_i e ht
 split at ha
 case h_2=>cases ha
 rename_i i hi
 split at ha
 case h_2=>cases ha
 rename_i hc
 simp only [W6] at hc
 split at ha
 case h_2=>cases ha
 rename_i ls' hf
 simp only [Wj,Prod.mk.injEq] at ha
 obtain ⟨rfl,rfl,Xo⟩:=ha
 intro Q w G a hF hh
 obtain ⟨cs,h1,h2⟩:=GV hF parts ht hi rfl hc.1 hc.2 hf
 have hr:(execOp a.eval { dst:=dst,op:=.buildSlice t 0 parts,type:=type,pos:=pos,after:=after,guard:=guard }).run P w =
   .ok (.value (.slice (some ⟨w.heap.size,0,none⟩) 0 0)) (w.alloc (.cells cs e)):=by
  simp only [execOp]
  exact Vq h2
 unfold Oper.wp
 rw [hr]
 have hlc:=h1.length
 simp only [KJ] at hlc
 obtain ⟨j1,j2⟩:=hh.alloc_rrow cs e (ls:=[]) (len:=0) (cap:=0) (k:=sz) (X5 _) (by simpa using hlc) (by simp) (by simpa using YV.nil)
 exact ⟨_,_,G,hK _,(hF.mono (j2.agree hh)).put (T6 hd) .val,j1,j2⟩
theorem Zbl {K:Fr->List Res->Prop} {g sz:Nat} {xs:List AV} {hx:Option Value} (hd:Vz n (ZC ops k)=true) (ha:UP P ops F k=some (.val (.slice (some ⟨g,0,none⟩) 0 0),.sl xs hx,sz))
  (hxs:∀y∈xs,y.leaves.length=sz) (hbound:xs.length<=4294967296)
  (hK:∀v:Hd,K (F.put (ZC ops k).dst (.val v.v)) (.row v.v sz (Zp xs)::h2)):WD P n (ZC ops k) F (.row (.slice (some ⟨g,0,none⟩) 0 0) sz []::h2) K:=by
 unfold UP at ha
 generalize hoo:ZC ops k=o at ha hd hK
 obtain ⟨dst,op,type,pos,after,guard⟩:=o
 cases op<;>simp only at ha<;>try (cases ha)
 rename_i c
 obtain ⟨callee,args,tys⟩:=c
 simp only at ha
 split at ha
 case h_2=>cases ha
 rename_i s x t t' hargs htys
 split at ha
 case h_2=>cases ha
 rename_i e htt ht
 have:=UN htt
 subst this
 split at ha
 case h_2=>cases ha
 rename_i i hinfo
 split at ha
 case h_2=>cases ha
 rename_i z hz
 split at ha
 case h_2=>cases ha
 rename_i hb
 simp only [W6] at hb
 simp only [Wj,Prod.mk.injEq] at ha
 obtain ⟨h3,h4,hk1⟩:=ha
 have e1:args=#[s,x]:=by rw [<-Uk (xs:=args),hargs]
 have e2:tys=#[t,t]:=by rw [<-Uk (xs:=tys),htys]
 subst e1;subst e2
 have hzs:z.cells.size=sz:=by rw [UN hb.1,hk1]
 have hby:=Ve hb.2
 intro Q w G a hF hh
 have v1:=hF.ev s
 have v2:=hF.ev x
 rw [h3] at v1
 rw [h4] at v2
 have v1:=v1.val_inv
 have v2:=v2.forget
 have finish:∀(v':Hd) w',(Builtin.append_ #[t,t] type #[.slice (some ⟨g,0,none⟩) 0 0,a.eval x]).run P w=.ok v'.v w'->Ys w' G (.row v'.v sz (Zp xs)::h2) ->
   YT w G (.row (.slice (some ⟨g,0,none⟩) 0 0) sz []::h2) w' G (.row v'.v sz (Zp xs)::h2) ->
   ({ dst:=dst,op:=.call { callee:=.builtin .append,args:=#[s,x],argTypes:=#[t,t] },type:=type,pos:=pos,after:=after,guard:=guard }:Oper).wp P a w
    (fun a' w'=>∃F' h' G',K F' h'/\FR w' G' n F' a'/\Ys w' G' h'/\YT w G (.row (.slice (some ⟨g,0,none⟩) 0 0) sz []::h2) w' G' h') Q:=by
  intro v' w' hr j1 j2
  have hrun:(execOp a.eval { dst:=dst,op:=.call { callee:=.builtin .append,args:=#[s,x],argTypes:=#[t,t] },type:=type,pos:=pos,after:=after,guard:=guard }).run P w=.ok (.value v'.v) w':=by
   simp only [execOp,resolve,invoke,builtin,Sem.run_bind,Sem.run_pure,Result.andThen_ok,BT,UE,BS,v1,hr]
  unfold Oper.wp
  rw [hrun]
  exact ⟨_,_,G,hK v',(hF.mono (j2.agree hh)).put (T6 hd) .val,j1,j2⟩
 by_cases hxe:xs=[]
 ·subst hxe
  cases v2q:a.eval x with
  | slice ad' l' c'=>
   rw [v2q] at v2
   cases v2<;>exact finish ⟨some ⟨g,0,none⟩,0,0⟩ _ (by rw [v2q];exact Dx ht hinfo (X5 _) w) hh (YT.refl w G _)
  | _=>rw [v2q] at v2;cases v2
 ·generalize hax:a.eval x=ax at v2 finish
  cases v2 with
  | nil _=>exact absurd rfl hxe
  | sl hq hcc hm=>
   rename_i b o' k' c
   have hpos:0<xs.length:=Hw.2 hxe
   have hfm:=hm.flat_mem
   obtain ⟨news,hn,hnc⟩:=hfm.cells
   have hfl:=TS xs hxs
   have hnl:news.length=xs.length*i.size:=by rw [hn.length,hfl,hk1]
   have hnews:∀j u,news[j]? = some u->w.cell? ((⟨b,o',none⟩:Addr).add j)=some u:=fun j u hj=>by rw [KP];exact (hnc j u hj).1
   have hbb:(0+xs.length)*i.bytes<=140737488355328:=by
    have:=Nat.mul_le_mul hbound hby
    rw [Vl]
    omega
   have hr:=run_append_grow (P:=P) w t type e i z ht hinfo hz ⟨g,0,none⟩ 0 0 [] (by simp) (fun j u hj=>by simp at hj) ⟨b,o',none⟩ xs.length c news hnl hnews om om (growslice_fits om hbb)
   simp only [Vl] at hr
   have Xh:=grownCap_ge w xs.length 0 e
   obtain ⟨j1,j2⟩:=hh.drew.alloc_rrow ([].toArray++news.toArray++Builtin.zeroCells z.cells (grownCap w xs.length 0 e-xs.length)) e
    (ls:=Zp xs) (len:=xs.length) (cap:=grownCap w xs.length 0 e) (k:=sz) Xh
    (by
     have q2:(grownCap w xs.length 0 e-xs.length)*sz=grownCap w xs.length 0 e*sz-xs.length*sz:=Nat.sub_mul ..
     have q3:xs.length*sz<=grownCap w xs.length 0 e*sz:=QJ _ Xh
     simp only [Array.size_append,DK,size_zeroCells,hzs,Xv,Vl,hnl,hk1]
     omega) hfl
    (by
     have q1:([].toArray++news.toArray++Builtin.zeroCells z.cells (grownCap w xs.length 0 e-xs.length)).toList.take (xs.length*sz)=news:=by
      simp only [DJ,CH]
      rw [<-hk1,<-hnl]
      exact A8
     rw [q1]
     exact hn.mono (Bb w G))
   have hs:List.Sublist (.row (.slice (some ⟨w.drew.heap.size,0,none⟩) xs.length (grownCap w xs.length 0 e)) sz (Zp xs)::h2)
     (.row (.slice (some ⟨w.drew.heap.size,0,none⟩) xs.length (grownCap w xs.length 0 e)) sz (Zp xs)::.row (.slice (some ⟨g,0,none⟩) 0 0) sz []::h2):=List.Sublist.cons_cons _ (BV _ _)
   exact finish ⟨some ⟨w.heap.size,0,none⟩,xs.length,grownCap w xs.length 0 e⟩ _ hr (j1.sub hs) ((YT.drew w G _).trans (j2.sub' hs))
theorem RX {w:World} {G:Ye} {v:Hd} {kk m:Nat} {ls:List AV} (h:JE w G v.v kk ls) (hm:ls.length=m*kk) (hk:0<kk) (h0:0<m):∃g c,v=⟨some ⟨g,0,none⟩,m,c⟩:=by
 obtain ⟨a,l,c⟩:=v
 rcases h with ⟨h1,h2⟩|⟨g,len,cap,cur,e,h1,h2,h3,h4,h5,h6⟩
 ·subst h2
  have:=Nat.mul_pos h0 hk
  rw [Xv] at hm
  omega
 ·cases h1
  have:l=m:=Hy hk (h5.symm.trans hm)
  subst this
  exact ⟨g,c,rfl⟩
theorem Z1i (t j:Nat) {v:Hd} {kk:Nat} {es:List AV} {c:Code} {A:V5} (hF':F.get t=.h v) (hp:Wq [j] h=some [.row v.v kk (Zp es)]) (hes:∀y∈es,y.leaves.length=kk) (hk:0<kk)
  (H:Yz P n c A ((t,.sl es (some v.v))::F) (.tail v.v kk::XK [j] h)):Yz P n c A F h:=by
 intro w G a hF hh
 have hp':=Us (Vw hp)
 obtain ⟨G',h1,h2',h3⟩:=Cx (hh.perm hp') hes hk
 have e:=h2'.perm hp'.symm (Qr _)
 have hF2:=hF.mono (e.agree hh)
 have hv:=hF2.get t
 rw [hF'] at hv
 have hv:=hv.val_inv
 refine wp_mono (H w G' a ⟨hF2.defers,hF2.size,fun s=>?_⟩ h1) fun e' a' w' hc=>hc.trans e
 show RV w G' (match Nat.beq t s with|true=>_|false=>Fr.get F s) _
 cases hb:Nat.beq t s with
 | true=>
  have:=UN hb
  subst this
  rw [hv]
  exact h3
 | false=>exact hF2.get s
theorem Zg9 (j i p:Nat) {u v:Value} {kk kv:Nat} {es ls:List AV} (hp:Wq [j,i] h=some [.row u kk (Zp es),.row v kv ls]) (hes:∀y∈es,y.leaves.length=kk) (hk:0<kk) (hl:ls[p]? = some (.val u)) :
  TC h (.row v kv (ls.set p (.sl es (some u)))::.tail u kk::XK [j,i] h):=by
 intro w G hh
 have hp':=Us (Vw hp)
 have hh':=hh.perm hp'
 obtain ⟨G',h1,h2',h3⟩:=Cx (h2:=.row v kv ls::XK [j,i] h) hh' hes hk
 have e:=h2'.perm hp'.symm (Qr _)
 have h1:Ys w G' (.tail u kk::.row v kv ls::XK [j,i] h):=h1
 have perm:(Res.tail u kk::.row v kv ls::XK [j,i] h).Perm (.row v kv ls::.tail u kk::XK [j,i] h):=List.Perm.swap ..
 have h4:=h1.perm perm
 have e4:=e.perm (Qr _) perm
 have hset:∀{w:World} {G:Ye},RV w G (.sl es (some u)) u->JE w G v kv ls->JE w G v kv (ls.set p (.sl es (some u))):=by
  intro w G hu hr
  rcases hr with ⟨rfl,h0⟩|⟨g,len,cap,cur,el,rfl,k1,k2,k3,k4,k5⟩
  ·exact .inl ⟨rfl,by rw [h0];rfl⟩
  ·refine .inr ⟨g,len,cap,cur,el,rfl,k1,k2,k3,by rw [UD];exact k4,?_⟩
   obtain ⟨c,c1,c2⟩:=k5.get p _ hl
   have:=c2.val_inv
   subst this
   have h6:=k5.set p hu
   rwa [show (cur.toList.take (len*kv)).set p c=cur.toList.take (len*kv) from by
    apply List.ext_getElem?
    intro q
    rw [List.getElem?_set]
    split
    ·rename_i hq;subst hq;split
     ·exact c1.symm
     ·rename_i hq2;rw [EZ om]
    ·rfl] at h6
 refine ⟨G',⟨fun r hr=>?_,?_,fun r hr=>?_,h4.lt⟩,⟨e4.os,e4.tape,e4.output,e4.size,e4.sub,e4.same,e4.newG,fun b o hb ⟨r,hr,hf⟩=>e4.newfp b o hb ?_⟩⟩
 ·rcases YF.1 hr with rfl|hr
  ·exact hset h3 (h4.ok _ (Xl ..))
  ·exact h4.ok r (XE _ hr)
 ·have:=WU.1 h4.apart
  refine WU.2 ⟨fun r hr b o f1 f2=>this.1 r hr b o ?_ f2,this.2⟩
  cases v with
  | slice a _ _=>cases a with
   | none=>exact f1.elim
   | some a=>exact f1
  | _=>exact f1.elim
 ·rcases YF.1 hr with rfl|hr
  ·intro b o f1 hg
   refine h4.prot (.row v kv ls) (Xl ..) b o ?_ hg
   cases v with
   | slice a _ _=>cases a with
    | none=>exact f1.elim
    | some a=>exact f1
   | _=>exact f1.elim
  ·exact h4.prot r (XE _ hr)
 ·rcases YF.1 hr with rfl|hr
  ·refine ⟨.row v kv ls,Xl ..,?_⟩
   cases v with
   | slice a _ _=>cases a with
    | none=>exact hf.elim
    | some a=>exact hf
   | _=>exact hf.elim
  ·exact ⟨r,XE _ hr,hf⟩
def QP:List Res->Option (List (Value × Nat))
 | []=>some []
 | .tail v k::r=>(QP r).map ((v,k)::·)
 | .many ts::r=>(QP r).map (ts++·)
 | _=>none
theorem C8 {b o:Nat}:∀{hs:List Res} {L:List (Value × Nat)},QP hs=some L->((∃p∈L,ET p.1 p.2 b o)↔V7 hs b o)
 | [],L,h=>by cases h;simp [V7]
 | .tail v k::r,L,h=>by
  rw [QP] at h
  cases hr:QP r with
  | none=>rw [hr] at h;cases h
  | some L'=>
   rw [hr] at h
   cases h
   have ih:=C8 (b:=b) (o:=o) hr
   have ht:Res.fp (.tail v k) b o↔ET v k b o:=by
    cases v with
    | slice a _ _=>cases a<;>exact Iff.rfl
    | _=>exact Iff.rfl
   simp only [V7,YF,exists_eq_or_imp] at ih ⊢
   rw [ht,ih]
 | .many ts::r,L,h=>by
  rw [QP] at h
  cases hr:QP r with
  | none=>rw [hr] at h;cases h
  | some L'=>
   rw [hr] at h
   cases h
   have ih:=C8 (b:=b) (o:=o) hr
   simp only [V7,YF,exists_eq_or_imp] at ih ⊢
   rw [<-ih]
   simp only [X6,Res.fp]
   constructor
   ·rintro ⟨p,hp|hp,hf⟩
    ·exact .inl ⟨p,hp,hf⟩
    ·exact .inr ⟨p,hp,hf⟩
   ·rintro (⟨p,hp,hf⟩|⟨p,hp,hf⟩)
    ·exact ⟨p,.inl hp,hf⟩
    ·exact ⟨p,.inr hp,hf⟩
 | .obj _ _::_,_,h=>by cases h
 | .ge _::_,_,h=>by cases h
 | .vec _ _::_,_,h=>by cases h
 | .own _ _::_,_,h=>by cases h
 | .row _ _ _::_,_,h=>by cases h
theorem HV {w:World} {G:Ye}:∀{hs:List Res} {L:List (Value × Nat)},QP hs=some L->(∀r∈hs,Qa w G r)->hs.Pairwise Ad->Qa w G (.many L)
 | [],L,h,_,_=>by cases h;exact ⟨by simp,.nil⟩
 | .tail v k::r,L,h,h1,h2=>by
  rw [QP] at h
  cases hr:QP r with
  | none=>rw [hr] at h;cases h
  | some L'=>
   rw [hr] at h
   cases h
   have hpw:=WU.1 h2
   obtain ⟨i1,i2⟩:=HV (w:=w) (G:=G) hr (fun q hq=>h1 q (XE _ hq)) hpw.2
   refine ⟨fun p hp=>?_,WU.2 ⟨fun p hp b o f1 f2=>?_,i2⟩⟩
   ·rcases YF.1 hp with rfl|hp
    ·exact h1 (.tail v k) (Xl ..)
    ·exact i1 p hp
   ·obtain ⟨q,hq,hf⟩:=(C8 hr).1 ⟨p,hp,f2⟩
    refine hpw.1 q hq b o ?_ hf
    cases v with
    | slice a _ _=>cases a<;>exact f1
    | _=>exact f1
 | .many ts::r,L,h,h1,h2=>by
  rw [QP] at h
  cases hr:QP r with
  | none=>rw [hr] at h;cases h
  | some L'=>
   rw [hr] at h
   cases h
   have hpw:=WU.1 h2
   obtain ⟨i1,i2⟩:=HV (w:=w) (G:=G) hr (fun q hq=>h1 q (XE _ hq)) hpw.2
   obtain ⟨t1,t2⟩:=h1 (.many ts) (Xl ..)
   refine ⟨fun p hp=>?_,JD.2 ⟨t2,i2,fun p hp q hq b o f1 f2=>?_⟩⟩
   ·rcases X6.1 hp with hp|hp
    ·exact t1 p hp
    ·exact i1 p hp
   ·obtain ⟨s,hs,hf⟩:=(C8 hr).1 ⟨q,hq,f2⟩
    exact hpw.1 s hs b o ⟨p,hp,f1⟩ hf
 | .obj _ _::_,_,h,_,_=>by cases h
 | .ge _::_,_,h,_,_=>by cases h
 | .vec _ _::_,_,h,_,_=>by cases h
 | .own _ _::_,_,h,_,_=>by cases h
 | .row _ _ _::_,_,h,_,_=>by cases h
theorem Zg7 (is:List Nat) {L:List (Value × Nat)} {hs:List Res} (hp:Wq is h=some hs) (hb:QP hs=some L):TC h (.many L::XK is h):=by
 intro w G hh
 have hp':=Us (Vw hp)
 have hh':=hh.perm hp'
 have hpw:=JD.1 hh'.apart
 have hmany:=HV (w:=w) (G:=G) hb (fun r hr=>hh'.ok r (X6.2 (.inl hr))) hpw.1
 refine ⟨G,⟨fun r hr=>?_,WU.2 ⟨fun r hr b o f1 f2=>?_,hpw.2.1⟩,fun r hr b o hf hg=>?_,hh'.lt⟩,
  ⟨rfl,rfl,rfl,X5 _,fun _ _ h=>h,fun _ _=>.inl rfl,fun _ _ _ h=>.inl h,fun b o _ ⟨r,hr,hf⟩=>?_⟩⟩
 ·rcases YF.1 hr with rfl|hr
  ·exact hmany
  ·exact hh'.ok r (X6.2 (.inr hr))
 ·exact hh'.cross ((C8 hb).1 f1) ⟨r,hr,f2⟩
 ·rcases YF.1 hr with rfl|hr
  ·obtain ⟨q,hq,hf⟩:=(C8 hb).1 hf
   exact hh'.prot q (X6.2 (.inl hq)) b o hf hg
  ·exact hh'.prot r (X6.2 (.inr hr)) b o hf hg
 ·refine (Bk hp').2 ?_
  rcases YF.1 hr with rfl|hr
  ·exact JR.2 (.inl ((C8 hb).1 hf))
  ·exact JR.2 (.inr ⟨r,hr,hf⟩)
end
end Go.Abs
section
namespace Go.Abs
structure Z15 where
 fields:LI
 fv:Value
structure Z16 where
 frm:Int
 to_:Int
 cons:List Z15
 cv:Value
mutual
inductive HD where
 | mk (op num into:Int) (args:LI) (av:Value) (kids:List F5) (kv:Value)
inductive F5 where
 | mk (steps:List HD) (sv:Value) (result:Int)
end
namespace HD
end HD
namespace F5
end F5
structure Z18 where
 params:LI
 pv:Value
 lent:LI
 lv:Value
 result:Int
 body:F5
structure Z17 where
 decls:List Z16
 dv:Value
 routines:List Z18
 rv:Value
inductive HB:List AV->List AV->Prop
 | nil:HB [] []
 | cons {x y:AV} {xs ys:List AV} (hl:x.leaves.length=y.leaves.length) (h:U8 x.leaves y.leaves) (t:HB xs ys):HB (x::xs) (y::ys)
theorem Qy {es:List AV} {k:Nat} (h:es.all (fun y=>Nat.beq y.leaves.length k)=true):∀y∈es,y.leaves.length=k:=fun y hy=>UN (JC.1 h y hy)
abbrev rK (g:Hd) (k:Nat) (ls:List AV):Res:=.row g.v k ls
section
variable {P:Program} {n:Nat} {c:Code} {A:V5} {F:Fr} {h:List Res} {ops:Array Oper} {B:Fr->List Res->Prop} {k:Nat}
variable {T:List (Nat × List Nat)} {fuel:Nat} {done:List Nat}
theorem tB (is:List Nat) (hs:List Res) (L' L:List (Value × Nat)) (e:L'=L) (hp:Wq is h=some hs:=by kernel_rfl) (hb:QP hs=some L':=by kernel_rfl):TC h (.many L::XK is h):=e▸Zg7 is hp hb
theorem rr {v:Value} {q:Nat} {ls ls':List AV} {t t':List Res} (h:ls=ls') (e:t=t'):Res.row v q ls::t=.row v q ls'::t':=h▸e▸rfl
theorem Z9u (j m:Nat) (v:Hd) (kk:Nat) (ls:List AV) (hm:ls.length=m*kk) (hk:0<kk:=by omega) (hl:Dn P ops F k=some (.h v):=by kernel_rfl) (hj:h[j]? = some (rK v kk ls):=by kernel_rfl):XA P (ZC ops k) F h [] (.i m):=
 Zfk j hl hj hm hk
theorem Ws (b l c' q sz:Nat) (j:Int) (hq:j=(q:Int)/\q<l:=by omega) (hi:Bp P ops F k=some (.val (.slice (some ⟨b,0,none⟩) l c'),j,sz):=by kernel_rfl):XA P (ZC ops k) F h [] (.val (.pointer (some ⟨b,q*sz,none⟩))):=by
 have:=SW (P:=P) (F:=F) (h:=h) hi om om
 rw [hq.1,U7,Vl] at this
 exact this
theorem Vu (j g len cap kk o:Nat) (ls zs:List AV) (t:TypeId) (y:AV) (hz:(ls.drop o).take zs.length=zs) (hl:Lp ops F k=some (t,.val (.pointer (some ⟨g,o,none⟩))):=by kernel_rfl) (hj:h[j]? = some (.row (.slice (some ⟨g,0,none⟩) len cap) kk ls):=by kernel_rfl)
  (hy:AH P t zs=some y:=by kernel_rfl):XA P (ZC ops k) F h [g] y:=Zfl j hl hj hz hy
theorem Ej (j g len cap kk o:Nat) (xs ls:List AV) (ls':List AV) (hlt:o+xs.length<=ls.length) (he:ls.take o++xs++ls.drop (o+xs.length)=ls') (H:SI P n ops B (k+1) F (.row (.slice (some ⟨g,0,none⟩) len cap) kk ls'::XK [j] h)) (hk:Xb n ops F k=true:=by kernel_rfl)
  (hs:storeAt P ops F k=some (g,o,xs):=by kernel_rfl) (hp:Wq [j] h=some [.row (.slice (some ⟨g,0,none⟩) len cap) kk ls]:=by kernel_rfl):SI P n ops B k F h:=
 TG hk (WD.perm (Us (Vw hp)) (Ro hs hlt (by rw [he];exact H)))
theorem C9 (i j:Nat) (js bs:List Nat) (g len cap kk o:Nat) (xs ls:List AV) (ls':List AV) (hlt:o+xs.length<=ls.length) (he:ls.take o++xs++ls.drop (o+xs.length)=ls')
  (H:YX P n ops B (T.filter fun t=>!V6 ops i t.1) fuel (done++[i]) F (.row (.slice (some ⟨g,0,none⟩) len cap) kk ls'::XK [j] h)) (hk:Xb n ops F i=true:=by kernel_rfl)
  (hs:storeAt P ops F i=some (g,o,xs):=by kernel_rfl) (hp:Wq [j] h=some [.row (.slice (some ⟨g,0,none⟩) len cap) kk ls]:=by kernel_rfl) (ho:Ue ops i T=bs:=by kernel_rfl)
  (hj:js.map (fun q=>(WM (XK [j] h))[q]?)=bs.map some:=by kernel_rfl):Vy P n ops B T fuel done F h i:=
 Kv [j] js bs hk (Vw hp) ho hj (Ro (h2:=[]) hs hlt (by rw [he];exact H))
theorem Ei (sz:Nat) (hK:∀g,SI P n ops B (k+1) (F.put (ZC ops k).dst (.val (.slice (some ⟨g,0,none⟩) 0 0))) (.row (.slice (some ⟨g,0,none⟩) 0 0) sz []::h)) (hk:Xb n ops F k=true:=by kernel_rfl)
  (ha:TL P ops F k=some ([],0,sz):=by kernel_rfl):SI P n ops B k F h:=TG hk (Zbn (VN hk).2.1 ha hK)
theorem OZ (j g sz:Nat) (xs:List AV) (hx:Option Value) (hxs:∀y∈xs,y.leaves.length=sz) (hbound:xs.length<=4294967296) (hK:∀v:Hd,SI P n ops B (k+1) (F.put (ZC ops k).dst (.h v)) (rK v sz (Zp xs)::XK [j] h))
  (hk:Xb n ops F k=true:=by kernel_rfl) (ha:UP P ops F k=some (.val (.slice (some ⟨g,0,none⟩) 0 0),.sl xs hx,sz):=by kernel_rfl) (hp:Wq [j] h=some [.row (.slice (some ⟨g,0,none⟩) 0 0) sz []]:=by kernel_rfl):SI P n ops B k F h:=
 TG hk (WD.perm (Us (Vw hp)) (Zbl (VN hk).2.1 ha hxs hbound hK))
theorem Z9t (t j:Nat) {v:Hd} {kk:Nat} (es:List AV) (hes:∀y∈es,y.leaves.length=kk) (H:Yz P n c A ((t,.sl es (some v.v))::F) (.tail v.v kk::XK [j] h)) (hk:0<kk:=by omega) (hF':F.get t=.h v:=by kernel_rfl)
  (hp:Wq [j] h=some [rK v kk (Zp es)]:=by kernel_rfl):Yz P n c A F h:=Z1i t j hF' hp hes hk H
theorem M0 {A xs ys B:List AV} {o:Nat} (hA:A.length=o) (hl:xs.length=ys.length):(A++(xs++B)).take o++ys++(A++(xs++B)).drop (o+ys.length)=A++(ys++B):=by
 subst hA
 rw [A8,<-hl,<-List.drop_drop,List.drop_left,List.drop_left,TV]
theorem Zct {A xs B:List AV} {o:Nat} (hA:A.length=o):((A++(xs++B)).drop o).take xs.length=xs:=by
 subst hA
 rw [List.drop_left,A8]
theorem Qv (xs ys:List AV):Zp (xs++ys)=Zp xs++Zp ys:=by simp [Zp]
theorem Z5s:Zp []=[]:=rfl
theorem Mx (j:Nat) (v:Value) (q:Nat) (ls ls':List AV) (e:ls=ls') (hp:Wq [j] h=some [.row v q ls]:=by kernel_rfl):TC h (.row v q ls'::XK [j] h):=by
 subst e
 intro w G hh
 have hp':=Us (Vw hp)
 exact ⟨G,hh.perm hp',(YT.refl w G h).perm (Qr _) hp'⟩
end
end Go.Abs
end
section
namespace Go.Abs
theorem Ys.rgrow {w:World} {G:Ye} {h2:List Res} {g len len' cap k:Nat} {ls ls':List AV} (hh:Ys w G (.row (.slice (some ⟨g,0,none⟩) len cap) k ls::h2)) {cs cs':Array Value} {e:TypeId}
  (hb:w.heap[g]? = some (.cells cs e (0,0))) (Xo:cs'.size=cs.size) (hle:len'<=cap) (hcap:cs.size=cap*k) (hl:ls'.length=len'*k) (hls:YV w G ls' (cs'.toList.take (len'*k))) :
  Ys (w.setRow g cs') G (.row (.slice (some ⟨g,0,none⟩) len' cap) k ls'::h2) /\
   YT w G (.row (.slice (some ⟨g,0,none⟩) len cap) k ls::h2) (w.setRow g cs') G (.row (.slice (some ⟨g,0,none⟩) len' cap) k ls'::h2):=by
 have hmem:Res.row (.slice (some ⟨g,0,none⟩) len cap) k ls∈Res.row (.slice (some ⟨g,0,none⟩) len cap) k ls::h2:=Xl ..
 have hA:U1 G w (w.setRow g cs') G:=⟨fun c j hg=>by
  have hne:c≠g:=fun he=>hh.prot _ hmem c j he hg
  simp [World.cell?,VY w g c cs' hne],fun _ _ h=>h⟩
 have e1:YT w G [.row (.slice (some ⟨g,0,none⟩) len cap) k ls] (w.setRow g cs') G [.row (.slice (some ⟨g,0,none⟩) len' cap) k ls']:=by
  refine ⟨rfl,rfl,rfl,by simp [World.setRow],fun _ _ h=>h,?_,fun _ _ _ h=>.inl h,?_⟩
  ·intro c hc
   by_cases hcb:c=g
   ·subst hcb
    exact .inr ⟨cs,cs',e,(0,0),hb,setRow_heap w c cs cs' e (0,0) hb,Xo,fun j hj=>absurd ⟨_,Xl ..,rfl⟩ hj⟩
   ·exact .inl (VY w g c cs' hcb)
  ·rintro c j _ ⟨r,hr,hf⟩
   rw [Xx.1 hr] at hf
   exact ⟨_,Xl ..,hf⟩
 have e2:Ys (w.setRow g cs') G [.row (.slice (some ⟨g,0,none⟩) len' cap) k ls']:=by
  refine ⟨fun r hr=>?_,BU _ _,fun r hr c j hf hg=>?_,fun c j hg=>?_⟩
  ·rw [Xx.1 hr]
   exact .inr ⟨g,len',cap,cs',e,rfl,setRow_heap w g cs cs' e (0,0) hb,hle,Xo.trans hcap,hl,hls.mono hA⟩
  ·rw [Xx.1 hr] at hf
   exact hh.prot _ hmem c j hf hg
  ·have:=hh.lt c j hg
   simpa [World.setRow] using this
 exact Ys.frame (h:=[.row (.slice (some ⟨g,0,none⟩) len cap) k ls]) (k:=h2) hh e1 e2
section
variable {P:Program} {n:Nat} {ops:Array Oper} {k:Nat} {F:Fr} {h2:List Res}
theorem Rm {K:Fr->List Res->Prop} {v:Hd} {sz m:Nat} {ls xs:List AV} {hx:Option Value} (hd:Vz n (ZC ops k)=true) (ha:UP P ops F k=some (.val v.v,.sl xs hx,sz))
  (hxs:∀y∈xs,y.leaves.length=sz) (hone:(Zp xs).all AV.one=true) (hm0:ls.length=m*sz) (hk0:0<sz) (hne:xs≠[]) (hbound:m+xs.length<=4294967296)
  (hK:∀v':Hd,K (F.put (ZC ops k).dst (.val v'.v)) (.row v'.v sz (ls++Zp xs)::h2)):WD P n (ZC ops k) F (.row v.v sz ls::h2) K:=by
 unfold UP at ha
 generalize hoo:ZC ops k=o at ha hd hK
 obtain ⟨dst,op,type,pos,after,guard⟩:=o
 cases op<;>simp only at ha<;>try (cases ha)
 rename_i c
 obtain ⟨callee,args,tys⟩:=c
 simp only at ha
 split at ha
 case h_2=>cases ha
 rename_i s x t t' hargs htys
 split at ha
 case h_2=>cases ha
 rename_i e htt ht
 have:=UN htt
 subst this
 split at ha
 case h_2=>cases ha
 rename_i i hinfo
 split at ha
 case h_2=>cases ha
 rename_i z hz
 split at ha
 case h_2=>cases ha
 rename_i hb
 simp only [W6] at hb
 simp only [Wj,Prod.mk.injEq] at ha
 obtain ⟨h3,h4,hk1⟩:=ha
 have e1:args=#[s,x]:=by rw [<-Uk (xs:=args),hargs]
 have e2:tys=#[t,t]:=by rw [<-Uk (xs:=tys),htys]
 subst e1;subst e2
 have hzs:z.cells.size=sz:=by rw [UN hb.1,hk1]
 have hby:=Ve hb.2
 have hfl:=TS xs hxs
 intro Q w G a hF hh
 have v1:=hF.ev s
 have v2:=hF.ev x
 rw [h3] at v1
 rw [h4] at v2
 have v1:=v1.val_inv
 have v2:=v2.forget
 have finish:∀(v':Hd) w',(Builtin.append_ #[t,t] type #[v.v,a.eval x]).run P w=.ok v'.v w'->Ys w' G (.row v'.v sz (ls++Zp xs)::h2)->YT w G (.row v.v sz ls::h2) w' G (.row v'.v sz (ls++Zp xs)::h2) ->
   ({ dst:=dst,op:=.call { callee:=.builtin .append,args:=#[s,x],argTypes:=#[t,t] },type:=type,pos:=pos,after:=after,guard:=guard }:Oper).wp P a w
    (fun a' w'=>∃F' h' G',K F' h'/\FR w' G' n F' a'/\Ys w' G' h'/\YT w G (.row v.v sz ls::h2) w' G' h') Q:=by
  intro v' w' hr j1 j2
  have hrun:(execOp a.eval { dst:=dst,op:=.call { callee:=.builtin .append,args:=#[s,x],argTypes:=#[t,t] },type:=type,pos:=pos,after:=after,guard:=guard }).run P w=.ok (.value v'.v) w':=by
   simp only [execOp,resolve,invoke,builtin,Sem.run_bind,Sem.run_pure,Result.andThen_ok,BT,UE,BS,v1,hr]
  unfold Oper.wp
  rw [hrun]
  exact ⟨_,_,G,hK v',(hF.mono (j2.agree hh)).put (T6 hd) .val,j1,j2⟩
 have hrow0:=hh.ok (.row v.v sz ls) (Xl ..)
 have hsub2:∀r:Res,List.Sublist (r::h2) (r::.row v.v sz ls::h2):=fun r=>List.Sublist.cons_cons _ (BV _ _)
 have grown:∀(olds news:List Value) (old:Nat),YV w G ls olds->YV w G (Zp xs) news ->
   Ys (w.drew.alloc (.cells (olds.toArray++news.toArray++Builtin.zeroCells z.cells (grownCap w (m+xs.length) old e-(m+xs.length))) e)) G
    (.row (.slice (some ⟨w.heap.size,0,none⟩) (m+xs.length) (grownCap w (m+xs.length) old e)) sz (ls++Zp xs)::h2) /\
   YT w G (.row v.v sz ls::h2) (w.drew.alloc (.cells (olds.toArray++news.toArray++Builtin.zeroCells z.cells (grownCap w (m+xs.length) old e-(m+xs.length))) e)) G
    (.row (.slice (some ⟨w.heap.size,0,none⟩) (m+xs.length) (grownCap w (m+xs.length) old e)) sz (ls++Zp xs)::h2):=by
  intro olds news old ho hn
  have Xh:=grownCap_ge w (m+xs.length) old e
  have hol:=ho.length
  have hnl:=hn.length
  have hlen:(ls++Zp xs).length=(m+xs.length)*sz:=by rw [Yx,hm0,hfl,Qt]
  obtain ⟨j1,j2⟩:=hh.drew.alloc_rrow (olds.toArray++news.toArray++Builtin.zeroCells z.cells (grownCap w (m+xs.length) old e-(m+xs.length))) e
   (ls:=ls++Zp xs) (len:=m+xs.length) (cap:=grownCap w (m+xs.length) old e) (k:=sz) Xh
   (by
    have q2:(grownCap w (m+xs.length) old e-(m+xs.length))*sz=grownCap w (m+xs.length) old e*sz-(m+xs.length)*sz:=Nat.sub_mul ..
    have q3:(m+xs.length)*sz<=grownCap w (m+xs.length) old e*sz:=QJ _ Xh
    have q4:(m+xs.length)*sz=m*sz+xs.length*sz:=Qt ..
    simp only [Array.size_append,DK,size_zeroCells,hzs,hol,hnl,hm0,hfl]
    omega) hlen
   (by
    have:(olds.toArray++news.toArray++Builtin.zeroCells z.cells (grownCap w (m+xs.length) old e-(m+xs.length))).toList.take ((m+xs.length)*sz)=olds++news:=by
     simp only [DJ]
     rw [<-hlen,Yx,<-hol,<-hnl,<-Yx]
     exact A8
    rw [this]
    exact (ho.append hn).mono (Bb w G))
  exact ⟨j1.sub (hsub2 _),(YT.drew w G _).trans (j2.sub' (hsub2 _))⟩
 generalize hax:a.eval x=ax at v2 finish
 cases v2 with
 | nil _=>exact absurd rfl hne
 | sl hq hcc hm=>
  rename_i b o' k' c
  have hpos:0<xs.length:=Hw.2 hne
  have hfm:=hm.flat_mem
  obtain ⟨news,hn,hnc⟩:=hfm.cells
  have hnl:news.length=xs.length*i.size:=by rw [hn.length,hfl,hk1]
  have hone':=hn.one_cells hone
  have hnews:∀j u,news[j]? = some u->w.cell? ((⟨b,o',none⟩:Addr).add j)=some u:=fun j u hj=>by rw [KP];exact (hnc j u hj).1
  have hbb:(m+xs.length)*i.bytes<=140737488355328:=by
   have:=Nat.mul_le_mul hbound hby
   omega
  rcases hrow0 with ⟨hv0,hl0⟩|⟨g,len,cap,cur,el,hv0,hrow,hlc,hcur,hll,hcells⟩
  ·subst hl0
   have hm1:m=0:=by
    have:m*sz=0:=by simpa using hm0.symm
    rcases Nat.mul_eq_zero.1 this with h|h
    ·exact h
    ·omega
   subst hm1
   rw [hv0] at finish hh ⊢
   have hr:=run_append_nil (P:=P) w t type e i z ht hinfo hz ⟨b,o',none⟩ xs.length c news hnl hnews hpos om (by simp only [Vl] at hbb;omega)
   obtain ⟨j1,j2⟩:=grown [] news 0 .nil hn
   simp only [Vl,Array.empty_append,CH] at j1 j2
   rw [hv0] at j2
   exact finish ⟨some ⟨w.heap.size,0,none⟩,xs.length,grownCap w xs.length 0 e⟩ _ hr (by simpa using j1) (by simpa using j2)
  ·have hlm:len=m:=Hy hk0 (hll.symm.trans hm0)
   subst hlm
   rw [hv0] at finish hh ⊢
   have q5:len*sz<=cap*sz:=QJ _ hlc
   have h1:(cur.toList.take (len*sz)).length=len*sz:=by rw [WH,KJ,hcur,VG q5]
   have hcl:cur.toList.length=cap*sz:=by rw [KJ,hcur]
   by_cases hroom:len+xs.length<=cap
   ·have q1:(len+xs.length)*sz<=cap*sz:=QJ _ hroom
    have q2:(len+xs.length)*sz=len*sz+xs.length*sz:=Qt ..
    have hfit:len*i.size+news.length<=cur.size:=by rw [hnl,hcur,hk1];omega
    have hr:=GU (P:=P) w t type e el i ht hinfo g len cap cur hrow ⟨b,o',none⟩ xs.length c news hnl hnews hone' hroom hfit
    rw [hk1] at hr
    have hnl':news.length=xs.length*sz:=by rw [hnl,hk1]
    obtain ⟨j1,j2⟩:=hh.rgrow (ls':=ls++Zp xs) (len':=len+xs.length) (cs':=(cur.toList.take (len*sz)++news++cur.toList.drop (len*sz+news.length)).toArray) hrow
     (by simp only [DK,Yx,h1,hnl',A7,hcl,hcur];omega) hroom hcur (by rw [Yx,hll,hfl,q2]) (by
      have:(cur.toList.take (len*sz)++news++cur.toList.drop (len*sz+news.length)).toArray.toList.take ((len+xs.length)*sz)=cur.toList.take (len*sz)++news:=by
       rw [DL,q2,<-hnl']
       conv=>lhs;arg 1;rw [show len*sz+news.length=(cur.toList.take (len*sz)++news).length from by rw [Yx,h1]]
       exact A8
      rw [this]
      exact hcells.append hn)
    exact finish ⟨some ⟨g,0,none⟩,len+xs.length,cap⟩ _ hr j1 j2
   ·have hr:=run_append_grow (P:=P) w t type e i z ht hinfo hz ⟨g,0,none⟩ len cap (cur.toList.take (len*sz)) (by rw [hk1];exact h1) (fun j u hj=>by
     rw [KP,cell_of_row w g _ cur el (0,0) hrow]
     rw [TW] at hj
     split at hj
     ·simpa using hj
     ·cases hj) ⟨b,o',none⟩ xs.length c news hnl hnews om om (growslice_fits om hbb)
    obtain ⟨j1,j2⟩:=grown (cur.toList.take (len*sz)) news cap hcells hn
    rw [hv0] at j2
    exact finish ⟨some ⟨w.heap.size,0,none⟩,len+xs.length,grownCap w (len+xs.length) cap e⟩ _ hr j1 j2
end
section
variable {P:Program} {n:Nat} {ops:Array Oper} {B:Fr->List Res->Prop} {k:Nat} {F:Fr} {h:List Res}
theorem Gc (j m:Nat) (v:Hd) (sz:Nat) (ls xs:List AV) (hx:Option Value) (hm0:ls.length=m*sz) (hxs:∀y∈xs,y.leaves.length=sz) (hone:(Zp xs).all AV.one=true) (hne:xs≠[]) (hbound:m+xs.length<=4294967296)
  (hK:∀v':Hd,SI P n ops B (k+1) (F.put (ZC ops k).dst (.h v')) (rK v' sz (ls++Zp xs)::XK [j] h)) (hk0:0<sz:=by omega)
  (hk:Xb n ops F k=true:=by kernel_rfl) (ha:UP P ops F k=some (.h v,.sl xs hx,sz):=by kernel_rfl) (hp:Wq [j] h=some [rK v sz ls]:=by kernel_rfl):SI P n ops B k F h:=
 TG hk (WD.perm (Us (Vw hp)) (Rm (VN hk).2.1 ha hxs hone hm0 hk0 hne hbound hK))
end
end Go.Abs
namespace Go.Abs
section
variable {P:Program} {n:Nat} {ops:Array Oper} {B:Fr->List Res->Prop} {T:List (Nat × List Nat)} {fuel:Nat} {done:List Nat} {F:Fr} {h:List Res}
theorem I4 (i j m:Nat) (js bs:List Nat) (v:Hd) (sz:Nat) (ls xs:List AV) (hx:Option Value) (hm0:ls.length=m*sz) (hxs:∀y∈xs,y.leaves.length=sz) (hone:(Zp xs).all AV.one=true) (hne:xs≠[]) (hbound:m+xs.length<=4294967296)
  (hK:∀v':Hd,YX P n ops B (T.filter fun t=>!V6 ops i t.1) fuel (done++[i]) (F.put (ZC ops i).dst (.h v')) (rK v' sz (ls++Zp xs)::XK [j] h)) (hk0:0<sz:=by omega) (hk:Xb n ops F i=true:=by kernel_rfl)
  (ha:UP P ops F i=some (.h v,.sl xs hx,sz):=by kernel_rfl) (hp:Wq [j] h=some [rK v sz ls]:=by kernel_rfl) (ho:Ue ops i T=bs:=by kernel_rfl)
  (hj:js.map (fun q=>(WM (XK [j] h))[q]?)=bs.map some:=by kernel_rfl):Vy P n ops B T fuel done F h i:=
 Kv [j] js bs hk (Vw hp) ho hj (Rm (h2:=[]) (VN hk).2.1 ha hxs hone hm0 hk0 hne hbound hK)
end
theorem WC.form {P:Program} {f:FuncId} {as1:List AV} {h0:List Res} {T:Hd->AV} {kk m:Nat} {ls:List AV} {hs:List Res} (H:WC P f as1 h0 (fun r h=>∃v:Hd,r=T v/\h=rK v kk ls::hs)) (hm:ls.length=m*kk) (hk:0<kk) (h1:0<m) :
  WC P f as1 h0 (fun r h=>∃(g c:Nat),r=T ⟨some ⟨g,0,none⟩,m,c⟩/\h=rK ⟨some ⟨g,0,none⟩,m,c⟩ kk ls::hs):=by
 intro w G vs hv hh
 refine (H w G vs hv hh).mono ?_
 rintro e w' ⟨u,r,h',G',he,⟨v,rfl,rfl⟩,hr,hh',hx⟩
 obtain ⟨g,c,rfl⟩:=RX (hh'.ok _ (Xl ..)) hm hk h1
 exact ⟨u,_,_,G',he,⟨g,c,rfl,rfl⟩,hr,hh',hx⟩
end Go.Abs
namespace Go.Abs
section
variable {h:List Res}
theorem Zg8 (j i p:Nat) {u:Value} {kk b:Nat} {es ls:List AV} (hp:Wq [j,i] h=some [.row u kk (Zp es),.obj b ls]) (hes:∀y∈es,y.leaves.length=kk) (hk:0<kk) (hl:ls[p]? = some (.val u)) :
  TC h (.obj b (ls.set p (.sl es (some u)))::.tail u kk::XK [j,i] h):=by
 intro w G hh
 have hp':=Us (Vw hp)
 have hh':=hh.perm hp'
 obtain ⟨G',h1,h2',h3⟩:=Cx (h2:=.obj b ls::XK [j,i] h) hh' hes hk
 have e:=h2'.perm hp'.symm (Qr _)
 have h1:Ys w G' (.tail u kk::.obj b ls::XK [j,i] h):=h1
 have perm:(Res.tail u kk::.obj b ls::XK [j,i] h).Perm (.obj b ls::.tail u kk::XK [j,i] h):=List.Perm.swap ..
 have h4:=h1.perm perm
 have e4:=e.perm (Qr _) perm
 have hset:∀{w:World} {G:Ye},RV w G (.sl es (some u)) u->Qa w G (.obj b ls)->Qa w G (.obj b (ls.set p (.sl es (some u)))):=by
  intro w G hu hr
  obtain ⟨cs,el,k1,k5⟩:=hr
  refine ⟨cs,el,k1,?_⟩
  obtain ⟨c,c1,c2⟩:=k5.get p _ hl
  have:=c2.val_inv
  subst this
  have h6:=k5.set p hu
  rwa [show cs.toList.set p c=cs.toList from by
   apply List.ext_getElem?
   intro q
   rw [List.getElem?_set]
   split
   ·rename_i hq;subst hq;split
    ·exact c1.symm
    ·rename_i hq2;rw [EZ om]
   ·rfl] at h6
 refine ⟨G',⟨fun r hr=>?_,?_,fun r hr=>?_,h4.lt⟩,⟨e4.os,e4.tape,e4.output,e4.size,e4.sub,e4.same,e4.newG,fun b' o hb ⟨r,hr,hf⟩=>e4.newfp b' o hb ?_⟩⟩
 ·rcases YF.1 hr with rfl|hr
  ·exact hset h3 (h4.ok _ (Xl ..))
  ·exact h4.ok r (XE _ hr)
 ·have:=WU.1 h4.apart
  exact WU.2 ⟨fun r hr b' o f1 f2=>this.1 r hr b' o f1 f2,this.2⟩
 ·rcases YF.1 hr with rfl|hr
  ·exact fun b' o f1 hg=>h4.prot (.obj b ls) (Xl ..) b' o f1 hg
  ·exact h4.prot r (XE _ hr)
 ·rcases YF.1 hr with rfl|hr
  ·exact ⟨.obj b ls,Xl ..,hf⟩
  ·exact ⟨r,XE _ hr,hf⟩
theorem Ty (j i p:Nat) (u:Value) (kk b:Nat) (es ls:List AV) (hes:∀y∈es,y.leaves.length=kk) (hl:ls[p]? = some (.val u)) (hk:0<kk:=by omega) (hp:Wq [j,i] h=some [.row u kk (Zp es),.obj b ls]:=by kernel_rfl) :
  TC h (.obj b (ls.set p (.sl es (some u)))::.tail u kk::XK [j,i] h):=Zg8 j i p hp hes hk hl
end
end Go.Abs
namespace Go.Abs
section
variable {P:Program} {n:Nat} {ops:Array Oper} {k:Nat} {F:Fr} {h:List Res}
theorem Zfm (j:Nat) {g l c m kk:Nat} {ls:List AV} (hi:DA P ops F k=some (.val (.slice (some ⟨g,0,none⟩) l c),(m:Int))) (hj:h[j]? = some (.row (.slice (some ⟨g,0,none⟩) l c) kk ls)) (hle:m<=l) :
  XA P (ZC ops k) F h [] (.val (.slice (some ⟨g,0,none⟩) m c)):=by
 unfold DA at hi
 generalize hoo:ZC ops k=o at hi
 obtain ⟨dst,op,type,pos,after,guard⟩:=o
 cases op<;>simp only at hi<;>try (cases hi)
 rename_i t x lo hi' mx
 cases lo with
 | some _=>simp at hi
 | none=>
  cases hi' with
  | none=>simp at hi
  | some y=>
   cases mx with
   | some _=>simp at hi
   | none=>
    simp only at hi
    split at hi
    ·rename_i e ht
     split at hi
     ·rename_i inf hinf
      split at hi
      ·rename_i ik m' hm
       simp only [Wj,Prod.mk.injEq] at hi
       obtain ⟨hx,rfl⟩:=hi
       intro n w G a hF hh
       have v1:=hF.ev x
       rw [hx] at v1
       have v1:=v1.val_inv
       have v2:=hF.ev y
       rw [hm] at v2
       have v2:=v2.val_inv
       have hcap:l<=c:=by
        rcases hh.ok _ (ZY hj) with ⟨h0,_⟩|⟨g',l',c',cur,el,h0,_,hc,_⟩
        ·cases h0
        ·cases h0;exact hc
       refine ⟨_,.val,fun w' _ _=>?_⟩
       simp only [execOp,v1,v2,BX,Option.map_none]
       refine Vq ?_
       simp only [Instr.sliceAt,Sem.run_bind,VP ht,Result.andThen_ok,Instr.slice]
       have hmm:(Instr.sliceBounds true l c none (some (.int ik (m:Int))) none).run P w'=.ok (0,m,c) w':=by
        have Zx:=fun q=>Dy (P:=P) (c:=q) (v:=.int ik (m:Int)) (y:=c) rfl om om w'
        simp [Instr.sliceBounds,Zx]
       rw [hmm]
       have hz:∀a:Addr,a.add 0=a:=fun a=>by simp [Addr.add]
       simp only [Result.andThen_ok,Qp hinf,Nat.zero_mul,hz]
       by_cases h0:c=0<;>simp [h0]
      ·cases hi
     ·cases hi
    ·cases hi
theorem La (j g l c m kk:Nat) (ls:List AV) (hle:m<=l:=by omega) (hi:DA P ops F k=some (.val (.slice (some ⟨g,0,none⟩) l c),(m:Int)):=by kernel_rfl) (hj:h[j]? = some (.row (.slice (some ⟨g,0,none⟩) l c) kk ls):=by kernel_rfl) :
  XA P (ZC ops k) F h [] (.val (.slice (some ⟨g,0,none⟩) m c)):=Zfm j hi hj hle
variable {B:Fr->List Res->Prop}
end
end Go.Abs
end
namespace Go.Abs
theorem Ya {α:Type} {xs:List α} {k:Nat} {x:α} (h:xs[k]? = some x):xs.drop k=x::xs.drop (k+1):=by
 have hk:=(Xi.1 h).1
 rw [Z13 hk]
 congr 1
 rw [KL hk] at h
 exact WB h
theorem Xn {α:Type} {xs:List α} {k:Nat} (h:xs.length<=k):xs.drop k=[]:=Hu h
theorem Vc {α:Type} {xs:List α} {k:Nat} {x:α} (h:xs[k]? = some x):xs.take (k+1)=xs.take k++[x]:=by
 rw [List.take_add_one,h];rfl
def YR:List Zg->Nat
 | []=>0
 | d::ds=>d.cons.length+YR ds
theorem E0 (xs ys:List Zg):YR (xs++ys)=YR xs+YR ys:=by
 induction xs with
 | nil=>simp [YR]
 | cons d ds ih=>simp [YR,ih];omega
structure Wu (ds:List Zg):Prop where
 len:ds.length<=4
 cons:∀d∈ds,d.cons.length<=3
 fields:∀d∈ds,∀c∈d.cons,c.fields.length<=3
theorem Z3t {ds:List Zg} {m:Nat} (h:∀d∈ds,d.cons.length<=m):YR ds<=ds.length*m:=by
 induction ds with
 | nil=>simp [YR]
 | cons d ds ih=>
  have h1:=h d (by simp)
  have h2:=ih (fun x hx=>h x (by simp [hx]))
  simp only [YR,YS,Qt];omega
theorem Wu.sum {ds:List Zg} (h:Wu ds):YR ds<=12:=by
 have:=Z3t h.cons
 have:=h.len
 have:ds.length*3<=4*3:=QJ 3 h.len
 omega
theorem Wu.take {ds:List Zg} (h:Wu ds) (k:Nat):Wu (ds.take k):=
 ⟨by have:=h.len;simp;omega,fun d hd=>h.cons d (TO hd),fun d hd=>h.fields d (TO hd)⟩
theorem Wu.cons_at {ds:List Zg} (h:Wu ds) {k:Nat} {d:Zg} (hd:ds[k]? = some d):d.cons.length<=3:=h.cons d (ZY hd)
theorem Wu.fields_at {ds:List Zg} (h:Wu ds) {k j:Nat} {d:Zg} {c:Yn} (hd:ds[k]? = some d) (hc:d.cons[j]? = some c):c.fields.length<=3:=
 h.fields d (ZY hd) c (ZY hc)
def Ti (c:Int):List Zg->Nat->Nat->Int × LI
 | [],_,_=>(-1,[])
 | d::ds,i,first=>
  if (first:Int)<=c/\c<=((first+d.cons.length:Nat):Int)-1 then ((i:Int)+1,(d.cons[(c-first).toNat]?.map (·.fields)).getD []) else Ti c ds (i+1) (first+d.cons.length)
def Wh (ds:List Zg) (c:Int):Int:=(Ti c ds 0 0).1
def ZX (ds:List Zg) (c:Int):LI:=(Ti c ds 0 0).2
theorem I0 {c:Int}:∀{ds:List Zg} {i first:Nat},(Ti c ds i first=(-1,[]) ∨
  ∃k d x,ds[k]? = some d/\(first+YR (ds.take k):Int)<=c/\c<first+YR (ds.take k)+d.cons.length/\d.cons[(c-(first+YR (ds.take k))).toNat]? = some x/\Ti c ds i first=((i:Int)+k+1,x.fields))
 | [],_,_=>.inl rfl
 | d::ds,i,first=>by
  rw [Ti]
  split
  ·rename_i h
   have hlt:(c-first).toNat<d.cons.length:=by omega
   refine .inr ⟨0,d,d.cons[(c-first).toNat],rfl,by simp [YR];omega,by simp [YR];omega,?_,?_⟩
   ·simp [YR]
   ·rw [KL hlt];simp
  ·rcases I0 (c:=c) (ds:=ds) (i:=i+1) (first:=first+d.cons.length) with h|⟨k,e,x,h1,h2,h3,h4,h5⟩
   ·exact .inl h
   ·refine .inr ⟨k+1,e,x,by simpa using h1,by simp [YR];omega,by simp [YR];omega,?_,?_⟩
    ·rw [<-h4];congr 3;simp [YR];omega
    ·rw [h5];congr 1;omega
theorem I1 {ds:List Zg} {c:Int} (h:¬Wh ds c<1) :
  ∃k d x,ds[k]? = some d/\(YR (ds.take k):Int)<=c/\d.cons[(c-YR (ds.take k)).toNat]? = some x/\Wh ds c=(k:Int)+1/\ZX ds c=x.fields:=by
 rcases I0 (c:=c) (ds:=ds) (i:=0) (first:=0) with h1|⟨k,d,x,h1,h2,_,h4,h5⟩
 ·simp [Wh,h1] at h
 ·exact ⟨k,d,x,h1,by simpa using h2,by simpa using h4,by simp [Wh,h5],by simp [ZX,h5]⟩
theorem Fq {ds:List Zg} {c:Int} (h:Wh ds c<1):ZX ds c=[]/\Wh ds c=-1:=by
 rcases I0 (c:=c) (ds:=ds) (i:=0) (first:=0) with h1|⟨k,d,x,h1,h2,_,h4,h5⟩
 ·simp [ZX,Wh,h1]
 ·simp [Wh,h5] at h;omega
def VB (first:Int):Nat->LI
 | 0=>[]
 | n+1=>first::VB (first+1) n
theorem Ra (first:Int) (n:Nat):VB first (n+1)=VB first n++[first+n]:=by
 induction n generalizing first with
 | zero=>simp [VB]
 | succ n ih=>rw [VB,ih (first+1),VB];simp;omega
@[simp] theorem Zb8 (first:Int) (n:Nat):(VB first n).length=n:=by
 induction n generalizing first with
 | zero=>rfl
 | succ n ih=>simp [VB,ih]
def Y1 (ds:List Zg) (t:Int):LI:=
 if 1<=t/\t<=ds.length then VB (YR (ds.take (t-1).toNat)) (((ds[(t-1).toNat]?).map (·.cons.length)).getD 0) else []
def Kn (frm to_:Int):List Zg->Nat->Int
 | [],_=>-1
 | d::ds,i=>if d.cons.length=0/\d.frm=frm/\d.to_=to_ then (i:Int)+1 else Kn frm to_ ds (i+1)
def Uv (ds:List Zg) (frm to_:Int):Int:=Kn frm to_ ds 0
def W2 (ds:List Zg) (t:Int):Bool:=decide (1<=t/\t<=ds.length)&&((ds[(t-1).toNat]?).map fun d=>decide (d.cons.length=0)).getD false
theorem Gj {ds:List Zg} {t:Int} {x:Zg} (h:1<=t/\t<=ds.length) (hx:ds[(t-1).toNat]? = some x):((x.cons.length:Int)==0)=W2 ds t:=by
 rw [W2,hx,Xu];simp [h]
theorem L5 {ds:List Zg} {t:Int} (h:¬(1<=t/\t<=ds.length)):false=W2 ds t:=by
 rw [W2,Xu];simp only [Bool.false_eq_true,W6,decide_eq_true_eq,h,false_and]
def Wm (m:Nat) (xs:LI):Bool:=xs.all fun t=>decide (0<=t/\t<=m)
end Go.Abs
section
namespace Go.Abs
section
variable {h:List Res}
end
end Go.Abs
namespace Go.Abs
section
variable {P:Program} {ops:Array Oper} {k:Nat} {F:Fr} {h:List Res}
end
end Go.Abs
end
namespace Go.Abs
section
variable {P:Program} {n:Nat} {ops:Array Oper} {B:Fr->List Res->Prop} {k:Nat} {F:Fr} {h:List Res} {T:List (Nat × List Nat)} {fuel:Nat} {done:List Nat}
theorem Rn {K:Fr->List Res->Prop} {ls:List AV} {len sz:Nat} (hd:Vz n (ZC ops k)=true) (ha:TL P ops F k=some (ls,len,sz)) (hlen:ls.length=len*sz)
  (hK:∀g,K (F.put (ZC ops k).dst (.val (.slice (some ⟨g,0,none⟩) len len))) (.row (.slice (some ⟨g,0,none⟩) len len) sz ls::h)):WD P n (ZC ops k) F h K:=by
 unfold TL at ha
 generalize hoo:ZC ops k=q at ha hd hK
 obtain ⟨dst,op,type,pos,after,guard⟩:=q
 cases op<;>simp only at ha<;>try (cases ha)
 rename_i t ln parts
 split at ha
 case h_2=>cases ha
 rename_i e ht
 split at ha
 case h_2=>cases ha
 rename_i i hi
 split at ha
 case h_2=>cases ha
 rename_i hc
 simp only [W6] at hc
 split at ha
 case h_2=>cases ha
 rename_i ls' hf
 simp only [Wj,Prod.mk.injEq] at ha
 obtain ⟨rfl,rfl,Xo⟩:=ha
 intro Q w G a hF hh
 obtain ⟨cs,h1,h2⟩:=GV hF parts ht hi rfl hc.1 hc.2 hf
 have hr:(execOp a.eval { dst:=dst,op:=.buildSlice t ln parts,type:=type,pos:=pos,after:=after,guard:=guard }).run P w =
   .ok (.value (.slice (some ⟨w.heap.size,0,none⟩) ln ln)) (w.alloc (.cells cs e)):=by
  simp only [execOp]
  exact Vq h2
 unfold Oper.wp
 rw [hr]
 have hlc:=h1.length
 simp only [KJ] at hlc
 obtain ⟨j1,j2⟩:=hh.alloc_rrow cs e (ls:=ls') (len:=ln) (cap:=ln) (k:=sz) (X5 _) (by rw [hlc];exact hlen) hlen (by rw [<-hlen,<-hlc];simpa [Vd] using h1)
 exact ⟨_,_,G,hK _,(hF.mono (j2.agree hh)).put (T6 hd) .val,j1,j2⟩
theorem UW (es es':List AV) (he:es=es') (len sz:Nat) (hK:∀v,SI P n ops B (k+1) (F.put (ZC ops k).dst (.sl es' (some v))) (.tail v sz::h)) (hk:Xb n ops F k=true:=by kernel_rfl)
  (ha:TL P ops F k=some (Zp es,len,sz):=by kernel_rfl) (hlen:es.length=len:=by kernel_rfl) (hall:Ag es sz=true:=by kernel_rfl):SI P n ops B k F h:=by
 subst he;exact iL es len sz hK hk ha hlen hall
theorem WJ (i:Nat) (js bs:List Nat) (es es':List AV) (he:es=es') (len sz:Nat) (hK:∀v,YX P n ops B (T.filter fun t=>!V6 ops i t.1) fuel (done++[i]) (F.put (ZC ops i).dst (.sl es' (some v))) (.tail v sz::h))
  (hk:Xb n ops F i=true:=by kernel_rfl) (ha:TL P ops F i=some (Zp es,len,sz):=by kernel_rfl) (hlen:es.length=len:=by kernel_rfl) (hall:Ag es sz=true:=by kernel_rfl)
  (ho:Ue ops i T=bs:=by kernel_rfl) (hj:js.map (fun j=>(WM h)[j]?)=bs.map some:=by kernel_rfl):Vy P n ops B T fuel done F h i:=by
 subst he;exact dL i js bs es len sz hK hk ha hlen hall ho hj
theorem iKN (ls:List AV) (len sz:Nat) (hK:∀g,SI P n ops B (k+1) (F.put (ZC ops k).dst (.val (.slice (some ⟨g,0,none⟩) len len))) (.row (.slice (some ⟨g,0,none⟩) len len) sz ls::h)) (hlen:ls.length=len*sz:=by rfl) (hk:Xb n ops F k=true:=by kernel_rfl)
  (ha:TL P ops F k=some (ls,len,sz):=by kernel_rfl):SI P n ops B k F h:=TG hk (Rn (VN hk).2.1 ha hlen hK)
theorem dKN (i:Nat) (js bs:List Nat) (ls:List AV) (len sz:Nat) (hK:∀g,YX P n ops B (T.filter fun t=>!V6 ops i t.1) fuel (done++[i]) (F.put (ZC ops i).dst (.val (.slice (some ⟨g,0,none⟩) len len))) (.row (.slice (some ⟨g,0,none⟩) len len) sz ls::h)) (hlen:ls.length=len*sz:=by rfl)
  (hk:Xb n ops F i=true:=by kernel_rfl) (ha:TL P ops F i=some (ls,len,sz):=by kernel_rfl) (ho:Ue ops i T=bs:=by kernel_rfl) (hj:js.map (fun j=>(WM h)[j]?)=bs.map some:=by kernel_rfl):Vy P n ops B T fuel done F h i:=
 Kv (h1:=[]) (h2:=h) [] js bs hk rfl ho hj (Rn (VN hk).2.1 ha hlen hK)
end
theorem WC.frz {P:Program} {f:FuncId} {as1:List AV} {h0:List Res} {E:Type} {kk:Nat} {es:E->List AV} {hs:E->List Res} {Q:E->Prop} (H:WC P f as1 h0 (fun r h=>∃(e:E) (v:Hd),r=.h v/\h=rK v kk (Zp (es e))::hs e/\Q e)) (hes:∀e,∀y∈es e,y.leaves.length=kk) (hk:0<kk) :
  WC P f as1 h0 (fun r h=>∃(e:E) (v:Value),r=.sl (es e) (some v)/\h=.tail v kk::hs e/\Q e):=by
 intro w G vs hv hh
 refine (H w G vs hv hh).mono ?_
 rintro e w' ⟨u,r,h',G',he,⟨x,v,rfl,rfl,hq⟩,hr,hh',hx⟩
 obtain ⟨G2,h1,h2,h3⟩:=Cx hh' (hes x) hk
 have hrv:=hr.val_inv
 subst hrv
 exact ⟨_,_,_,G2,he,⟨x,v.v,rfl,rfl,hq⟩,h3,h1,hx.trans h2⟩
theorem FU {es:List AV} {sz k:Nat} {y:AV} (h:∀x∈es,x.leaves.length=sz) (hy:y.leaves.length=sz) (hk:k<es.length):(Zp es).take (k*sz)++y.leaves++(Zp es).drop (k*sz+y.leaves.length)=Zp (es.set k y):=by
 obtain ⟨x,hx⟩:=QW (xs:=es) (j:=k) hk
 have hxl:=h x (ZY hx)
 have e1:es=es.take k++(x::es.drop (k+1)):=by rw [<-Ya hx,Uu]
 have e2:es.set k y=es.take k++(y::es.drop (k+1)):=by rw [F3,Ze hk]
 have hl:(Zp (es.take k)).length=k*sz:=by rw [TS (k:=sz) _ (fun z hz=>h z (TO hz)),WH,VG om]
 have e3:Zp es=Zp (es.take k)++(x.leaves++Zp (es.drop (k+1))):=by
  conv=>lhs;rw [e1,Qv]
  simp [Zp]
 rw [e2,Qv,e3,M0 hl (by rw [hxl,hy])]
 simp [Zp]
theorem Z4x (ds:List Zg) (k:Nat) (d:Zg):X7 (ds.set k d)=(X7 ds).set k (C4 d):=by simp [X7,List.map_set]
theorem Cg (xs:List Zg):(Zp (X7 xs)).length=xs.length*3:=by rw [TS (k:=3) _ (Jr xs)];simp
theorem FM {ds:List Zg} {k:Nat} (d:Zg) (hk:k<ds.length):(Zp (X7 ds)).take (k*3)++K3 d++(Zp (X7 ds)).drop (k*3+3)=Zp (X7 (ds.set k d)):=by
 rw [Z4x];exact FU (y:=C4 d) (Jr ds) rfl (by simpa using hk)
theorem Iu (xs ys:List Zg):Zp (X7 xs)++Zp (X7 ys)=Zp (X7 (xs++ys)):=by rw [Z4w,Qv]
section
variable {P:Program} {n:Nat} {ops:Array Oper} {B:Fr->List Res->Prop} {k:Nat} {F:Fr} {h:List Res}
theorem Ga (j m:Nat) {v:Hd} {kk:Nat} {ls:List AV} (hm:ls.length=m*kk) (h0:0<m) (H:∀g c',v=⟨some ⟨g,0,none⟩,m,c'⟩->SI P n ops B k F h) (hk:0<kk:=by omega) (hj:h[j]? = some (rK v kk ls):=by kernel_rfl):SI P n ops B k F h:=by
 intro Q w G a hF hh hq
 obtain ⟨g,c',e⟩:=RX (hh.ok _ (ZY hj)) hm hk h0
 exact H g c' e Q w G a hF hh hq
end
section
variable {P:Program} {n:Nat} {ops:Array Oper} {B:Fr->List Res->Prop} {k:Nat} {F:Fr} {h:List Res}
def I3 (P:Program) (ops:Array Oper) (F:Fr) (k:Nat):Option (IntKind × Int):=
 match (ZC ops k).op with
 | .convert s d x=>match P.underlying s,P.underlying d,F.ev x with
  | some (.int _),some (.int q),.val (.int _ z)=>some (q,z)
  | _,_,_=>none
 | _=>none
theorem kCv (q:IntKind) (z z':Int) (e:q.wrap z=z') (hc:I3 P ops F k=some (q,z):=by kernel_rfl):XA P (ZC ops k) F h [] (.val (.int q z')):=by
 unfold I3 at hc
 generalize hoo:ZC ops k=o at hc
 obtain ⟨dst,op,type,pos,after,guard⟩:=o
 cases op<;>simp only at hc<;>try (cases hc)
 rename_i s d x
 split at hc
 ·rename_i q1 q2 q3 z2 h1 h2 h3
  cases hc
  intro n w G ac hF hh
  have v1:=hF.ev x
  rw [h3] at v1
  have v1:=v1.val_inv
  refine ⟨_,.val,fun w' _ _=>?_⟩
  simp only [execOp,v1]
  refine Vq ?_
  simp [convert,VP h1,VP h2,Conv.intToInt,e]
 ·cases hc
theorem MN {z:Int} (h:0<=z/\z<=9223372036854775807):IntKind.i64.wrap z=z:=IntWalk.i64_in _ om
theorem Dl (z:Int) (hz:0<=z/\z<=255) (hc:I3 P ops F k=some (.i64,z):=by kernel_rfl):XA P (ZC ops k) F h [] (.i z):=kCv .i64 z z (MN om) hc
def Bd (ops:Array Oper) (F:Fr) (k:Nat) (b:BinOp):Option (Int × Int):=
 match (ZC ops k).op with
 | .binOp c _ x y _=>if c==b then match F.ev x,F.ev y with
  | .val (.int .i64 z),.val (.int .i64 u)=>some (z,u)
  | _,_=>none else none
 | _=>none
theorem Lb (a b:Int) (hb:0<b) (ha:0<=a/\a<=9223372036854775807) (hc:Bd ops F k .quo=some (a,b):=by kernel_rfl):XA P (ZC ops k) F h [] (.i (a / b)):=by
 unfold Bd at hc
 generalize hoo:ZC ops k=o at hc
 obtain ⟨dst,op,type,pos,after,guard⟩:=o
 cases op<;>simp only at hc<;>try (cases hc)
 rename_i bop t x y yt
 cases bop<;>simp only [Zq,reduceCtorEq,if_false,if_true] at hc<;>try (cases hc)
 split at hc
 ·rename_i z yk h1 h2
  cases hc
  intro n' w G ac hF hh
  have v1:=hF.ev x
  have v2:=hF.ev y
  rw [h1] at v1
  rw [h2] at v2
  have v1:=v1.val_inv
  have v2:=v2.val_inv
  refine ⟨_,.val,fun w' _ _=>?_⟩
  simp only [execOp,v1,v2]
  refine Vq ?_
  have e1:a.tdiv b=a / b:=Int.tdiv_eq_ediv_of_nonneg ha.1
  have e2:IntKind.i64.wrap (a / b)=a / b:=MN ⟨Int.ediv_nonneg ha.1 om,Int.le_trans (Int.ediv_le_self b ha.1) ha.2⟩
  have e3:b≠0:=by omega
  simp [eqGuard,binOp,Op.intDiv,e1,e2,e3]
 ·cases hc
theorem En (a b:Int) (hb:0<b) (ha:0<=a) (hc:Bd ops F k .rem=some (a,b):=by kernel_rfl):XA P (ZC ops k) F h [] (.i (a % b)):=by
 unfold Bd at hc
 generalize hoo:ZC ops k=o at hc
 obtain ⟨dst,op,type,pos,after,guard⟩:=o
 cases op<;>simp only at hc<;>try (cases hc)
 rename_i bop t x y yt
 cases bop<;>simp only [Zq,reduceCtorEq,if_false,if_true] at hc<;>try (cases hc)
 split at hc
 ·rename_i z yk h1 h2
  cases hc
  intro n' w G ac hF hh
  have v1:=hF.ev x
  have v2:=hF.ev y
  rw [h1] at v1
  rw [h2] at v2
  have v1:=v1.val_inv
  have v2:=v2.val_inv
  refine ⟨_,.val,fun w' _ _=>?_⟩
  simp only [execOp,v1,v2]
  refine Vq ?_
  have e1:a.tmod b=a % b:=Int.tmod_eq_emod_of_nonneg ha
  have e3:b≠0:=by omega
  simp [eqGuard,binOp,Op.intDiv,e1,e3]
 ·cases hc
theorem Cp (a b:Nat) (hb:0<b) (ha:a<=9223372036854775807) (hc:Bd ops F k .quo=some ((a:Int),(b:Int)):=by kernel_rfl):XA P (ZC ops k) F h [] (.i (a / b:Nat)):=by
 rw [Int.natCast_ediv];exact Lb a b om om hc
theorem Gl (a b:Nat) (hb:0<b) (_ha:a<=9223372036854775807) (hc:Bd ops F k .rem=some ((a:Int),(b:Int)):=by kernel_rfl):XA P (ZC ops k) F h [] (.i (a % b:Nat)):=by
 rw [Int.natCast_emod];exact En a b om om hc
def AX (a b:Int):Int:=IntKind.i64.wrap ((BitVec.ofInt 64 a ^^^ BitVec.ofInt 64 b).toNat:Int)
theorem Hq {a b:Int} (ha:0<=a/\a<4611686018427387904) (hb:0<=b/\b<4611686018427387904):0<=AX a b/\AX a b<4611686018427387904:=by
 obtain ⟨x,rfl⟩:=Int.eq_ofNat_of_zero_le ha.1
 obtain ⟨y,rfl⟩:=Int.eq_ofNat_of_zero_le hb.1
 have h1:(BitVec.ofInt 64 (x:Int) ^^^ BitVec.ofInt 64 (y:Int)).toNat=x ^^^ y:=by
  rw [BitVec.toNat_xor,BitVec.toNat_ofInt,BitVec.toNat_ofInt]
  have e1:((x:Int) % ((2 ^ 64:Nat):Int)).toNat=x:=by omega
  have e2:((y:Int) % ((2 ^ 64:Nat):Int)).toNat=y:=by omega
  rw [e1,e2]
 have h2:x ^^^ y<2 ^ 62:=Nat.xor_lt_two_pow om om
 rw [AX,h1,MN om]
 omega
theorem Pq (a b:Int) (hc:Bd ops F k .xor=some (a,b):=by kernel_rfl):XA P (ZC ops k) F h [] (.i (AX a b)):=by
 unfold Bd at hc
 generalize hoo:ZC ops k=o at hc
 obtain ⟨dst,op,type,pos,after,guard⟩:=o
 cases op<;>simp only at hc<;>try (cases hc)
 rename_i bop t x y yt
 cases bop<;>simp only [Zq,reduceCtorEq,if_false,if_true] at hc<;>try (cases hc)
 split at hc
 ·rename_i z yk h1 h2
  cases hc
  intro n' w G ac hF hh
  have v1:=hF.ev x
  have v2:=hF.ev y
  rw [h1] at v1
  rw [h2] at v2
  have v1:=v1.val_inv
  have v2:=v2.val_inv
  refine ⟨_,.val,fun w' _ _=>?_⟩
  simp only [execOp,v1,v2]
  refine Vq ?_
  simp [eqGuard,binOp,Op.intBits,IntKind.bits]
  exact Yr (fun z:Nat=>IntKind.i64.wrap (z:Int)) (by rw [BitVec.toNat_xor,BitVec.toNat_ofInt,BitVec.toNat_ofInt];rfl)
 ·cases hc
end
end Go.Abs
section
namespace Go.Abs
inductive Z2 where
 | mk (op num:Int) (kids:List Z2)
namespace Z2
def op:Z2->Int|.mk a _ _=>a
def num:Z2->Int|.mk _ a _=>a
def kids:Z2->List Z2|.mk _ _ a=>a
end Z2
structure Func where
 params:LI
 result:Int
 body:Z2
structure Wd where
 decls:List Zg
 funcs:List Func
instance:Inhabited Z2:=⟨.mk 0 0 []⟩
mutual
def Ij:Z2->AV
 | .mk op num kids=>.agg [.i op,.i num,.sl (Yw kids) none]
def Yw:List Z2->List AV
 | []=>[]
 | e::r=>Ij e::Yw r
end
abbrev Y8 (e:Z2):AV:=.agg [.i e.op,.i e.num,.sl (Yw e.kids) none]
abbrev YZ (e:Z2):List AV:=[.i e.op,.i e.num,.sl (Yw e.kids) none]
abbrev XD (xs:List Z2):AV:=.sl (Yw xs) none
abbrev QA (xs:List Z2) (v:Value):AV:=.sl (Yw xs) (some v)
abbrev DP (f:Func):AV:=.agg [Z4 f.params,.i f.result,.i f.body.op,.i f.body.num,XD f.body.kids]
abbrev Gp (f:Func):List AV:=[Z4 f.params,.i f.result,.i f.body.op,.i f.body.num,XD f.body.kids]
def Xt (xs:List Func):List AV:=xs.map DP
abbrev Gy (xs:List Func):AV:=.sl (Xt xs) none
abbrev Af (p:Wd):AV:=.agg [ZW p.decls,Gy p.funcs]
abbrev Lg (p:Wd):List AV:=[ZW p.decls,Gy p.funcs]
abbrev HG (z:Int):AV:=.val (.int .u8 z)
def TZ (xs:LI):List AV:=xs.map HG
abbrev VA (xs:LI):AV:=.sl (TZ xs) none
theorem Z4y (e:Z2):Ij e=Y8 e:=by cases e;rw [Ij];rfl
theorem XP:∀xs:List Z2,Yw xs=xs.map Y8
 | []=>by rw [Yw];rfl
 | s::ss=>by rw [Yw,XP ss,Z4y];rfl
theorem D0 {xs:List Z2} {j:Nat} {x:Z2} (h:xs[j]? = some x):(Yw xs)[j]? = some (Y8 x):=by simp [XP,h]
theorem FB {xs:List Func} {j:Nat} {x:Func} (h:xs[j]? = some x):(Xt xs)[j]? = some (DP x):=by simp [Xt,h]
theorem CW {xs:LI} {j:Nat} {x:Int} (h:xs[j]? = some x):(TZ xs)[j]? = some (HG x):=by simp [TZ,h]
@[simp] theorem Ik (xs:List Z2):(Yw xs).length=xs.length:=by simp [XP]
@[simp] theorem D3 (xs:List Func):(Xt xs).length=xs.length:=by simp [Xt]
@[simp] theorem Qf (xs:LI):(TZ xs).length=xs.length:=by simp [TZ]
theorem JP (xs ys:List Z2):Yw (xs++ys)=Yw xs++Yw ys:=by simp [XP]
theorem Z4z (xs ys:List Func):Xt (xs++ys)=Xt xs++Xt ys:=by simp [Xt]
theorem If (xs:LI) (n:Nat):(TZ xs).take n=TZ (xs.take n):=by simp [TZ]
theorem Ie (xs:LI) (n:Nat):(TZ xs).drop n=TZ (xs.drop n):=by simp [TZ]
theorem Tn (xs:List Z2):∀y∈Yw xs,y.leaves.length=3:=by intro y hy;simp only [XP,Wc] at hy;obtain ⟨x,_,rfl⟩:=hy;rfl
theorem FC (xs:List Func):∀y∈Xt xs,y.leaves.length=5:=by intro y hy;simp only [Xt,Wc] at hy;obtain ⟨x,_,rfl⟩:=hy;rfl
theorem Z4u (xs:LI):∀y∈TZ xs,y.leaves.length=1:=by intro y hy;simp only [TZ,Wc] at hy;obtain ⟨x,_,rfl⟩:=hy;rfl
theorem JQ (xs:List Z2):(Zp (Yw xs)).all AV.one=true:=Jt fun y hy=>by simp only [XP,Wc] at hy;obtain ⟨x,_,rfl⟩:=hy;rfl
end Go.Abs
end
section
namespace Go.Abs
open Go.Proofs Go.Proofs.YtjmahledcmocoaaGreat
section
variable {H:Type} {enc:TypeId × Value->H} {w:World}
def GA (w:World):Ye:=fun b _=>b<w.heap.size
abbrev Tr (enc:TypeId × Value->H) (w:World) (n:Nat) (t:TypeId) (cs:List Value) (x:DataW H × List MemPlace):Prop:=DataW.trod enc Tryz.prog w 0 (fun _=>true) true n t cs=some x
theorem PW {w:World} {a:Addr} {v:Value} (h:w.cell? a=some v):a.block<w.heap.size/\a.spot=none:=by
 unfold World.cell? at h
 split at h
 ·rename_i c e fr hb
  split at h
  ·cases h
  ·rename_i hs
   exact ⟨(T2.1 hb).1,by simpa using hs⟩
 ·cases h
theorem NA {α:Type} {c:α->Nat}:∀{xs:List α} {ds:List (DataW H)},xs.length=ds.length->(∀(i:Nat) a d,xs[i]? = some a->ds[i]? = some d->c a+1<=Rows.uptoBulk d)->(xs.map fun a=>c a+1).sum<=Rows.uptoBulkAll ds
 | [],[],_,_=>X5 _
 | a::r,d::ds,hl,h=>by
  have h0:=h 0 a d rfl rfl
  have h1:=NA (c:=c) (xs:=r) (ds:=ds) (by simpa using hl) fun i a d ha hd=>h (i+1) a d (by simpa using ha) (by simpa using hd)
  rw [UE,List.sum_cons,Rows.uptoBulkAll]
  omega
theorem RO {α:Type} {f:α->AV} {G:Ye} {k b:Nat} (hf:∀x,(f x).leaves.length=k):∀{xs:List α} {o:Nat},(∀(i:Nat) a,xs[i]? = some a->Ww w G b (o+i*k) (f a).leaves)->Vn w G k b o (xs.map f)
 | [],_,_=>.nil
 | x::r,o,h=>by
  refine .cons (hf x) (by have:=h 0 x rfl;simpa using this) (RO hf fun i a ha=>?_)
  have:=h (i+1) a (by simpa using ha)
  rw [show o+(i+1)*k=o+k+i*k by rw [Qt];omega] at this
  exact this
theorem Zcc {α:Type} [Inhabited α] {t e k:Nat} (ht:Tryz.prog.underlying t=some (.slice e)) (hk:Tryz.prog.cellsOf e=k) (h0:0<k) (f:α->AV) (hf:∀x,(f x).leaves.length=k) (c:α->Nat) (Q:α->Prop) {n:Nat} {cs:List Value} {x:DataW H × List MemPlace}
  (h:Tr enc w n t cs x) (el:∀m cs y,m<n->Tr enc w m e cs y->∃a:α,YV w (GA w) (f a).leaves cs/\c a+1<=Rows.uptoBulk y.1/\Q a) :
  ∃(v:Value) (xs:List α),cs=[v]/\RV w (GA w) (.sl (xs.map f) none) v/\(xs.map fun a=>c a+1).sum+1<=Rows.uptoBulk x.1/\∀a∈xs,Q a:=by
 rcases DataW.trod_slice ht h with ⟨rfl,rfl⟩|⟨a,len,cap,elems,rest,m,rfl,rfl,rfl,_,hlc,_,hlen,hel,_,_⟩
 ·exact ⟨_,[],rfl,.nil (by simp),by simp [Rows.uptoBulk],by simp⟩
 ·rw [hk] at hel
  have hone:∀i,i<len->∃z:α,∃cs' y,w.cells? 0 (a.add (i*k)) k=some cs'/\elems[i]? = some y/\YV w (GA w) (f z).leaves cs'/\c z+1<=Rows.uptoBulk y.1/\Q z:=by
   intro i hi
   have h1:=hel i hi
   rw [KL om] at h1
   obtain ⟨cs',h2,h3⟩:=Option.bind_eq_some_iff.1 h1
   obtain ⟨z,hz1,hz2,hz3⟩:=el m cs' _ om h3
   exact ⟨z,cs',_,h2,KL om,hz1,hz2,hz3⟩
  obtain ⟨V,hV⟩:=Go.Deep.choose_lt hone
  refine ⟨_,(List.range len).map V,rfl,?_,?_,?_⟩
  ·cases hl0:len with
   | zero=>exact .nil (by simp)
   | succ q=>
    have hsp:a.spot=none:=by
     obtain ⟨cs',y,g1,_⟩:=hV 0 om
     obtain ⟨_,g2,g3⟩:=World.cells?_some g1
     have g4:=g3 0 h0
     rw [KL om] at g4
     have g5:=(PW g4).2
     simpa [Addr.add] using g5
    obtain ⟨b,o,sp⟩:=a
    simp only at hsp
    subst hsp
    rw [<-hl0]
    have hll:(((List.range len).map V).map f).length=len:=by simp
    have:=RV.sl (w:=w) (G:=GA w) (es:=((List.range len).map V).map f) (hv:=none) (b:=b) (o:=o) (k:=k) (cap:=cap) (by simp) (by rw [hll];exact hlc) (RO hf fun i z hz=>by
     have hi:i<len:=by have:=(Xi.1 hz).1;simpa using this
     have hz':V i=z:=by simpa [hi] using hz
     obtain ⟨cs',y,g1,_,g2,_⟩:=hV i hi
     rw [hz'] at g2
     obtain ⟨_,g3,g4⟩:=World.cells?_some g1
     refine Ww.of_cells g2 fun j u hj=>?_
     have hjl:j<k:=by have:=(Xi.1 hj).1;omega
     have g5:=(g4 j hjl).trans hj
     rw [Addr.add_lit,Addr.add_lit] at g5
     exact ⟨g5,(PW g5).1⟩)
    rw [hll] at this
    exact this
  ·have:=NA (c:=c) (xs:=(List.range len).map V) (ds:=elems.map (·.1)) (by simp [hlen]) fun i z d hz hd=>by
    have hi:i<len:=by have:=(Xi.1 hz).1;simpa using this
    have hz':V i=z:=by simpa [hi] using hz
    obtain ⟨cs',y,_,g1,_,g2,_⟩:=hV i hi
    rw [Tg,g1] at hd
    simp only [BX,Wj] at hd
    rw [<-hd,<-hz']
    exact g2
   simp only [Rows.uptoBulk]
   omega
  ·intro z hz
   obtain ⟨i,hi,rfl⟩:=Wc.1 hz
   obtain ⟨_,_,_,_,_,_,g⟩:=hV i (List.mem_range.1 hi)
   exact g
theorem Zcb {n:Nat} {cs:List Value} {x:DataW H × List MemPlace} (h:Tr enc w n 5 cs x):∃z:Int,cs=[.int .u8 z]/\Rows.uptoBulk x.1=1/\0<=z/\z<=255:=by
 obtain ⟨z,rfl,rfl,hw⟩:=DataW.trod_int Tryz.underlying5 h
 refine ⟨z,rfl,rfl,?_⟩
 simpa [Lit.wf,IntKind.min,IntKind.max,IntKind.signed,IntKind.bits] using hw
theorem EJ {n:Nat} {cs:List Value} {x:DataW H × List MemPlace} (h:Tr enc w n 22 cs x):∃(v:Value) (xs:LI),cs=[v]/\RV w (GA w) (VA xs) v/\∀z∈xs,0<=z/\z<=255:=by
 obtain ⟨v,xs,h1,h2,h3,h4⟩:=Zcc Tryz.underlying22 (k:=1) kr om (fun z:Int=>HG z) (fun _=>rfl) (fun _=>0) (fun z=>0<=z/\z<=255) h fun m cs y _ hy=>by
  obtain ⟨z,rfl,hb,hz⟩:=Zcb hy
  exact ⟨z,.cons .val .nil,Nat.le_of_eq hb.symm,hz⟩
 exact ⟨v,xs,h1,h2,h4⟩
end
end Go.Abs
end
namespace Go.Abs
structure Sg where
 params:LI
 result:Int
abbrev MV (f:Sg):AV:=.agg [.sl (Z6 f.params) none,.i f.result,.i 0,.i 0,.sl [] none]
def Ux (fs:List Sg):List AV:=fs.map MV
theorem In {xs:List Sg} {j:Nat} {x:Sg} (h:xs[j]? = some x):(Ux xs)[j]? = some (MV x):=by simp [Ux,h]
@[simp] theorem O4 (xs:List Sg):(Ux xs).length=xs.length:=by simp [Ux]
theorem O3 (xs:List Sg):∀y∈Ux xs,y.leaves.length=5:=by intro y hy;simp only [Ux,Wc] at hy;obtain ⟨x,_,rfl⟩:=hy;rfl
theorem Z53 (xs:List Sg):(Zp (Ux xs)).all AV.one=true:=Jt fun y hy=>by simp only [Ux,Wc] at hy;obtain ⟨x,_,rfl⟩:=hy;rfl
mutual
def Z5.sz:Z5->Nat
 | .mk _ _ _ args kids=>1+args.length+Xa kids
def Z7.sz:Z7->Nat
 | .mk steps _=>1+Y9 steps
def Y9:List Z5->Nat
 | []=>0
 | s::r=>s.sz+Y9 r
def Xa:List Z7->Nat
 | []=>0
 | b::r=>b.sz+Xa r
end
theorem Z5.sz_pos (s:Z5):1<=s.sz:=by cases s;rw [Z5.sz];omega
theorem Z7.sz_pos (b:Z7):1<=b.sz:=by cases b;rw [Z7.sz];omega
theorem J9 (l:List Z5):l.length<=Y9 l:=by
 induction l with
 | nil=>simp
 | cons s r ih=>have:=s.sz_pos;simp only [YS,Y9];omega
theorem Nx (l:List Z7):l.length<=Xa l:=by
 induction l with
 | nil=>simp
 | cons s r ih=>have:=s.sz_pos;simp only [YS,Xa];omega
theorem SO {l:List Z5} {k:Nat} {s:Z5} (h:l[k]? = some s):s.sz<=Y9 l:=by
 induction l generalizing k with
 | nil=>simp at h
 | cons t r ih=>
  cases k with
  | zero=>simp at h;subst h;simp only [Y9];omega
  | succ k=>have:=ih (k:=k) (by simpa using h);simp only [Y9];omega
theorem Z2t {l:List Z7} {k:Nat} {s:Z7} (h:l[k]? = some s):s.sz<=Xa l:=by
 induction l generalizing k with
 | nil=>simp at h
 | cons t r ih=>
  cases k with
  | zero=>simp at h;subst h;simp only [Xa];omega
  | succ k=>have:=ih (k:=k) (by simpa using h);simp only [Xa];omega
theorem Z5.sz_eq (s:Z5):s.sz=1+s.args.length+Xa s.kids:=by cases s;rw [Z5.sz];rfl
theorem Z7.sz_eq (b:Z7):b.sz=1+Y9 b.steps:=by cases b;rw [Z7.sz];rfl
theorem KI {b:Z7} {k:Nat} {s:Z5} (h:b.steps[k]? = some s):s.sz<b.sz:=by have:=SO h;have:=b.sz_eq;omega
theorem Tv {s:Z5} {k:Nat} {b:Z7} (h:s.kids[k]? = some b):b.sz<s.sz:=by have:=Z2t h;have:=s.sz_eq;omega
theorem Qc (s:Z5):s.args.length<s.sz:=by have:=s.sz_eq;omega
theorem TK (s:Z5):s.kids.length<s.sz:=by have:=s.sz_eq;have:=Nx s.kids;omega
theorem U6 (b:Z7):b.steps.length<b.sz:=by have:=b.sz_eq;have:=J9 b.steps;omega
structure Ac (ds:List Zg):Prop where
 len:ds.length<=4194304
 cons:∀d∈ds,d.cons.length<=4194304
 fields:∀d∈ds,∀c∈d.cons,c.fields.length<=4194304
theorem Ac.cons_at {ds:List Zg} (h:Ac ds) {k:Nat} {d:Zg} (hd:ds[k]? = some d):d.cons.length<=4194304:=h.cons d (ZY hd)
def Jp (m:Nat) (c:Yn):Bool:=decide (c.fields.length<=3)&&Wm m c.fields
def QS (d:Zg):List Zg->Bool
 | []=>false
 | e::r=>if e.cons.length=0/\e.frm=d.frm/\e.to_=d.to_ then true else QS d r
def TQ (m:Nat):List Yn->Bool
 | []=>true
 | c::r=>if Jp m c=true then TQ m r else false
def UR (ds:List Zg) (d:Zg) (i:Nat):Bool:=
 if 0<d.cons.length then (if d.cons.length<=3/\d.frm=0/\d.to_=0 then TQ ds.length d.cons else false)
 else if QS d (ds.take i)=true then false else decide (0<=d.frm/\d.frm<=ds.length)&&decide (0<=d.to_/\d.to_<=ds.length)
def Cb (ds:List Zg) (i:Nat):Bool:=(ds[i]?.map fun d=>UR ds d i).getD false
theorem E1 {ds:List Zg} {i:Nat} {d:Zg} (h:ds[i]? = some d):Cb ds i=UR ds d i:=by rw [Cb,h];rfl
def Tl (ds:List Zg):List Zg->Nat->Bool
 | [],_=>true
 | _::r,i=>if Cb ds i=true then Tl ds r (i+1) else false
def WX (ds:List Zg):Bool:=decide (ds.length<=4)&&Tl ds ds 0
theorem NS {m:Nat} {cs:List Yn}:TQ m cs=true↔∀c∈cs,Jp m c=true:=by
 induction cs with
 | nil=>simp [TQ]
 | cons c r ih=>
  rw [TQ]
  split
  ·rename_i h;simp [ih,h]
  ·rename_i h;simp [h]
theorem I6 {ds:List Zg}:∀{l:List Zg} {i:Nat},Tl ds l i=true↔∀j<l.length,Cb ds (i+j)=true
 | [],i=>by simp [Tl]
 | d::r,i=>by
  rw [Tl]
  split
  ·rename_i h
   rw [I6 (l:=r)]
   constructor
   ·intro hq j hj
    cases j with
    | zero=>exact h
    | succ j=>have:=hq j (by simpa using hj);rwa [show i+(j+1)=i+1+j by omega]
   ·intro hq j hj
    have:=hq (j+1) (by simpa using hj)
    rwa [show i+(j+1)=i+1+j by omega] at this
  ·rename_i h
   simp only [Bool.false_eq_true,false_iff]
   intro hq
   exact h (hq 0 (by simp))
theorem Zgl {ds:List Zg} (h:WX ds=true):Wu ds:=by
 simp only [WX,W6,decide_eq_true_eq] at h
 obtain ⟨h1,h2⟩:=h
 rw [I6] at h2
 have key:∀d∈ds,∃i,UR ds d i=true:=fun d hd=>by
  obtain ⟨i,hi⟩:=List.mem_iff_getElem?.1 hd
  have:=h2 i (Xi.1 hi).1
  rw [Vl,E1 hi] at this
  exact ⟨i,this⟩
 have hc:∀d∈ds,0<d.cons.length->d.cons.length<=3/\TQ ds.length d.cons=true:=fun d hd hp=>by
  obtain ⟨i,hi⟩:=key d hd
  rw [UR,Ze hp] at hi
  split at hi
  ·rename_i h;exact ⟨h.1,hi⟩
  ·cases hi
 refine ⟨h1,fun d hd=>?_,fun d hd c hc'=>?_⟩
 ·by_cases hp:0<d.cons.length
  ·exact (hc d hd hp).1
  ·omega
 ·have:=NS.1 (hc d hd (List.length_pos_of_mem hc')).2 c hc'
  simp only [Jp,W6,decide_eq_true_eq] at this
  exact this.1
def J6 (m:Nat) (f:Sg):Bool:=decide (f.params.length<=3)&&(Wm m f.params&&decide (0<=f.result/\f.result<=m))
def J7 (m:Nat):List Sg->Bool
 | []=>true
 | f::r=>if J6 m f=true then J7 m r else false
def FL:List Sg->Bool
 | []=>false
 | f::_=>decide (f.params.length=0)&&decide (f.result=0)
theorem Z5j {fs:List Sg} {x:Sg} (h:fs[0]? = some x):FL fs=(decide (x.params.length=0)&&decide (x.result=0)):=by
 cases fs with
 | nil=>simp at h
 | cons f r=>simp at h;subst h;rfl
def Kg (ds:List Zg) (fs:List Sg):Bool:=
 WX ds&&(decide (1<=fs.length/\fs.length<=4)&&(J7 ds.length fs&&FL fs))
def Qz (ps:LI):LI->Option Int->Bool
 | [],_=>true
 | v::r,prev=>if (0<=v/\v<=(ps.length:Int)-1)/\ps[v.toNat]?≠some 0/\(∀p,prev=some p->p<v) then Qz ps r (some v) else false
theorem Lm {ps r:LI} {v:Int} {prev:Option Int} (h:(0<=v/\v<=(ps.length:Int)-1)/\ps[v.toNat]?≠some 0/\(∀p,prev=some p->p<v)):Qz ps (v::r) prev=Qz ps r (some v):=by
 rw [Qz,Ze h]
theorem Gu {ps r:LI} {v:Int} {prev:Option Int} (h:¬((0<=v/\v<=(ps.length:Int)-1)/\ps[v.toNat]?≠some 0/\(∀p,prev=some p->p<v))):Qz ps (v::r) prev=false:=by
 rw [Qz,Z8 h]
def Jg (ps ls:LI):Bool:=Qz ps ls none
def J3:List Yb->Bool
 | []=>true
 | r::rs=>if Jg r.params r.lent=true then J3 rs else false
def UK (r:Yb):Sg:=⟨r.params,r.result⟩
def VX (n:Zi):Bool:=decide (n.routines.length<=4)&&(Kg n.decls (n.routines.map UK)&&J3 n.routines)
end Go.Abs
section
namespace Go.Abs
def Xy {α:Type} (xs:List α) (i:Int):Option α:=if 0<=i/\i<=(xs.length:Int)-1 then xs[i.toNat]? else none
theorem Qd {α:Type} {xs:List α} {i:Int} {x:α} (h:0<=i/\i<=(xs.length:Int)-1) (hx:xs[i.toNat]? = some x):Xy xs i=some x:=by rw [Xy,Ze h,hx]
theorem Ko {α:Type} {xs:List α} {i:Int} (h:¬(0<=i/\i<=(xs.length:Int)-1)):Xy xs i=none:=by rw [Xy,Z8 h]
theorem Kq {α:Type} {xs:List α} {i:Int} {x:α} (h:Xy xs i=some x):(0<=i/\i<=(xs.length:Int)-1)/\xs[i.toNat]? = some x:=by
 rw [Xy] at h
 split at h
 ·rename_i h1;exact ⟨h1,h⟩
 ·cases h
def Td (vars:LI):LI->LI->Bool
 | [],[]=>true
 | a::as1,t::ts=>if Xy vars a=some t then Td vars as1 ts else false
 | _,_=>false
def Wg (vars args types:LI):Bool:=Td vars args types
theorem Z0j {vars:LI}:∀{args types:LI},args.length≠types.length->Td vars args types=false
 | [],[],h=>absurd rfl h
 | [],_::_,_=>rfl
 | _::_,[],_=>rfl
 | a::as1,t::ts,h=>by
  rw [Td]
  split
  ·exact Z0j (by simpa using h)
  ·rfl
theorem Zgd {vars args types:LI} {k:Nat} {a t:Int} (ha:args[k]? = some a) (ht:types[k]? = some t) (h:Xy vars a=some t) :
  Td vars (args.drop k) (types.drop k)=Td vars (args.drop (k+1)) (types.drop (k+1)):=by
 rw [Ya ha,Ya ht,Td,Ze h]
theorem Z0i {vars args types:LI} {k:Nat} {a t:Int} (ha:args[k]? = some a) (ht:types[k]? = some t) (h:Xy vars a≠some t) :
  Td vars (args.drop k) (types.drop k)=false:=by
 rw [Ya ha,Ya ht,Td,Z8 h]
theorem Zgc {vars args types:LI} {k:Nat} (ha:args.length<=k) (ht:types.length<=k):Td vars (args.drop k) (types.drop k)=true:=by
 rw [Xn ha,Xn ht];rfl
def VK (op:Int):Bool:=op==0||(op==6||(op==8||(op==9||op==10)))
def XS (op:Int):Bool:=decide (0<=op/\op<=11)
def YH (op:Int):Bool:=decide (14<=op/\op<=17)
def Uj (vars:LI) (op into:Int):Bool:=
 if into=0 then true else if op=6 then ((Xy vars (into-1)).map fun t=>decide (0<t)).getD false else false
def KR (ds:List Zg) (ps:LI) (res:Int):Int:=Uv ds (ps.getLast?.getD 0) res
def KD (ds:List Zg) (vars:LI) (op:Int) (args:LI) (r:Yb):Int:=
 if op=9 then (if Wg vars args r.params=true then r.result else -1)
 else if r.params.length=0∨0<r.lent.length∨¬Wg vars args (r.params.take (r.params.length-1))=true then -1
 else KR ds r.params r.result
def TM (n:Zi) (vars:LI) (op num:Int) (args:LI):Int:=
 match Xy n.routines num with
 | none=>-1
 | some r=>KD n.decls vars op args r
def Qu (ds:List Zg) (vars:LI) (op:Int) (args:LI):Int:=
 match args with
 | [a]=>match Xy vars a with
  | some t=>if t=0 then -1 else if (op≠14/\op≠15)/\W2 ds t=true then -1 else 0
  | none=>-1
 | _=>-1
def QN (ds:List Zg) (vars:LI) (args:LI):Int:=
 match args with
 | [a,b]=>match Xy vars a with
  | some t=>if W2 ds t=true then
    (match ds[(t-1).toNat]? with
     | some d=>if Wg vars [b] [d.frm]=true then d.to_ else -1
     | none=>-1) else -1
  | none=>-1
 | _=>-1
def Xs (ds:List Zg) (op num:Int):List LI:=if op=7 then [[],[]] else (Y1 ds num).map (ZX ds)
mutual
def Yg (n:Zi) (vars:LI):Z5->Int
 | .mk op num into args kids=>
  if (num≠0/\¬VK op=true)∨¬Uj vars op into=true∨(0<kids.length/\op≠7/\op≠8) then -1
  else if op=0 then (if args.length=0/\(-999<=num/\num<=999) then 0 else -1)
  else if op=1∨op=2∨op=3∨op=4 then (if Wg vars args [0,0]=true then 0 else -1)
  else if op=5 then (if Wg vars args [0]=true then 0 else -1)
  else if op=6 then (if 0<Wh n.decls num/\Wg vars args (ZX n.decls num)=true then Wh n.decls num else -1)
  else if op=7 then (if Wg vars args [0]=true then (if (Xs n.decls op num).length=0∨kids.length≠(Xs n.decls op num).length then -1 else V2 n vars kids (Xs n.decls op num) true 0) else -1)
  else if op=8 then (if Wg vars args [num]=true then (if (Xs n.decls op num).length=0∨kids.length≠(Xs n.decls op num).length then -1 else V2 n vars kids (Xs n.decls op num) true 0) else -1)
  else if op=9∨op=10 then TM n vars op num args
  else if op=11 then QN n.decls vars args
  else if op=14∨op=15∨op=16∨op=17 then Qu n.decls vars op args
  else -1
def V2 (n:Zi) (vars:LI):List Z7->List LI->Bool->Int->Int
 | [],_,_,t=>t
 | b::bs,more,first,t=>
  match more with
  | []=>-1
  | m::ms=>if Xm n (vars++m) b<0∨(first=false/\Xm n (vars++m) b≠t) then -1 else V2 n vars bs ms false (Xm n (vars++m) b)
def XI (n:Zi):List Z5->LI->Option LI
 | [],vars=>some vars
 | s::r,vars=>if Yg n vars s<0 then none else XI n r (if XS s.op=true then vars++[Yg n vars s] else vars)
def Xm (n:Zi) (vars:LI):Z7->Int
 | .mk steps result=>match XI n steps vars with
  | none=>-1
  | some vs=>(Xy vs result).getD (-1)
end
def TJ (n:Zi) (vars:LI) (op num:Int) (kids:List Z7):Int:=
 if (Xs n.decls op num).length=0∨kids.length≠(Xs n.decls op num).length then -1 else V2 n vars kids (Xs n.decls op num) true 0
mutual
def Bq:Z5->Int->Int
 | .mk _ _ _ _ kids,left=>Qn kids left
def WR:Z7->Int->Int
 | .mk steps _,left=>Q2 steps left
def Q2:List Z5->Int->Int
 | [],left=>left
 | s::r,left=>if left<1 then -1 else if Bq s (left-1)<0 then -1 else Q2 r (Bq s (left-1))
def Qn:List Z7->Int->Int
 | [],left=>left
 | b::r,left=>if WR b left<0 then -1 else Qn r (WR b left)
end
def TU (b:Z7):Int:=if WR b 600<0 then -1 else 600-WR b 600
def Ka (n:Zi):List Yb->Bool
 | []=>true
 | r::rs=>if ¬TU r.body<0/\Xm n r.params r.body=r.result then Ka n rs else false
def X4 (n:Zi):Bool:=VX n&&Ka n n.routines
theorem Ll:(∀(s:Z5) (l:Int),0<=l->Bq s l<=l)/\(∀(b:Z7) (l:Int),0<=l->WR b l<=l):=by
 have key:∀m:Nat,(∀s:Z5,s.sz<=m->∀l:Int,0<=l->Bq s l<=l)/\(∀b:Z7,b.sz<=m->∀l:Int,0<=l->WR b l<=l):=by
  intro m
  induction m with
  | zero=>exact ⟨fun s h=>by have:=s.sz_pos;omega,fun s h=>by have:=s.sz_pos;omega⟩
  | succ m ih=>
   refine ⟨fun s hs l hl=>?_,fun b hb l hl=>?_⟩
   ·cases s with
    | mk op num into args kids=>
     rw [Bq]
     have hk:Xa kids<=m:=by rw [Z5.sz] at hs;omega
     clear hs
     induction kids generalizing l with
     | nil=>rw [Qn];exact Int.le_refl _
     | cons b r ihr=>
      rw [Xa] at hk
      have:=ih.2 b om l hl
      rw [Qn]
      split
      ·omega
      ·have:=ihr (WR b l) om om;omega
   ·cases b with
    | mk steps res=>
     rw [WR]
     have hk:Y9 steps<=m:=by rw [Z7.sz] at hb;omega
     clear hb
     induction steps generalizing l with
     | nil=>rw [Q2];exact Int.le_refl _
     | cons s r ihr=>
      rw [Y9] at hk
      rw [Q2]
      split
      ·omega
      ·have:=ih.1 s om (l-1) om
       split
       ·omega
       ·have:=ihr (Bq s (l-1)) om om;omega
 exact ⟨fun s l hl=>(key s.sz).1 s (X5 _) l hl,fun b l hl=>(key b.sz).2 b (X5 _) l hl⟩
end Go.Abs
namespace Go.Abs
theorem Zf5 {l:List Z5} {k:Nat} {s:Z5} (h:l[k]? = some s):k+s.sz<=Y9 l:=by
 induction l generalizing k with
 | nil=>simp at h
 | cons t r ih=>
  cases k with
  | zero=>simp at h;subst h;simp only [Y9];omega
  | succ k=>have:=ih (k:=k) (by simpa using h);have:=t.sz_pos;simp only [Y9];omega
theorem CA {b:Z7} {k:Nat} {s:Z5} (h:b.steps[k]? = some s):k+s.sz<b.sz:=by have:=Zf5 h;have:=b.sz_eq;omega
structure X3 (n:Zi):Prop where
 decls:Wu n.decls
 len:n.routines.length<=4
 params:∀r∈n.routines,r.params.length<=3
 lent:∀r∈n.routines,r.lent.length<=4194304
theorem X3.params_at {n:Zi} (h:X3 n) {k:Nat} {r:Yb} (hr:n.routines[k]? = some r):r.params.length<=3:=h.params r (ZY hr)
theorem X3.lent_at {n:Zi} (h:X3 n) {k:Nat} {r:Yb} (hr:n.routines[k]? = some r):r.lent.length<=4194304:=h.lent r (ZY hr)
theorem Z27 {ds:List Zg} {num:Int} {k:Nat} {x:Int} (h:(Y1 ds num)[k]? = some x):(Xs ds 8 num)[k]? = some (ZX ds x):=by
 rw [Xs,Z8 om,Tg,h];rfl
end Go.Abs
namespace Go.Abs
theorem Lx {ds:List Zg} (hd:Wu ds) (t:Int):(Y1 ds t).length<=3:=by
 rw [Y1]
 split
 ·rename_i h
  obtain ⟨d,hd1⟩:=QW (xs:=ds) (j:=(t-1).toNat) om
  rw [hd1,Zb8]
  exact hd.cons_at hd1
 ·simp
theorem U4 {ds:List Zg} (hd:Wu ds) (c:Int):(ZX ds c).length<=3:=by
 by_cases h:Wh ds c<1
 ·rw [(Fq h).1];simp
 ·obtain ⟨k,d,x,h1,_,h3,_,h5⟩:=I1 h
  rw [h5];exact hd.fields_at h1 h3
theorem Fc {ds:List Zg} (hd:Wu ds) {op num:Int} {k:Nat} {m:LI} (h:(Xs ds op num)[k]? = some m):m.length<=3:=by
 have hm:=ZY h
 rw [Xs] at hm
 split at hm
 ·simp at hm;subst hm;simp
 ·obtain ⟨c,_,rfl⟩:=Wc.1 hm;exact U4 hd c
theorem KQ {α:Type} {xs:List α} {x:α} (h:xs.length=1) (hx:xs[0]? = some x):xs=[x]:=by
 cases xs with
 | nil=>simp at h
 | cons a r=>
  cases r with
  | nil=>simp at hx;rw [hx]
  | cons b r=>simp at h
theorem CS {ds:List Zg} {us args:LI} {op:Int} (h:args.length≠1):Qu ds us op args=-1:=by
 cases args with
 | nil=>rfl
 | cons a r=>
  cases r with
  | nil=>simp at h
  | cons b r=>rfl
theorem CT {ds:List Zg} {us args:LI} {op a:Int} (h:args=[a]) (hi:¬(0<=a/\a<=(us.length:Int)-1)):Qu ds us op args=-1:=by
 subst h;rw [Qu];simp only [Ko hi]
theorem CR {ds:List Zg} {us args:LI} {op a t:Int} (h:args=[a]) (hi:0<=a/\a<=(us.length:Int)-1) (ht:us[a.toNat]? = some t) :
  Qu ds us op args=if t=0 then -1 else if (op≠14/\op≠15)/\W2 ds t=true then -1 else 0:=by
 subst h;rw [Qu];simp only [Qd hi ht]
theorem Zcq {n:Zi} {us args:LI} {op num:Int} {r:Yb} (hi:0<=num/\num<=(n.routines.length:Int)-1) (hr:n.routines[num.toNat]? = some r) :
  TM n us op num args=KD n.decls us op args r:=by
 rw [TM];simp only [Qd hi hr]
theorem Zcs {n:Zi} {us args:LI} {op num:Int} (hi:¬(0<=num/\num<=(n.routines.length:Int)-1)):TM n us op num args=-1:=by
 rw [TM];simp only [Ko hi]
theorem OO {xs:LI} {x:Int} (h:xs[xs.length-1]? = some x):xs.getLast?.getD 0=x:=by
 rw [List.getLast?_eq_getElem?,h];rfl
theorem PB {n:Zi} {us:LI} {bs:List Z7} {ms:List LI} {b:Z7} {m:LI} {k:Nat} {t:Int} (hb:bs[k]? = some b) (hm:ms[k]? = some m)
  (h:¬(Xm n (us++m) b<0∨(k:Int)>0/\Xm n (us++m) b≠t)) :
  V2 n us (bs.drop k) (ms.drop k) (decide (k=0)) t=V2 n us (bs.drop (k+1)) (ms.drop (k+1)) (decide (k+1=0)) (Xm n (us++m) b):=by
 rw [Ya hb,Ya hm,V2,Z8]
 ·simp
 ·rintro (q|⟨q1,q2⟩)
  ·exact h (.inl q)
  ·exact h (.inr ⟨by simp at q1;omega,q2⟩)
theorem Pz {n:Zi} {us:LI} {bs:List Z7} {ms:List LI} {b:Z7} {m:LI} {k:Nat} {t:Int} (hb:bs[k]? = some b) (hm:ms[k]? = some m)
  (h:Xm n (us++m) b<0∨(k:Int)>0/\Xm n (us++m) b≠t) :
  V2 n us (bs.drop k) (ms.drop k) (decide (k=0)) t=-1:=by
 rw [Ya hb,Ya hm,V2,Ze]
 rcases h with q|⟨q1,q2⟩
 ·exact .inl q
 ·exact .inr ⟨by simp;omega,q2⟩
theorem PA {n:Zi} {us:LI} {bs:List Z7} {ms:List LI} {k:Nat} {f:Bool} {t:Int} (hb:bs.length<=k):V2 n us (bs.drop k) (ms.drop k) f t=t:=by
 rw [Xn hb,V2]
end Go.Abs
end
namespace Go.Abs
theorem AS (n:Zi) (us:LI) (s:Z5):Yg n us s =
  if (s.num≠0/\¬VK s.op=true)∨¬Uj us s.op s.into=true∨(0<s.kids.length/\s.op≠7/\s.op≠8) then -1
  else if s.op=0 then (if s.args.length=0/\(-999<=s.num/\s.num<=999) then 0 else -1)
  else if s.op=1∨s.op=2∨s.op=3∨s.op=4 then (if Wg us s.args [0,0]=true then 0 else -1)
  else if s.op=5 then (if Wg us s.args [0]=true then 0 else -1)
  else if s.op=6 then (if 0<Wh n.decls s.num/\Wg us s.args (ZX n.decls s.num)=true then Wh n.decls s.num else -1)
  else if s.op=7 then (if Wg us s.args [0]=true then TJ n us s.op s.num s.kids else -1)
  else if s.op=8 then (if Wg us s.args [s.num]=true then TJ n us s.op s.num s.kids else -1)
  else if s.op=9∨s.op=10 then TM n us s.op s.num s.args
  else if s.op=11 then QN n.decls us s.args
  else if s.op=14∨s.op=15∨s.op=16∨s.op=17 then Qu n.decls us s.op s.args
  else -1:=by
 cases s with
 | mk op num into args kids=>rw [Yg];rfl
theorem CN (n:Zi) (us:LI) (b:Z7):Xm n us b=match XI n b.steps us with
  | none=>-1
  | some vs=>(Xy vs b.result).getD (-1):=by
 cases b with
 | mk st r=>rw [Xm];rfl
theorem Na {α:Type} {xs:List α} {x:α} (h:xs.length=2) (hx:xs[0]? = some x):∃y,xs=[x,y]:=by
 match xs,h with
 | [a,b],_=>simp at hx;subst hx;exact ⟨b,rfl⟩
theorem T3 {ds:List Zg} {us args:LI} (h:args.length≠2):QN ds us args=-1:=by
 match args,h with
 | [],_=>rfl
 | [_],_=>rfl
 | [_,_],h=>simp at h
 | _::_::_::_,_=>rfl
theorem T4 {ds:List Zg} {us args:LI} {a:Int} (hl:args.length=2) (h:args[0]? = some a) (hi:¬(0<=a/\a<=(us.length:Int)-1)):QN ds us args=-1:=by
 obtain ⟨y,rfl⟩:=Na hl h;rw [QN];simp only [Ko hi]
theorem UQ {ds:List Zg} {us args:LI} {a t:Int} (hl:args.length=2) (h:args[0]? = some a) (hi:0<=a/\a<=(us.length:Int)-1) (ht:us[a.toNat]? = some t) :
  QN ds us args=if W2 ds t=true then
    (match ds[(t-1).toNat]? with
     | some d=>if Wg us (args.drop 1) [d.frm]=true then d.to_ else -1
     | none=>-1) else -1:=by
 obtain ⟨y,rfl⟩:=Na hl h;rw [QN];simp only [Qd hi ht];rfl
theorem Z1z {ds:List Zg} {us args:LI} {a t:Int} {d:Zg} (hl:args.length=2) (h:args[0]? = some a) (hi:0<=a/\a<=(us.length:Int)-1) (ht:us[a.toNat]? = some t)
  (hA:W2 ds t=true) (hd:ds[(t-1).toNat]? = some d):QN ds us args=if Wg us (args.drop 1) [d.frm]=true then d.to_ else -1:=by
 rw [UQ hl h hi ht,Ze hA];simp only [hd]
theorem L6 {ds:List Zg} {t:Int} (h:W2 ds t=true):1<=t/\t<=ds.length:=by
 simp only [W2,W6,decide_eq_true_eq] at h;exact h.1
theorem PN (b:Z7) (l:Int):WR b l=Q2 b.steps l:=by cases b;rw [WR];rfl
theorem Gs (s:Z5) (l:Int):Bq s l=Qn s.kids l:=by cases s;rw [Bq];rfl
structure Vm (n:Zi):Prop where
 decls:Ac n.decls
 len:n.routines.length<=4194304
 params:∀r∈n.routines,r.params.length<=4194304
 lent:∀r∈n.routines,r.lent.length<=4194304
 body:∀r∈n.routines,r.body.sz<=10000000
theorem Me {m:Nat} {fs:List Sg} (h:J7 m fs=true):∀f∈fs,J6 m f=true:=by
 induction fs with
 | nil=>simp
 | cons f r ih=>
  rw [J7] at h
  split at h
  ·rename_i h1
   intro g hg
   rcases YF.1 hg with rfl|hg
   ·exact h1
   ·exact ih h g hg
  ·cases h
theorem Lv {n:Zi} (hz:Vm n) (h:VX n=true):X3 n:=by
 simp only [VX,Kg,W6,decide_eq_true_eq] at h
 obtain ⟨h1,⟨h2,h3,h4,h5⟩,h6⟩:=h
 refine ⟨Zgl h2,h1,fun r hr=>?_,hz.lent⟩
 have:=Me h4 (UK r) (Wc.2 ⟨r,hr,rfl⟩)
 simp only [J6,W6,decide_eq_true_eq] at this
 exact this.1
def gI (xs:LI) (i:Int):Int:=xs[i.toNat]?.getD 0
theorem Vh {xs:LI} {i:Int} {x:Int} (h:xs[i.toNat]? = some x):gI xs i=x:=by rw [gI,h];rfl
structure Zr where
 vars:LI
 own:LI
 par:LI
 con:LI
 fst:LI
 tok:LI
def Zr.grow (L:Zr) (t own par:Int):Zr:=⟨L.vars++[t],L.own++[own],L.par++[par],L.con++[-1],L.fst++[-1],L.tok++[-1]⟩
def Ui (L:Zr) (v:Int):Option Zr:=if gI L.own v<1 then none else some { L with own:=L.own.set v.toNat (gI L.own v-1) }
def QM (own par ln:LI):Nat->Int->Bool
 | 0,_=>false
 | k+1,v=>if gI own v<1/\¬v∈ln then (if gI par v<0 then false else QM own par ln k (gI par v)) else true
def Wk (L:Zr) (ln:LI) (v:Int):Bool:=QM L.own L.par ln (v.toNat+1) v
def Th:LI->Int->LI->LI
 | own,_,[]=>own
 | own,p,f::r=>Th (if f≠0 then own.set p.toNat (gI own p+1) else own) (p+1) r
def Q4 (ds:List Zg) (L:Zr) (op x:Int):Option Zr:=
 if gI L.con x<0∨(op=17/\0<=gI L.tok x) then none
 else match Ui L x with
  | none=>none
  | some L1=>some { L1 with
    own:=Th L1.own (gI L.fst x) (ZX ds (gI L.con x))
    tok:=if op=17 then L.tok.set x.toNat (ZX ds (gI L.con x)).length else L.tok }
def Tj (op:Int):Bool:=op==6||(op==9||(op==10||op==11))
def AF (n:Zi) (op num:Int):LI:=if op=9 then ((n.routines[num.toNat]?).map (·.lent)).getD [] else []
def WS (n:Zi) (op num:Int) (i:Nat):Bool:=decide ((i:Int)∈AF n op num)
def TP (n:Zi) (vars:LI) (op num a:Int) (i:Nat):Bool:=Tj op&&(gI vars a != 0&&!WS n op num i)
def Tb (n:Zi) (op num:Int):LI->Nat->Zr->Option Zr
 | [],_,L=>some L
 | a::r,i,L=>if TP n L.vars op num a i=true then (match Ui L a with
   | none=>none
   | some L1=>Tb n op num r (i+1) L1) else Tb n op num r (i+1) L
def KZ (n:Zi) (op num:Int) (ln:LI) (L:Zr):LI->Nat->Bool
 | [],_=>true
 | a::r,i=>if WS n op num i=true/\¬Wk L ln a=true then false else KZ n op num ln L r (i+1)
def QY (L:Zr) (into:Int) (m:Nat):Option Zr:=
 if 0<into then (if gI L.tok (into-1)≠m then none else some { L with tok:=L.tok.set (into-1).toNat (-1) }) else some L
def Uq (n:Zi) (ln:LI) (L:Zr) (op num into:Int) (args:LI):Option Zr:=
 match Tb n op num args 0 L with
 | none=>none
 | some L1=>if KZ n op num ln L1 args 0=true then QY L1 into args.length else none
def WT:LI->LI->Bool
 | o::os,t::ts=>if o≠0∨0<=t then false else WT os ts
 | _,_=>true
def Zr.take (L:Zr) (m:Nat):Zr:=⟨L.vars.take m,L.own.take m,L.par.take m,L.con.take m,L.fst.take m,L.tok.take m⟩
def Tk (L:Zr) (m:Nat):Option Zr:=if WT (L.own.drop m) (L.tok.drop m)=true then some (L.take m) else none
def QX (L:Zr) (par:Int):LI->Zr
 | []=>L
 | t::r=>QX (L.grow t 0 par) par r
def JJ (ds:List Zg) (L:Zr) (x c:Int):Zr:=
 QX { L with con:=L.con.set x.toNat c,fst:=L.fst.set x.toNat L.vars.length } x (ZX ds c)
def Vk (ds:List Zg) (L:Zr) (op num:Int) (args:LI) (i:Nat):Zr:=
 if op=8 then JJ ds L (gI args 0) (gI (Y1 ds num) i) else L
def Uf (lent:LI):LI->Nat->Zr->Zr
 | [],_,L=>L
 | t::r,i,L=>Uf lent r (i+1) (L.grow t (if t≠0/\¬(i:Int)∈lent then 1 else 0) (-1))
def Va (r:Yb):Zr:=Uf r.lent r.params 0 ⟨[],[],[],[],[],[]⟩
def JO (L:Zr) (ln:LI) (v:Int):Option Zr:=if Wk L ln v=true then some { L with own:=L.own.set v.toNat (gI L.own v+1) } else none
def Q6 (n:Zi) (ln:LI) (L:Zr) (op num into:Int) (args:LI) (ch:Option Zr):Option Zr:=
 if op=14 then JO L ln (gI args 0)
 else if op=15 then Ui L (gI args 0)
 else if op=16∨op=17 then Q4 n.decls L op (gI args 0)
 else if op=7∨op=8 then (if op=8/\¬Wk L ln (gI args 0)=true then none else ch)
 else Uq n ln L op num into args
def Kw (L:Zr) (op t:Int) (r:Option Zr):Option Zr:=
 match r with
 | none=>none
 | some L1=>if XS op=true then some (L1.grow t (if t≠0 then 1 else 0) (-1)) else some L1
def AJ (L:Zr) (first:Option Zr) (rest:Zr->Bool):Option Zr:=
 match first with
 | none=>none
 | some one=>if rest one=true then some { L with own:=one.own,tok:=one.tok } else none
def GZ (one:Zr) (two:Option Zr) (rest:Bool):Bool:=
 match two with
 | none=>false
 | some two=>if one.own=two.own/\one.tok=two.tok then rest else false
def BO (r:Option Zr) (f:Zr->Option Zr):Option Zr:=match r with|none=>none|some L=>f L
def VU (m:Nat) (res:Int) (L:Zr):Option Zr:=BO (if gI L.vars res≠0 then Ui L res else some L) fun L2=>Tk L2 m
mutual
def Vx (n:Zi) (ln:LI) (L:Zr):Z5->Option Zr
 | .mk op num into args kids=>Kw L op (Yg n L.vars (.mk op num into args kids)) (Q6 n ln L op num into args (TI n ln L op num args kids))
def TI (n:Zi) (ln:LI) (L:Zr) (op num:Int) (args:LI):List Z7->Option Zr
 | []=>none
 | b::bs=>AJ L (Vg n ln (Vk n.decls L op num args 0) L.vars.length b) fun one=>Ky n ln L op num args one bs 1
def Ky (n:Zi) (ln:LI) (L:Zr) (op num:Int) (args:LI) (one:Zr):List Z7->Nat->Bool
 | [],_=>true
 | b::bs,i=>GZ one (Vg n ln (Vk n.decls L op num args i) L.vars.length b) (Ky n ln L op num args one bs (i+1))
def XO (n:Zi) (ln:LI) (L:Zr):List Z5->Option Zr
 | []=>some L
 | s::r=>BO (Vx n ln L s) fun L1=>XO n ln L1 r
def Vg (n:Zi) (ln:LI) (L:Zr) (m:Nat):Z7->Option Zr
 | .mk steps result=>BO (XO n ln L steps) (VU m result)
end
theorem Hb (n:Zi) (ln:LI) (L:Zr) (s:Z5):Vx n ln L s=Kw L s.op (Yg n L.vars s) (Q6 n ln L s.op s.num s.into s.args (TI n ln L s.op s.num s.args s.kids)):=by
 cases s with
 | mk op num into args kids=>rw [Vx];rfl
theorem Kr (n:Zi) (ln:LI) (L:Zr) (m:Nat) (b:Z7):Vg n ln L m b=BO (XO n ln L b.steps) (VU m b.result):=by
 cases b with
 | mk st r=>rw [Vg];rfl
def KS (n:Zi) (r:Yb):Bool:=
 match Vg n r.lent (Va r) r.params.length r.body with
 | none=>false
 | some L=>(Tk L 0).isSome
structure Wv (L:Zr):Prop where
 own:L.own.length=L.vars.length
 par:L.par.length=L.vars.length
 con:L.con.length=L.vars.length
 fst:L.fst.length=L.vars.length
 tok:L.tok.length=L.vars.length
structure Xc (ds:List Zg) (L:Zr) (q:Int):Prop where
 len:Wv L
 down:∀j:Int,0<=j->j<L.vars.length->gI L.par j<j
 arm:∀x:Int,0<=x->x<L.vars.length->0<=gI L.con x->0<=gI L.fst x/\gI L.fst x+(ZX ds (gI L.con x)).length<=L.vars.length
 nn:∀x∈L.own,0<=x
 bd:∀x∈L.own,x<=q
end Go.Abs
section
namespace Go.Abs
end Go.Abs
namespace Go.Abs
theorem Zat {n:Zi} {op num:Int} {r:Yb} (h:op=9) (hr:n.routines[num.toNat]? = some r):AF n op num=r.lent:=by
 rw [AF,Ze h,hr];rfl
end Go.Abs
namespace Go.Abs
theorem Z1l {own par ln:LI} {N:Int} (hd:∀j:Int,0<=j->j<N->gI par j<j):∀(k:Nat) (v:Int),0<=v->v<N->v.toNat+1<=k->QM own par ln k v=QM own par ln (v.toNat+1) v:=by
 intro k
 induction k using Nat.strongRecOn with
 | ind k ih=>
  intro v h0 hN hk
  cases k with
  | zero=>omega
  | succ k=>
   rw [QM,QM]
   split
   ·split
    ·rfl
    ·have hdv:=hd v h0 hN
     rw [ih k om (gI par v) om om om]
     rw [ih v.toNat om (gI par v) om om om]
   ·rfl
theorem N3 {own par ln:LI} {N j x1 x2:Int} {r:Bool} (h1:gI own j=x1) (h2:gI par j=x2) (hj:0<=j/\j<N) (hx:x1<1/\¬j∈ln) (h0:¬x2<0) (hd:∀i:Int,0<=i->i<N->gI par i<i)
  (h:QM own par ln (j.toNat+1) j=r):QM own par ln (x2.toNat+1) x2=r:=by
 rw [QM,h1,h2,Ze hx,Z8 h0] at h
 have hdv:=hd j hj.1 hj.2
 rw [<-h,Z1l hd j.toNat x2 om om om]
theorem N2 {own par ln:LI} {j x1 x2:Int} {r:Bool} (h1:gI own j=x1) (h2:gI par j=x2) (hx:x1<1/\¬j∈ln) (h0:x2<0) (h:QM own par ln (j.toNat+1) j=r):false=r:=by
 rw [QM,h1,h2,Ze hx,Ze h0] at h;exact h
theorem N4 {own par ln:LI} {j x1:Int} {r:Bool} (h1:gI own j=x1) (hx:¬(x1<1/\¬j∈ln)) (h:QM own par ln (j.toNat+1) j=r):true=r:=by
 rw [QM,h1,Z8 hx] at h;exact h
end Go.Abs
namespace Go.Abs
theorem Tz {L L':Zr} {v:Int} (h:Ui L v=some L'):1<=gI L.own v/\L'.vars=L.vars/\L'.par=L.par/\L'.con=L.con/\L'.fst=L.fst/\L'.tok=L.tok/\L'.own=L.own.set v.toNat (gI L.own v-1):=by
 rw [Ui] at h
 split at h
 ·cases h
 ·cases h;exact ⟨by omega,rfl,rfl,rfl,rfl,rfl,rfl⟩
theorem IE {xs:LI} {v:Int} (h:gI xs v≠0):gI xs v∈xs:=by
 rw [gI] at h ⊢
 cases hx:xs[v.toNat]? with
 | none=>rw [hx] at h;exact absurd rfl h
 | some y=>exact ZY hx
theorem KA {xs:LI} {i:Nat} {a x:Int} (h:x∈xs.set i a):x∈xs∨x=a:=List.mem_or_eq_of_mem_set h
theorem Xc.take {ds:List Zg} {L L':Zr} {q v:Int} (hk:Xc ds L q) (h:Ui L v=some L'):Xc ds L' q:=by
 obtain ⟨t1,t2,t3,t4,t5,t6,t7⟩:=Tz h
 obtain ⟨f1,f2,f3,f4,f5⟩:=hk.len
 have hm:=IE (xs:=L.own) (v:=v) om
 refine ⟨⟨by rw [t7,t2,UD];exact f1,by rw [t3,t2];exact f2,by rw [t4,t2];exact f3,by rw [t5,t2];exact f4,by rw [t6,t2];exact f5⟩,?_,?_,?_,?_⟩
 ·rw [t2,t3];exact hk.down
 ·rw [t2,t4,t5];exact hk.arm
 ·rw [t7];intro x hx
  rcases KA hx with hx|rfl
  ·exact hk.nn x hx
  ·omega
 ·rw [t7];intro x hx
  rcases KA hx with hx|rfl
  ·exact hk.bd x hx
  ·have:=hk.bd _ hm;omega
end Go.Abs
end
namespace Go.Abs
theorem MD {us:LI}:∀{args tys:LI},Td us args tys=true->args.length=tys.length/\∀a∈args,0<=a/\a<us.length
 | [],[],_=>⟨rfl,by simp⟩
 | [],_::_,h=>by cases h
 | _::_,[],h=>by cases h
 | a::as1,t::ts,h=>by
  rw [Td] at h
  split at h
  ·rename_i h1
   obtain ⟨q1,q2⟩:=MD h
   refine ⟨by simp [q1],fun x hx=>?_⟩
   rcases YF.1 hx with rfl|hx
   ·have:=(Kq h1).1;omega
   ·exact q2 x hx
  ·cases h
theorem Py {n:Zi} {us:LI}:∀{bs:List Z7} {ms:List LI} {f:Bool} {t:Int},0<=t->0<=V2 n us bs ms f t ->
  ∀(i:Nat) (b:Z7) (m:LI),bs[i]? = some b->ms[i]? = some m->0<=Xm n (us++m) b
 | [],_,_,_,_,_,i,b,m,hb,_=>by simp at hb
 | b::bs,[],_,_,_,h,_,_,_,_,hm=>by simp at hm
 | b::bs,m::ms,f,t,ht,h,i,c,l,hc,hl=>by
  rw [V2] at h
  split at h
  ·omega
  ·rename_i hq
   have h0:0<=Xm n (us++m) b:=by
    rcases Int.lt_or_le (Xm n (us++m) b) 0 with q|q
    ·exact absurd (.inl q) hq
    ·exact q
   cases i with
   | zero=>simp at hc hl;subst hc hl;exact h0
   | succ i=>exact Py h0 h i c l (by simpa using hc) (by simpa using hl)
structure Ae (n:Zi) (us:LI) (s:Z5):Prop where
 args:∀a∈s.args,0<=a/\a<us.length
 one:(s.op=7∨s.op=8∨(14<=s.op/\s.op<=17))->∃a,s.args=[a]
 num:s.op=9->0<=s.num/\s.num<n.routines.length
 into:s.into≠0->1<=s.into/\s.into<=us.length
 kids:(s.op=7∨s.op=8)->s.kids.length=(Xs n.decls s.op s.num).length/\(Xs n.decls s.op s.num).length≠0 /\
  ∀(i:Nat) (b:Z7) (m:LI),s.kids[i]? = some b->(Xs n.decls s.op s.num)[i]? = some m->0<=Xm n (us++m) b
theorem Za5 {n:Zi} {us:LI} {op num:Int} {kids:List Z7} (h:0<=TJ n us op num kids) :
  kids.length=(Xs n.decls op num).length/\(Xs n.decls op num).length≠0/\∀(i:Nat) (b:Z7) (m:LI),kids[i]? = some b->(Xs n.decls op num)[i]? = some m->0<=Xm n (us++m) b:=by
 rw [TJ] at h
 split at h
 ·omega
 ·rename_i hq
  exact ⟨by omega,by omega,Py (Int.le_refl 0) h⟩
theorem PV {xs:LI} (h:xs.length=1):∃a,xs=[a]:=by
 match xs,h with
 | [a],_=>exact ⟨a,rfl⟩
theorem DF {n:Zi} {us:LI} {s:Z5} (h:0<=Yg n us s):Ae n us s:=by
 rw [AS] at h
 split at h
 ·omega
 rename_i h0
 have hinto:s.into≠0->1<=s.into/\s.into<=us.length:=by
  intro hi
  have hv:Uj us s.op s.into=true:=by
   cases q:Uj us s.op s.into with
   | true=>rfl
   | false=>exact absurd (.inr (.inl (by rw [q];simp))) h0
  rw [Uj,Z8 hi] at hv
  split at hv
  ·cases ha:Xy us (s.into-1) with
   | none=>rw [ha] at hv;cases hv
   | some t=>have:=(Kq ha).1;omega
  ·cases hv
 have mk:(∀a∈s.args,0<=a/\a<us.length)->((s.op=7∨s.op=8∨(14<=s.op/\s.op<=17))->∃a,s.args=[a])->(s.op=9->0<=s.num/\s.num<n.routines.length) ->
   ((s.op=7∨s.op=8)->0<=TJ n us s.op s.num s.kids)->Ae n us s:=fun a b c d=>⟨a,b,c,hinto,fun q=>Za5 (d q)⟩
 have ty:∀{tys},Wg us s.args tys=true->s.args.length=tys.length/\∀a∈s.args,0<=a/\a<us.length:=fun q=>MD q
 split at h
 ·rename_i h1
  split at h
  ·rename_i h2
   exact mk (by rw [List.eq_nil_of_length_eq_zero h2.1];simp) om om om
  ·omega
 split at h
 ·split at h
  ·rename_i h1 h2;exact mk (ty h2).2 om om om
  ·omega
 split at h
 ·split at h
  ·rename_i h1 h2;exact mk (ty h2).2 om om om
  ·omega
 split at h
 ·split at h
  ·rename_i h1 h2;exact mk (ty h2.2).2 om om om
  ·omega
 split at h
 ·split at h
  ·rename_i h1 h2;exact mk (ty h2).2 (fun _=>PV (by simpa using (ty h2).1)) om (fun _=>h)
  ·omega
 split at h
 ·split at h
  ·rename_i h1 h2;exact mk (ty h2).2 (fun _=>PV (by simpa using (ty h2).1)) om (fun _=>h)
  ·omega
 split at h
 ·rename_i hop
  rw [TM] at h
  cases hr:Xy n.routines s.num with
  | none=>rw [hr] at h;simp at h
  | some r=>
   rw [hr] at h
   simp only at h
   have hn:=(Kq hr).1
   rw [KD] at h
   split at h
   ·split at h
    ·rename_i h2;exact mk (ty h2).2 om om om
    ·omega
   ·split at h
    ·omega
    ·rename_i h2
     have h3:Wg us s.args (r.params.take (r.params.length-1))=true:=by
      cases q:Wg us s.args (r.params.take (r.params.length-1)) with
      | true=>rfl
      | false=>exact absurd (.inr (.inr (by rw [q];simp))) h2
     exact mk (ty h3).2 om om om
 split at h
 ·rename_i hop
  rcases he:s.args with _|⟨a,_|⟨b,_|⟨c,r⟩⟩⟩
  ·rw [he,show QN n.decls us []=-1 from rfl] at h;omega
  ·rw [he,show QN n.decls us [a]=-1 from rfl] at h;omega
  ·rw [he,QN] at h
   cases ha:Xy us a with
   | none=>rw [ha] at h;simp at h
   | some t=>
    rw [ha] at h
    simp only at h
    split at h
    ·cases hd:n.decls[(t-1).toNat]? with
     | none=>rw [hd] at h;simp at h
     | some d=>
      rw [hd] at h
      simp only at h
      split at h
      ·rename_i h3
       have h4:=(MD h3).2 b (by simp)
       have h5:=(Kq ha).1
       refine mk (fun x hx=>?_) om om om
       rw [he] at hx
       rcases YF.1 hx with rfl|hx
       ·omega
       ·rw [Xx.1 hx];exact h4
      ·omega
    ·omega
  ·rw [he,show QN n.decls us (a::b::c::r)=-1 from rfl] at h;omega
 split at h
 ·rename_i hop
  rcases he:s.args with _|⟨a,_|⟨b,r⟩⟩
  ·rw [he,show Qu n.decls us s.op []=-1 from rfl] at h;omega
  ·rw [he,Qu] at h
   cases ha:Xy us a with
   | none=>rw [ha] at h;simp at h
   | some t=>
    have h5:=(Kq ha).1
    refine mk (fun x hx=>?_) (fun _=>⟨a,he⟩) om om
    rw [he] at hx
    rw [Xx.1 hx];omega
  ·rw [he,show Qu n.decls us s.op (a::b::r)=-1 from rfl] at h;omega
 ·omega
def Qq (n:Zi) (us:LI) (s:Z5):LI:=if XS s.op=true then us++[Yg n us s] else us
theorem Fy {L L':Zr} {ln:LI} {v:Int} (h:JO L ln v=some L'):L'.vars=L.vars/\L'.par=L.par/\L'.con=L.con/\L'.fst=L.fst/\L'.tok=L.tok/\L'.own=L.own.set v.toNat (gI L.own v+1):=by
 rw [JO] at h
 split at h
 ·cases h;exact ⟨rfl,rfl,rfl,rfl,rfl,rfl⟩
 ·cases h
theorem HK:∀(fs:LI) (own:LI) (p:Int),(Th own p fs).length=own.length
 | [],own,p=>rfl
 | f::r,own,p=>by rw [Th,HK r];split<;>simp
theorem IC {xs:LI} {q v:Int} (h:∀x∈xs,x<=q) (hq:0<=q):gI xs v<=q:=by
 by_cases h0:gI xs v=0
 ·omega
 ·exact h _ (IE h0)
theorem IF {xs:LI} {v:Int} (h:∀x∈xs,0<=x):0<=gI xs v:=by
 by_cases h0:gI xs v=0
 ·omega
 ·exact h _ (IE h0)
theorem HL:∀(fs:LI) (own:LI) (p:Int),(∀x∈own,0<=x)->∀x∈Th own p fs,0<=x
 | [],own,p,h=>h
 | f::r,own,p,h=>by
  rw [Th]
  refine HL r _ _ fun x hx=>?_
  split at hx
  ·rcases KA hx with hx|rfl
   ·exact h x hx
   ·have:=IF (v:=p) h;omega
  ·exact h x hx
theorem HJ:∀(fs:LI) (own:LI) (p q:Int),0<=q->(∀x∈own,x<=q)->∀x∈Th own p fs,x<=q+fs.length
 | [],own,p,q,hq,h=>by intro x hx;have:=h x hx;simp;omega
 | f::r,own,p,q,hq,h=>by
  intro x hx
  rw [Th] at hx
  have:=HJ r _ _ (q+1) om (fun y hy=>by
   split at hy
   ·rcases KA hy with hy|rfl
    ·have:=h y hy;omega
    ·have:=IC (v:=p) h hq;omega
   ·have:=h y hy;omega) x hx
  simp only [YS];omega
theorem LA {ds:List Zg} {L L':Zr} {op v:Int} (h:Q4 ds L op v=some L'):L'.vars=L.vars/\L'.par=L.par/\L'.con=L.con/\L'.fst=L.fst/\L'.tok.length=L.tok.length /\
  ∃L1,Ui L v=some L1/\L'.own=Th L1.own (gI L.fst v) (ZX ds (gI L.con v)):=by
 rw [Q4] at h
 split at h
 ·cases h
 ·cases ht:Ui L v with
  | none=>rw [ht] at h;cases h
  | some L1=>
   rw [ht] at h
   simp only at h
   obtain ⟨t1,t2,t3,t4,t5,t6,t7⟩:=Tz ht
   cases h
   refine ⟨t2,t3,t4,t5,?_,L1,rfl,rfl⟩
   split
   ·rw [UD]
   ·rfl
theorem G5 {n:Zi} {op num:Int} {ds:List Zg} {q:Int}:∀{as1:LI} {i:Nat} {L L':Zr},Xc ds L q->Tb n op num as1 i L=some L'->Xc ds L' q/\L'.vars=L.vars/\L'.par=L.par/\L'.con=L.con/\L'.fst=L.fst/\L'.tok=L.tok
 | [],i,L,L',hk,h=>by rw [Tb] at h;cases h;exact ⟨hk,rfl,rfl,rfl,rfl,rfl⟩
 | a::r,i,L,L',hk,h=>by
  rw [Tb] at h
  split at h
  ·cases ht:Ui L a with
   | none=>rw [ht] at h;cases h
   | some L1=>
    rw [ht] at h
    obtain ⟨t1,t2,t3,t4,t5,t6,t7⟩:=Tz ht
    obtain ⟨k1,k2,k3,k4,k5,k6⟩:=G5 (hk.take ht) h
    exact ⟨k1,k2.trans t2,k3.trans t3,k4.trans t4,k5.trans t5,k6.trans t6⟩
  ·exact G5 hk h
theorem Xc.le {ds:List Zg} {L:Zr} {q q':Int} (h:Xc ds L q) (hq:q<=q'):Xc ds L q':=⟨h.len,h.down,h.arm,h.nn,fun x hx=>Int.le_trans (h.bd x hx) hq⟩
theorem Xc.turn {ds:List Zg} {L L':Zr} {q q':Int} (hk:Xc ds L q) (h1:L'.vars=L.vars) (h2:L'.par=L.par) (h3:L'.con=L.con) (h4:L'.fst=L.fst) (h5:L'.tok.length=L.tok.length) (h6:L'.own.length=L.own.length)
  (h7:∀x∈L'.own,0<=x) (h8:∀x∈L'.own,x<=q'):Xc ds L' q':=by
 obtain ⟨f1,f2,f3,f4,f5⟩:=hk.len
 refine ⟨⟨by rw [h6,h1];exact f1,by rw [h2,h1];exact f2,by rw [h3,h1];exact f3,by rw [h4,h1];exact f4,by rw [h5,h1];exact f5⟩,?_,?_,h7,h8⟩
 ·rw [h1,h2];exact hk.down
 ·rw [h1,h3,h4];exact hk.arm
theorem Bl {xs ys:LI} {j:Int} (h:j.toNat<xs.length):gI (xs++ys) j=gI xs j:=by
 rw [gI,gI,CF h]
theorem ID {xs:LI} {y:Int} {j:Int} (h:j.toNat=xs.length):gI (xs++[y]) j=y:=by
 rw [gI,h];simp
theorem Xc.grow {ds:List Zg} {L:Zr} {q t o p:Int} (hk:Xc ds L q) (hp:p<L.vars.length) (ho:0<=o/\o<=q):Xc ds (L.grow t o p) q:=by
 obtain ⟨f1,f2,f3,f4,f5⟩:=hk.len
 refine ⟨⟨by simp [Zr.grow,f1],by simp [Zr.grow,f2],by simp [Zr.grow,f3],by simp [Zr.grow,f4],by simp [Zr.grow,f5]⟩,?_,?_,?_,?_⟩
 ·intro j hj hl
  simp only [Zr.grow,Yx,Hx] at hl ⊢
  by_cases hlt:j<L.vars.length
  ·rw [Bl om];exact hk.down j hj hlt
  ·rw [ID om];omega
 ·intro x hx hl
  simp only [Zr.grow,Yx,Hx] at hl ⊢
  by_cases hlt:x<L.vars.length
  ·rw [Bl om,Bl om]
   intro hc
   have:=hk.arm x hx hlt hc
   exact ⟨this.1,by omega⟩
  ·rw [ID om];omega
 ·intro x hx
  simp only [Zr.grow,X6,Xx] at hx
  rcases hx with hx|rfl
  ·exact hk.nn x hx
  ·exact ho.1
 ·intro x hx
  simp only [Zr.grow,X6,Xx] at hx
  rcases hx with hx|rfl
  ·exact hk.bd x hx
  ·exact ho.2
theorem IG {xs:LI} {k:Nat} {a:Int} {j:Int} (h:xs.length<=j.toNat/\j.toNat<xs.length+k):gI (xs++List.replicate k a) j=a:=by
 rw [gI,CG h.1,List.getElem?_replicate,Ze om];rfl
theorem FW {xs:LI} {x j c:Int} (h:j.toNat=x.toNat) (hl:x.toNat<xs.length):gI (xs.set x.toNat c) j=c:=by
 rw [gI,h,List.getElem?_set_self hl];rfl
theorem FX {xs:LI} {x j c:Int} (h:j.toNat≠x.toNat):gI (xs.set x.toNat c) j=gI xs j:=by
 rw [gI,gI,List.getElem?_set_ne (fun q=>h q.symm)]
theorem IP {p:Int}:∀(fs:LI) (L:Zr),QX L p fs=⟨L.vars++fs,L.own++List.replicate fs.length 0,L.par++List.replicate fs.length p,L.con++List.replicate fs.length (-1),
  L.fst++List.replicate fs.length (-1),L.tok++List.replicate fs.length (-1)⟩
 | [],L=>by simp [QX]
 | t::r,L=>by rw [QX,IP r];simp [Zr.grow,MQ]
theorem Z24 {ds:List Zg} {L:Zr} {q x c:Int} (hk:Xc ds L q) (hq:0<=q) (hx:0<=x/\x<L.vars.length):Xc ds (JJ ds L x c) q/\(JJ ds L x c).vars=L.vars++ZX ds c:=by
 obtain ⟨f1,f2,f3,f4,f5⟩:=hk.len
 rw [JJ,IP]
 refine ⟨⟨⟨by simp [f1],by simp [f2],by simp [f3],by simp [f4],by simp [f5]⟩,?_,?_,?_,?_⟩,rfl⟩
 ·intro j hj hl
  simp only [Yx] at hl ⊢
  by_cases hlt:j<L.vars.length
  ·rw [Bl om];exact hk.down j hj hlt
  ·rw [IG om];omega
 ·intro y hy hl
  simp only [Yx] at hl ⊢
  by_cases hlt:y<L.vars.length
  ·rw [Bl (by simp;omega),Bl (by simp;omega)]
   by_cases he:y.toNat=x.toNat
   ·rw [FW he om,FW he om]
    intro _
    exact ⟨by omega,by simp⟩
   ·rw [FX he,FX he]
    intro hc
    have:=hk.arm y hy hlt hc
    exact ⟨this.1,by omega⟩
  ·rw [IG (by simp;omega)];omega
 ·intro y hy
  simp only [X6,List.mem_replicate] at hy
  rcases hy with hy|⟨_,rfl⟩
  ·exact hk.nn y hy
  ·exact Int.le_refl 0
 ·intro y hy
  simp only [X6,List.mem_replicate] at hy
  rcases hy with hy|⟨_,rfl⟩
  ·exact hk.bd y hy
  ·exact hq
theorem Dm {n:Zi} {L:Zr} {q:Int} {s:Z5} {i:Nat} {m:LI} (hk:Xc n.decls L q) (hq:0<=q) (hf:Ae n L.vars s) (hop:s.op=7∨s.op=8) (hm:(Xs n.decls s.op s.num)[i]? = some m) :
  Xc n.decls (Vk n.decls L s.op s.num s.args i) q/\(Vk n.decls L s.op s.num s.args i).vars=L.vars++m:=by
 rw [Vk]
 split
 ·rename_i h8
  obtain ⟨a,ha⟩:=hf.one om
  have hb:=hf.args a (by rw [ha];simp)
  have hg:gI s.args 0=a:=by rw [ha];rfl
  rw [Xs,Z8 om,Tg] at hm
  cases hc:(Y1 n.decls s.num)[i]? with
  | none=>rw [hc] at hm;cases hm
  | some c=>
   rw [hc] at hm
   cases hm
   have hgc:gI (Y1 n.decls s.num) (i:Int)=c:=by rw [gI];simp [hc]
   rw [hg,hgc]
   exact Z24 hk hq hb
 ·rename_i h8
  rw [Xs,Ze om] at hm
  have:m=[]:=by
   match i,hm with
   | 0,hm=>simpa using hm.symm
   | 1,hm=>simpa using hm.symm
   | i+2,hm=>simp at hm
  subst this
  exact ⟨hk,by simp⟩
theorem Z03 {n:Zi}:∀{l:List Z5} {us vs:LI},XI n l us=some vs->us.length<=vs.length
 | [],us,vs,h=>by rw [XI] at h;cases h;exact X5 _
 | s::r,us,vs,h=>by
  rw [XI] at h
  split at h
  ·cases h
  ·have:=Z03 h
   split at this
   ·simp only [Yx,Hx] at this;omega
   ·exact this
theorem OP {n:Zi} {ln:LI} {L L':Zr} {op num into q:Int} {args:LI} {ds:List Zg} (hk:Xc ds L q) (h:Uq n ln L op num into args=some L'):Xc ds L' q/\L'.vars=L.vars:=by
 rw [Uq] at h
 cases ht:Tb n op num args 0 L with
 | none=>rw [ht] at h;cases h
 | some L1=>
  rw [ht] at h
  simp only at h
  obtain ⟨k1,k2,k3,k4,k5,k6⟩:=G5 hk ht
  split at h
  ·rw [QY] at h
   split at h
   ·split at h
    ·cases h
    ·cases h
     exact ⟨k1.turn rfl rfl rfl rfl (by simp) rfl k1.nn k1.bd,k2⟩
   ·cases h;exact ⟨k1,k2⟩
  ·cases h
theorem I2 {L L':Zr} {m:Nat} (h:Tk L m=some L'):L'=L.take m/\WT (L.own.drop m) (L.tok.drop m)=true:=by
 rw [Tk] at h
 split at h
 ·rename_i hz;cases h;exact ⟨rfl,hz⟩
 ·cases h
theorem Jd {r:Option Zr} {f:Zr->Option Zr} {L:Zr} (h:BO r f=some L):∃L1,r=some L1/\f L1=some L:=by
 cases r with
 | none=>cases h
 | some L1=>exact ⟨L1,rfl,h⟩
theorem PM (n:Zi) (hn:X3 n) (ln:LI):∀m:Nat,
  (∀(s:Z5) (L L':Zr) (q:Int),s.sz<=m->Xc n.decls L q->0<=q->0<=Yg n L.vars s->Vx n ln L s=some L'->Xc n.decls L' (q+4*s.sz)/\L'.vars=Qq n L.vars s) /\
  (∀(b:Z7) (L O:Zr) (q:Int) (k:Nat),b.sz<=m->Xc n.decls L q->0<=q->0<=Xm n L.vars b->k<=L.vars.length->Vg n ln L k b=some O ->
   (O.own.length=k/\O.tok.length=k/\(∀x∈O.own,0<=x/\x<=q+4*b.sz))/\Wv O/\O.vars.length=k):=by
 intro m
 induction m with
 | zero=>exact ⟨fun s _ _ _ h=>by have:=s.sz_pos;omega,fun s _ _ _ _ h=>by have:=s.sz_pos;omega⟩
 | succ m ih=>
  have hs:∀(s:Z5) (L L':Zr) (q:Int),s.sz<=m+1->Xc n.decls L q->0<=q->0<=Yg n L.vars s->Vx n ln L s=some L'->Xc n.decls L' (q+4*s.sz)/\L'.vars=Qq n L.vars s:=by
   intro s L L' q Xo hk hq hty h
   have hp:=s.sz_pos
   have hf:=DF hty
   obtain ⟨f1,f2,f3,f4,f5⟩:=hk.len
   rw [Hb] at h
   unfold Kw at h
   cases hpk:Q6 n ln L s.op s.num s.into s.args (TI n ln L s.op s.num s.args s.kids) with
   | none=>rw [hpk] at h;cases h
   | some L1=>
    rw [hpk] at h
    simp only at h
    have key:Xc n.decls L1 (q+4*s.sz)/\L1.vars=L.vars:=by
     rw [Q6] at hpk
     split at hpk
     ·obtain ⟨d1,d2,d3,d4,d5,d6⟩:=Fy hpk
      refine ⟨hk.turn d1 d2 d3 d4 (by rw [d5]) (by rw [d6,UD]) ?_ ?_,d1⟩
      ·rw [d6];intro x hx
       rcases KA hx with hx|rfl
       ·exact hk.nn x hx
       ·have:=IF (v:=gI s.args 0) hk.nn;omega
      ·rw [d6];intro x hx
       rcases KA hx with hx|rfl
       ·have:=hk.bd x hx;omega
       ·have:=IC (v:=gI s.args 0) hk.bd hq;omega
     split at hpk
     ·exact ⟨(hk.take hpk).le om,(Tz hpk).2.1⟩
     split at hpk
     ·rename_i hop
      obtain ⟨d1,d2,d3,d4,d5,Lt,ht,d6⟩:=LA hpk
      have hkt:=hk.take ht
      have h3:=U4 hn.decls (gI L.con (gI s.args 0))
      refine ⟨hk.turn d1 d2 d3 d4 d5 ?_ ?_ ?_,d1⟩
      ·rw [d6,HK,(Tz ht).2.2.2.2.2.2,UD]
      ·rw [d6];exact HL _ _ _ hkt.nn
      ·rw [d6];intro x hx
       have:=HJ _ _ _ q hq hkt.bd x hx;omega
     split at hpk
     ·rename_i hop
      split at hpk
      ·cases hpk
      ·cases hks:s.kids with
       | nil=>rw [hks,TI] at hpk;cases hpk
       | cons b bs=>
        rw [hks,TI] at hpk
        unfold AJ at hpk
        cases hb:Vg n ln (Vk n.decls L s.op s.num s.args 0) L.vars.length b with
        | none=>rw [hb] at hpk;cases hpk
        | some one=>
         rw [hb] at hpk
         simp only at hpk
         split at hpk
         ·cases hpk
          obtain ⟨q1,q2,q3⟩:=hf.kids hop
          have hks0:s.kids[0]? = some b:=by rw [hks];rfl
          obtain ⟨a0,ha0⟩:=QW (xs:=Xs n.decls s.op s.num) (j:=0) om
          obtain ⟨k1,k2⟩:=Dm hk hq hf hop ha0
          have hbz:=Tv hks0
          obtain ⟨⟨r1,r2,r3⟩,_⟩:=ih.2 b _ one q L.vars.length om k1 hq (by rw [k2];exact q3 0 b a0 hks0 ha0) (by rw [k2];simp) hb
          refine ⟨hk.turn rfl rfl rfl rfl (by simp only;omega) (by simp only;omega) (fun x hx=>(r3 x hx).1) (fun x hx=>?_),rfl⟩
          have:=(r3 x hx).2;omega
         ·cases hpk
     ·obtain ⟨k1,k2⟩:=OP hk hpk
      exact ⟨k1.le om,k2⟩
    split at h
    ·rename_i hd
     cases h
     refine ⟨key.1.grow om ?_,by rw [Qq,Ze hd];simp [Zr.grow,key.2]⟩
     split<;>omega
    ·rename_i hd
     cases h
     exact ⟨key.1,by rw [Qq,Z8 hd];exact key.2⟩
  refine ⟨hs,?_⟩
  intro b L O q k Xo hk hq hty hkl h
  have hsteps:∀(l:List Z5) (L L':Zr) (q:Int) (vs:LI),Y9 l<=m->Xc n.decls L q->0<=q->XI n l L.vars=some vs->XO n ln L l=some L'->Xc n.decls L' (q+4*Y9 l)/\L'.vars=vs:=by
   intro l
   induction l with
   | nil=>intro L L' q vs _ hk _ h1 h2;rw [XI] at h1;rw [XO] at h2;cases h1;cases h2;exact ⟨by simpa [Y9] using hk,rfl⟩
   | cons s r ihr=>
    intro L L' q vs hz hk hq h1 h2
    rw [Y9] at hz
    rw [XO] at h2
    obtain ⟨L1,e1,e2⟩:=Jd h2
    rw [XI] at h1
    split at h1
    ·cases h1
    ·rename_i h0
     obtain ⟨k1,k2⟩:=hs s L L1 q om hk hq om e1
     obtain ⟨k3,k4⟩:=ihr L1 L' (q+4*s.sz) vs om k1 om (by rw [k2];exact h1) e2
     exact ⟨k3.le (by rw [Y9];omega),k4⟩
  have hbz:=b.sz_eq
  rw [Kr] at h
  obtain ⟨L1,e1,e2⟩:=Jd h
  rw [CN] at hty
  cases hv:XI n b.steps L.vars with
  | none=>rw [hv] at hty;simp at hty
  | some vs=>
   obtain ⟨k1,k2⟩:=hsteps b.steps L L1 q vs om hk hq hv e1
   have hlen:=Z03 hv
   rw [VU] at e2
   obtain ⟨L2,e3,e4⟩:=Jd e2
   have k3:Xc n.decls L2 (q+4*Y9 b.steps)/\L2.vars=L1.vars:=by
    split at e3
    ·exact ⟨k1.take e3,(Tz e3).2.1⟩
    ·cases e3;exact ⟨k1,rfl⟩
   obtain ⟨rfl,_⟩:=I2 e4
   obtain ⟨g1,g2,g3,g4,g5⟩:=k3.1.len
   have hl2:L2.vars.length=vs.length:=by rw [k3.2,k2]
   refine ⟨⟨by simp [Zr.take];omega,by simp [Zr.take];omega,fun x hx=>?_⟩,⟨by simp [Zr.take];omega,by simp [Zr.take];omega,by simp [Zr.take];omega,by simp [Zr.take];omega,by simp [Zr.take];omega⟩,by simp [Zr.take];omega⟩
   have hx':x∈L2.own:=TO hx
   have:=k3.1.nn x hx'
   have:=k3.1.bd x hx'
   omega
theorem EQ {n:Zi} (hn:X3 n) {ln:LI} {s:Z5} {L L':Zr} {q:Int} (hk:Xc n.decls L q) (hq:0<=q) (hty:0<=Yg n L.vars s) (h:Vx n ln L s=some L'):Xc n.decls L' (q+4*s.sz)/\L'.vars=Qq n L.vars s:=
 (PM n hn ln s.sz).1 s L L' q (X5 _) hk hq hty h
theorem Nw {n:Zi} (hn:X3 n) {ln:LI} {b:Z7} {L O:Zr} {q:Int} {k:Nat} (hk:Xc n.decls L q) (hq:0<=q) (hty:0<=Xm n L.vars b) (hkl:k<=L.vars.length) (h:Vg n ln L k b=some O) :
  O.own.length=k/\O.tok.length=k/\(∀x∈O.own,0<=x/\x<=q+4*b.sz):=
 ((PM n hn ln b.sz).2 b L O q k (X5 _) hk hq hty hkl h).1
theorem BC {n:Zi} (hn:X3 n) {ln:LI} {s:Z5} {L L1:Zr} {q:Int} (hk:Xc n.decls L q) (hq:0<=q) (hf:Ae n L.vars s)
  (hpk:Q6 n ln L s.op s.num s.into s.args (TI n ln L s.op s.num s.args s.kids)=some L1):Xc n.decls L1 (q+4*s.sz)/\L1.vars=L.vars:=by
 have hp:=s.sz_pos
 obtain ⟨f1,f2,f3,f4,f5⟩:=hk.len
 rw [Q6] at hpk
 split at hpk
 ·obtain ⟨d1,d2,d3,d4,d5,d6⟩:=Fy hpk
  refine ⟨hk.turn d1 d2 d3 d4 (by rw [d5]) (by rw [d6,UD]) ?_ ?_,d1⟩
  ·rw [d6];intro x hx
   rcases KA hx with hx|rfl
   ·exact hk.nn x hx
   ·have:=IF (v:=gI s.args 0) hk.nn;omega
  ·rw [d6];intro x hx
   rcases KA hx with hx|rfl
   ·have:=hk.bd x hx;omega
   ·have:=IC (v:=gI s.args 0) hk.bd hq;omega
 split at hpk
 ·exact ⟨(hk.take hpk).le om,(Tz hpk).2.1⟩
 split at hpk
 ·rename_i hop
  obtain ⟨d1,d2,d3,d4,d5,Lt,ht,d6⟩:=LA hpk
  have hkt:=hk.take ht
  have h3:=U4 hn.decls (gI L.con (gI s.args 0))
  refine ⟨hk.turn d1 d2 d3 d4 d5 ?_ ?_ ?_,d1⟩
  ·rw [d6,HK,(Tz ht).2.2.2.2.2.2,UD]
  ·rw [d6];exact HL _ _ _ hkt.nn
  ·rw [d6];intro x hx
   have:=HJ _ _ _ q hq hkt.bd x hx;omega
 split at hpk
 ·rename_i hop
  split at hpk
  ·cases hpk
  ·cases hks:s.kids with
   | nil=>rw [hks,TI] at hpk;cases hpk
   | cons b bs=>
    rw [hks,TI] at hpk
    unfold AJ at hpk
    cases hb:Vg n ln (Vk n.decls L s.op s.num s.args 0) L.vars.length b with
    | none=>rw [hb] at hpk;cases hpk
    | some one=>
     rw [hb] at hpk
     simp only at hpk
     split at hpk
     ·cases hpk
      obtain ⟨q1,q2,q3⟩:=hf.kids hop
      have hks0:s.kids[0]? = some b:=by rw [hks];rfl
      obtain ⟨a0,ha0⟩:=QW (xs:=Xs n.decls s.op s.num) (j:=0) om
      obtain ⟨k1,k2⟩:=Dm hk hq hf hop ha0
      have hbz:=Tv hks0
      obtain ⟨r1,r2,r3⟩:=Nw hn k1 hq (by rw [k2];exact q3 0 b a0 hks0 ha0) (by rw [k2];simp) hb
      refine ⟨hk.turn rfl rfl rfl rfl (by simp only;omega) (by simp only;omega) (fun x hx=>(r3 x hx).1) (fun x hx=>?_),rfl⟩
      have:=(r3 x hx).2;omega
     ·cases hpk
 ·obtain ⟨k1,k2⟩:=OP hk hpk
  exact ⟨k1.le om,k2⟩
end Go.Abs
section
namespace Go.Abs
theorem HP {ds:List Zg} {op num:Int} {i:Nat} {m:LI} (h8:op=8) (h:(Xs ds op num)[i]? = some m):∃c,(Y1 ds num)[i]? = some c/\m=ZX ds c:=by
 rw [Xs,Z8 om,Tg] at h
 cases hc:(Y1 ds num)[i]? with
 | none=>rw [hc] at h;cases h
 | some c=>rw [hc] at h;cases h;exact ⟨c,rfl,rfl⟩
theorem Z9z {ds:List Zg} {L:Zr} {op num x c:Int} {args:LI} {i:Nat} (h8:op=8) (hx:args[0]? = some x) (hc:(Y1 ds num)[i]? = some c):Vk ds L op num args i=JJ ds L x c:=by
 have h1:gI args 0=x:=by rw [gI];simp [hx]
 have h2:gI (Y1 ds num) (i:Int)=c:=by rw [gI];simp [hc]
 rw [Vk,Ze h8,h1,h2]
theorem Za0 {ds:List Zg} {L:Zr} {op num:Int} {args:LI} {i:Nat} (h8:¬op=8):Vk ds L op num args i=L:=by rw [Vk,Z8 h8]
theorem Za4 {n:Zi} {ln:LI} {L:Zr} {op num:Int} {args:LI} {kids:List Z7} {kb:Z7} (h:kids[0]? = some kb) :
  TI n ln L op num args kids=AJ L (Vg n ln (Vk n.decls L op num args 0) L.vars.length kb) fun one=>Ky n ln L op num args one (kids.drop 1) 1:=by
 cases kids with
 | nil=>simp at h
 | cons b bs=>simp at h;subst h;rw [TI];rfl
theorem Eo {n:Zi} {ln:LI} {L one:Zr} {op num:Int} {args:LI} {kids:List Z7} {kb:Z7} {k:Nat} (h:kids[k]? = some kb) :
  Ky n ln L op num args one (kids.drop k) k=GZ one (Vg n ln (Vk n.decls L op num args k) L.vars.length kb) (Ky n ln L op num args one (kids.drop (k+1)) (k+1)):=by
 rw [Ya h,Ky]
def Jn (n:Zi) (ln:LI) (L:Zr) (s:Z5):Option Zr:=
 if s.op=8/\¬Wk L ln (gI s.args 0)=true then none else TI n ln L s.op s.num s.args s.kids
theorem Z35 {n:Zi} {ln:LI} {L:Zr} {s:Z5} (h8:s.op=8) (ha:¬Wk L ln (gI s.args 0)=true):Jn n ln L s=none:=by rw [Jn,Ze ⟨h8,ha⟩]
theorem NH {n:Zi} {ln:LI} {L:Zr} {s:Z5} {kb:Z7} (h:¬(s.op=8/\¬Wk L ln (gI s.args 0)=true)) (hk:s.kids[0]? = some kb) :
  Jn n ln L s=AJ L (Vg n ln (Vk n.decls L s.op s.num s.args 0) L.vars.length kb) fun one=>Ky n ln L s.op s.num s.args one (s.kids.drop 1) 1:=by
 rw [Jn,Z8 h,Za4 hk]
theorem Ju {xs:LI} {x:Int} (h:xs[0]? = some x):gI xs 0=x:=by rw [gI];simp [h]
end Go.Abs
namespace Go.Abs
theorem Wv.grow {L:Zr} {t o p:Int} (h:Wv L):Wv (L.grow t o p):=by
 obtain ⟨f1,f2,f3,f4,f5⟩:=h
 exact ⟨by simp [Zr.grow,f1],by simp [Zr.grow,f2],by simp [Zr.grow,f3],by simp [Zr.grow,f4],by simp [Zr.grow,f5]⟩
theorem Wv.arm {L:Zr} {i j:Nat} {c d:Int} (h:Wv L):Wv ⟨L.vars,L.own,L.par,L.con.set i c,L.fst.set j d,L.tok⟩:=by
 obtain ⟨f1,f2,f3,f4,f5⟩:=h
 exact ⟨f1,f2,by simp [f3],by simp [f4],f5⟩
end Go.Abs
namespace Go.Abs
theorem Px {n:Zi} (hn:X3 n) {ln:LI} {L O:Zr} {q:Int} {s:Z5} {i:Nat} {kb:Z7} {m:LI} (hk:Xc n.decls L q) (hq:0<=q) (hf:Ae n L.vars s) (hop:s.op=7∨s.op=8)
  (_:s.kids[i]? = some kb) (harm:(Xs n.decls s.op s.num)[i]? = some m) (hbt:0<=Xm n (L.vars++m) kb) (h:Vg n ln (Vk n.decls L s.op s.num s.args i) L.vars.length kb=some O) :
  O.own.length=L.vars.length/\O.tok.length=L.vars.length:=by
 obtain ⟨k1,k2⟩:=Dm hk hq hf hop harm
 obtain ⟨r1,r2,_⟩:=Nw hn k1 hq (by rw [k2];exact hbt) (by rw [k2];simp) h
 exact ⟨r1,r2⟩
theorem Sb {one two:Zr} {r:Bool} (h:¬(¬one.own=two.own∨¬one.tok=two.tok)):GZ one (some two) r=r:=Ze ⟨Vr.1 fun q=>h (.inl q),Vr.1 fun q=>h (.inr q)⟩
theorem Sa {one two:Zr} {r:Bool} (h:¬one.own=two.own∨¬one.tok=two.tok):GZ one (some two) r=false:=Z8 fun q=>h.elim (fun z=>z q.1) fun z=>z q.2
theorem PX {L one:Zr} {f:Zr->Bool} (h:f one=true):AJ L (some one) f=some ⟨L.vars,one.own,L.par,L.con,L.fst,one.tok⟩:=Ze h
theorem Et {L one:Zr} {f:Zr->Bool} (h:f one=false):AJ L (some one) f=none:=Z8 (by rw [h];simp)
end Go.Abs
namespace Go.Abs
section
variable {n:Zi} {ln:LI} {L:Zr} {s:Z5}
abbrev QB (n:Zi) (ln:LI) (L:Zr) (s:Z5):Option Zr:=Q6 n ln L s.op s.num s.into s.args (TI n ln L s.op s.num s.args s.kids)
theorem LF {x:Int} (h:s.op=14) (hx:gI s.args 0=x):QB n ln L s=JO L ln x:=hx▸Ze h
theorem LG {x:Int} (h:s.op=15) (hx:gI s.args 0=x):QB n ln L s=Ui L x:=by rw [<-hx,QB,Q6,Z8 om,Ze h]
theorem LH {x:Int} (h:s.op=16∨s.op=17) (hx:gI s.args 0=x):QB n ln L s=Q4 n.decls L s.op x:=by rw [<-hx,QB,Q6,Z8 om,Z8 om,Ze h]
theorem GM (h:s.op=7∨s.op=8):QB n ln L s=Jn n ln L s:=by rw [QB,Q6,Z8 om,Z8 om,Z8 om,Ze h,Jn]
theorem LJ (h1:¬s.op=14) (h2:¬s.op=15) (h3:¬(s.op=16∨s.op=17)) (h4:¬(s.op=7∨s.op=8)):QB n ln L s=Uq n ln L s.op s.num s.into s.args:=by
 rw [QB,Q6,Z8 h1,Z8 h2,Z8 h3,Z8 h4]
theorem Z4n {v:Int} (h:¬Wk L ln v=true):JO L ln v=none:=Z8 h
theorem Z4o {v x:Int} (h:¬¬Wk L ln v=true) (hx:gI L.own v=x):JO L ln v=some ⟨L.vars,L.own.set v.toNat (x+1),L.par,L.con,L.fst,L.tok⟩:=by rw [JO,Ze (Vr.1 h),hx]
theorem UC (n:Zi) (ln:LI) (L:Zr) (s:Z5):Vx n ln L s=Kw L s.op (Yg n L.vars s) (QB n ln L s):=Hb n ln L s
theorem Tq {X:Zr} {op t:Int} (h:XS op=true/\t≠0):Kw L op t (some X)=some (X.grow t 1 (-1)):=by
 unfold Kw;simp only [h.1,↓reduceIte];rw [Ze h.2]
theorem Ts {X:Zr} {op t:Int} (h:¬(XS op=true/\t≠0)) (h2:XS op=true):Kw L op t (some X)=some (X.grow 0 0 (-1)):=by
 have ht:t=0:=Vr.1 fun q=>h ⟨h2,q⟩
 subst ht
 unfold Kw;simp only [h2,↓reduceIte];rfl
theorem Tt {X:Zr} {op t:Int} (h:¬XS op=true):Kw L op t (some X)=some X:=by
 unfold Kw;simp only [Z8 h]
end
end Go.Abs
namespace Go.Abs
theorem DW {n:Zi} {us:LI} {b:Z7} (h:0<=Xm n us b):∃vs t,XI n b.steps us=some vs/\Xy vs b.result=some t/\0<=t:=by
 rw [CN] at h
 cases hv:XI n b.steps us with
 | none=>rw [hv] at h;simp at h
 | some vs=>
  rw [hv] at h
  simp only at h
  cases ha:Xy vs b.result with
  | none=>rw [ha] at h;simp at h
  | some t=>rw [ha] at h;exact ⟨vs,t,rfl,ha,h⟩
theorem ER {n:Zi} {us vs:LI} {s:Z5} {r:List Z5} (h:XI n (s::r) us=some vs):0<=Yg n us s/\XI n r (Qq n us s)=some vs:=by
 rw [XI] at h
 split at h
 ·cases h
 ·exact ⟨by omega,h⟩
theorem H0 (n:Zi) (us:LI) (s:Z5):us.length<=(Qq n us s).length/\(Qq n us s).length<=us.length+s.sz:=by
 have:=s.sz_pos
 rw [Qq];split
 ·simp only [Yx,Hx];omega
 ·omega
end Go.Abs
namespace Go.Abs
theorem Z5a {X L:Zr} {m:Nat} {r x:Int} (hg:gI L.vars r=x) (h:x≠0) (ht:Ui L r=some X):VU m r L=Tk X m:=by rw [VU,hg,Ze h,ht];rfl
theorem Z59 {L:Zr} {m:Nat} {r x:Int} (hg:gI L.vars r=x) (h:x≠0) (ht:Ui L r=none):VU m r L=none:=by rw [VU,hg,Ze h,ht];rfl
theorem E4 {L:Zr} {m:Nat} {r x:Int} (hg:gI L.vars r=x) (h:¬x≠0):VU m r L=Tk L m:=by rw [VU,hg,Z8 h];rfl
end Go.Abs
namespace Go.Abs
theorem Ru {ds:List Zg} {lent:LI}:∀{ps:LI} {i:Nat} {L:Zr},Xc ds L 1->Xc ds (Uf lent ps i L) 1/\(Uf lent ps i L).vars=L.vars++ps
 | [],i,L,hk=>⟨hk,by simp [Uf]⟩
 | t::r,i,L,hk=>by
  rw [Uf]
  obtain ⟨k1,k2⟩:=Ru (lent:=lent) (ps:=r) (i:=i+1) (hk.grow (t:=t) (o:=if t≠0/\¬(i:Int)∈lent then 1 else 0) (p:=-1) om (by split<;>omega))
  exact ⟨k1,by rw [k2];simp [Zr.grow]⟩
theorem Eu (ds:List Zg) (r:Yb):Xc ds (Va r) 1/\(Va r).vars=r.params:=by
 have h:Xc ds (⟨[],[],[],[],[],[]⟩:Zr) 1:=⟨⟨rfl,rfl,rfl,rfl,rfl⟩,fun j h1 h2=>by simp at h2;omega,fun j h1 h2=>by simp at h2;omega,by simp,by simp⟩
 obtain ⟨k1,k2⟩:=Ru (lent:=r.lent) (ps:=r.params) (i:=0) h
 exact ⟨k1,by rw [Va,k2];rfl⟩
end Go.Abs
namespace Go.Abs
theorem LZ {n:Zi}:∀{l:List Yb},Ka n l=true->∀r∈l,¬TU r.body<0/\Xm n r.params r.body=r.result
 | [],_,r,h=>by simp at h
 | a::l,h,r,hr=>by
  rw [Ka] at h
  split at h
  ·rename_i h1
   rcases YF.1 hr with rfl|hr
   ·exact h1
   ·exact LZ h r hr
  ·cases h
theorem BQ {n:Zi} (hz:Vm n) (h:X4 n=true):X3 n/\∀r∈n.routines,0<=Xm n r.params r.body:=by
 simp only [X4,W6] at h
 refine ⟨Lv hz h.1,fun r hr=>?_⟩
 rw [(LZ h.2 r hr).2]
 have h1:=h.1
 simp only [VX,Kg,W6] at h1
 have:=Me h1.2.1.2.2.1 (UK r) (Wc.2 ⟨r,hr,rfl⟩)
 simp only [J6,W6,decide_eq_true_eq,UK] at this
 exact (of_decide_eq_true this.2.2).1
end Go.Abs
end
section
namespace Go.Abs
theorem Il {xs:LI} (h:Z6 xs=[]):xs=[]:=by cases xs with|nil=>rfl|cons x r=>cases h
def JV (i:Int):LI->Nat->Int
 | [],_=>-1
 | x::r,k=>if i=x then (k:Int) else JV i r (k+1)
def Gf (xs:LI) (i:Int):Int:=JV i xs 0
theorem Pb (i:Int):∀(xs:LI) (k:Nat),(0<=JV i xs k↔i∈xs)/\-1<=JV i xs k
 | [],k=>by simp [JV]
 | x::r,k=>by
  rw [JV]
  obtain ⟨h1,h2⟩:=Pb i r (k+1)
  split
  ·rename_i h;subst h;simp<;>omega
  ·rename_i h;simp [h1,h,h2]
theorem Z96 (xs:LI) (i:Int):decide (Gf xs i>=0)=decide (i∈xs):=by
 rw [decide_eq_decide];exact (Pb i xs 0).1
end Go.Abs
namespace Go.Abs
theorem Ou (xss:List LI) (k:Nat):(xss.take k).flatten.length<=xss.flatten.length:=by
 conv=>rhs;rw [<-Uu k xss,List.flatten_append,Yx]
 omega
end Go.Abs
namespace Go.Abs
theorem Iz {xss:List LI} {k:Nat} {x:LI} (h:xss[k]? = some x):(xss.take (k+1)).flatten=(xss.take k).flatten++x:=by rw [Vc h,List.flatten_append];simp
theorem Ot {xss:List LI} {k:Nat} {x:LI} (h:xss[k]? = some x):(xss.take k).flatten.length+x.length<=xss.flatten.length:=by
 have:=Ou xss (k+1)
 rw [Iz h,Yx] at this
 exact this
end Go.Abs
end
section
namespace Go.Abs
theorem Z3n {c:Int} {ds:List Zg} {k:Nat} {d:Zg} {r:Int × LI} (h:ds[k]? = some d) (hn:¬(c-YR (ds.take k)>=0/\c-YR (ds.take k)<d.cons.length))
  (hr:Ti c (ds.drop k) k (YR (ds.take k))=r):Ti c (ds.drop (k+1)) (k+1) (YR (ds.take (k+1)))=r:=by
 rw [Ya h,Ti,Z8 om] at hr
 rw [Vc h,E0,<-hr];rfl
end Go.Abs
namespace Go.Abs
theorem Z3p {c:Int} {ds:List Zg} {k:Nat} {d:Zg} {x:Yn} (h:ds[k]? = some d) (hn:c-YR (ds.take k)>=0/\c-YR (ds.take k)<d.cons.length)
  (hx:d.cons[(c-YR (ds.take k)).toNat]? = some x):Ti c (ds.drop k) k (YR (ds.take k))=((k:Int)+1,x.fields):=by
 rw [Ya h,Ti,Ze om,hx];rfl
def B3 (c:Int) (z:Nat) (v:Int):Prop:=v=c-z∨(c<0/\c-z < -9223372036854775808/\v=c-z+18446744073709551616)
theorem Z2a {c:Int} {z l:Nat} {v:Int} (h:B3 c z v) (hz:z<=100) (hl:l<=3) (hc:-9223372036854775808<=c/\c<=9223372036854775807):B3 c (z+l) (CE (v-l)):=by
 unfold B3 at *;rw [CE,IntKind.wrap_i64];omega
theorem Z3o {c v:Int} {ds:List Zg} {k:Nat} {d:Zg} {r:Int × LI} (h:ds[k]? = some d) (ha:B3 c (YR (ds.take k)) v) (hn:¬(v>=0/\v<d.cons.length))
  (hr:Ti c (ds.drop k) k (YR (ds.take k))=r):Ti c (ds.drop (k+1)) (k+1) (YR (ds.take (k+1)))=r:=Z3n h (by unfold B3 at ha;omega) hr
theorem Z3q {c v:Int} {ds:List Zg} {k:Nat} {d:Zg} {x:Yn} (h:ds[k]? = some d) (ha:B3 c (YR (ds.take k)) v) (hz:YR (ds.take k)<=100) (hl:d.cons.length<=3) (hc:-9223372036854775808<=c)
  (hn:v>=0/\v<d.cons.length) (hx:d.cons[v.toNat]? = some x):Ti c (ds.drop k) k (YR (ds.take k))=((k:Int)+1,x.fields):=by
 have:v=c-(YR (ds.take k):Int):=by unfold B3 at ha;omega
 subst this
 exact Z3p h hn hx
def VR (ds:List Zg) (t:Int):Zg:=if W2 ds t=true then (ds[(t-1).toNat]?).getD ⟨0,0,[]⟩ else ⟨0,0,[]⟩
end Go.Abs
namespace Go.Abs
abbrev NY (ds:List Zg) (d:Zg):Prop:=
 (((¬(0<=d.frm/\d.frm<=ds.length))∨(¬(0<=d.to_/\d.to_<=ds.length)))∨((d.cons.length:Int)>3))∨(((d.cons.length:Int)>0)/\((d.frm≠0)∨(d.to_≠0)))
theorem Z4g {ds:List Zg} {d:Zg} {i:Nat} (h:NY ds d):UR ds d i=false:=by
 rw [UR]
 split
 ·rw [Z8];rintro ⟨h1,h2,h3⟩
  rcases h with ((h|h)|h)|h<;>omega
 ·split
  ·rfl
  ·rcases h with ((h|h)|h)|h
   ·rw [decide_eq_false h];rfl
   ·rw [decide_eq_false h,Bool.and_false]
   ·omega
   ·omega
theorem Z4h {ds:List Zg} {d:Zg} {i:Nat} (hl:0<d.cons.length) (h:TQ ds.length d.cons=false):UR ds d i=false:=by
 rw [UR,Ze hl];split
 ·exact h
 ·rfl
theorem Z4i {ds:List Zg} {d:Zg} {i:Nat} (hl:d.cons.length=0) (h:QS d (ds.take i)=true):UR ds d i=false:=by
 rw [UR,Z8 om,Ze h]
theorem Z4j {ds:List Zg} {d:Zg} {i:Nat} (h1:¬NY ds d) (h2:TQ ds.length d.cons=true) (h3:d.cons.length=0->QS d (ds.take i)=false):UR ds d i=true:=by
 rw [UR]
 have ha:0<=d.frm/\d.frm<=ds.length:=Vr.1 fun q=>h1 (.inl (.inl (.inl q)))
 have hb:0<=d.to_/\d.to_<=ds.length:=Vr.1 fun q=>h1 (.inl (.inl (.inr q)))
 have hc:¬(d.cons.length:Int)>3:=fun q=>h1 (.inl (.inr q))
 split
 ·rename_i hl
  have hd:¬(d.frm≠0∨d.to_≠0):=fun q=>h1 (.inr ⟨by omega,q⟩)
  rw [Ze ⟨by omega,by omega,by omega⟩];exact h2
 ·rw [Z8 (by rw [h3 om];simp),decide_eq_true ha,decide_eq_true hb];rfl
theorem MI {ds:List Zg} {k:Nat} {d:Zg} (h:ds[k]? = some d) (hA:UR ds d k=false) (c:Tl ds (ds.drop k) k=Tl ds ds 0):false=WX ds:=by
 rw [WX,<-c,Ya h,Tl,E1 h,hA,Z8 (by simp),Bool.and_false]
theorem Zgn {ds:List Zg} {k:Nat} {d:Zg} {r:Bool} (h:ds[k]? = some d) (hA:UR ds d k=true) (c:Tl ds (ds.drop k) k=r):Tl ds (ds.drop (k+1)) (k+1)=r:=by
 rw [Ya h,Tl,E1 h,hA,Ze rfl] at c;exact c
theorem Zgm {ds:List Zg} {k:Nat} (hl:ds.length<=4) (hk:ds.length<=k) (c:Tl ds (ds.drop k) k=Tl ds ds 0):true=WX ds:=by
 rw [WX,<-c,Xn hk,decide_eq_true hl];rfl
theorem Z3r {m:Nat} {c:Yn} (h:((c.fields.length:Int)>3)∨(¬(Wm m c.fields=true))):Jp m c=false:=by
 rw [Jp]
 rcases h with h|h
 ·rw [decide_eq_false om];rfl
 ·rw [Jk.2 h,Bool.and_false]
theorem Z3s {m:Nat} {c:Yn} (h:¬(((c.fields.length:Int)>3)∨(¬(Wm m c.fields=true)))):Jp m c=true:=by
 rw [Jp,Vr.1 fun q=>h (.inr q),decide_eq_true (by have:¬(c.fields.length:Int)>3:=fun q=>h (.inl q);omega)];rfl
end Go.Abs
end
section
namespace Go.Abs
structure Vf where
 pms:LI
 lnt:LI
 res:Int
abbrev PF (f:Vf):List AV:=[Z4 f.pms,Z4 f.lnt,.i f.res]
abbrev F6 (f:Vf):AV:=.agg (PF f)
def To (fs:List Vf):List AV:=fs.map F6
abbrev Dq (xs:List Vf):AV:=.sl (To xs) none
abbrev GF (xs:List Vf) (v:Value):AV:=.sl (To xs) (some v)
theorem Cd {xs:List Vf} {j:Nat} {x:Vf} (h:xs[j]? = some x):(To xs)[j]? = some (F6 x):=by simp [To,h]
@[simp] theorem E3 (xs:List Vf):(To xs).length=xs.length:=by simp [To]
theorem O2 (xs:List Vf):∀y∈To xs,y.leaves.length=3:=by intro y hy;simp only [To,Wc] at hy;obtain ⟨x,_,rfl⟩:=hy;rfl
theorem Z52 (xs:List Vf):(Zp (To xs)).all AV.one=true:=Jt fun y hy=>by simp only [To,Wc] at hy;obtain ⟨x,_,rfl⟩:=hy;rfl
def XX (r:Yb):Vf:=⟨r.params,r.lent,r.result⟩
def JY (m:Nat) (f:Vf):Bool:=J6 m ⟨f.pms,f.res⟩&&Jg f.pms f.lnt
def KE (m:Nat):List Vf->Bool
 | []=>true
 | f::r=>if JY m f=true then KE m r else false
def It:List Vf->Bool
 | []=>false
 | f::_=>decide (f.pms.length=0)&&decide (f.res=0)
def Jh (ds:List Zg) (fs:List Vf):Bool:=WX ds&&(decide (1<=fs.length/\fs.length<=4)&&(It fs&&KE ds.length fs))
theorem Ok {fs:List Vf} {x:Vf} (h:fs[0]? = some x):It fs=(decide (x.pms.length=0)&&decide (x.res=0)):=by
 cases fs with
 | nil=>simp at h
 | cons f r=>simp at h;subst h;rfl
theorem So (m:Nat):∀rs:List Yb,KE m (rs.map XX)=(J7 m (rs.map UK)&&J3 rs)
 | []=>rfl
 | r::rs=>by
  simp only [UE,KE,J7,J3,JY,So m rs]
  simp only [XX,UK]
  by_cases h1:J6 m { params:=r.params,result:=r.result }=true<;>by_cases h2:Jg r.params r.lent=true<;>simp [h1,h2]
theorem R3 (n:Zi):VX n=(decide (n.routines.length<=4)&&Jh n.decls (n.routines.map XX)):=by
 have hf:It (n.routines.map XX)=FL (n.routines.map UK):=by
  cases n.routines with
  | nil=>rfl
  | cons r rs=>rfl
 rw [VX,Jh,Kg,So,hf]
 simp only [AZ]
 cases decide (n.routines.length<=4)<;>cases WX n.decls<;>cases decide (1<=n.routines.length/\n.routines.length<=4)<;>cases J7 n.decls.length (n.routines.map UK) <;>
  cases FL (n.routines.map UK)<;>cases J3 n.routines<;>rfl
theorem H1 {rs:List Yb} {j:Nat} {x:Vf} (h:(rs.map XX)[j]? = some x):∃r,rs[j]? = some r/\x=XX r:=by
 rw [Tg] at h
 cases hr:rs[j]? with
 | none=>rw [hr] at h;cases h
 | some r=>rw [hr] at h;cases h;exact ⟨r,rfl,rfl⟩
theorem PS {ps ls:LI} {j:Nat} {v:Int} {r:Bool} (h:ls[j]? = some v) (hg:(0<=v/\v<=(ps.length:Int)-1)/\ps[v.toNat]?≠some 0/\(∀p,(if j=0 then none else ls[j-1]?)=some p->p<v))
  (hr:Qz ps (ls.drop j) (if j=0 then none else ls[j-1]?)=r):Qz ps (ls.drop (j+1)) (if j+1=0 then none else ls[j+1-1]?)=r:=by
 rw [Ya h,Lm hg] at hr
 rw [Z8 om,show j+1-1=j from rfl,h];exact hr
theorem Ln {ps ls:LI} {j:Nat} {v:Int} {r:Bool} (h:ls[j]? = some v) (hg:¬((0<=v/\v<=(ps.length:Int)-1)/\ps[v.toNat]?≠some 0/\(∀p,(if j=0 then none else ls[j-1]?)=some p->p<v)))
  (hr:Qz ps (ls.drop j) (if j=0 then none else ls[j-1]?)=r):r=false:=by
 rw [Ya h,Gu hg] at hr;exact hr.symm
theorem H2 {m:Nat} {fs:List Vf} {k:Nat} {f:Vf} {r:Bool} (h:fs[k]? = some f) (hb:JY m f=false) (hr:KE m (fs.drop k)=r):r=false:=by
 rw [Ya h,KE,hb,Z8 (by simp)] at hr;exact hr.symm
theorem Zdv {m:Nat} {fs:List Vf} {k:Nat} {f:Vf} {r:Bool} (h:fs[k]? = some f) (hb:JY m f=true) (hr:KE m (fs.drop k)=r):KE m (fs.drop (k+1))=r:=by
 rw [Ya h,KE,Ze hb] at hr;exact hr
end Go.Abs
namespace Go.Abs
section
variable {ds:List Zg} {fs:List Vf} {x:Vf}
theorem Zgu (h:((¬(WX ds=true))∨((fs.length:Int)<1))∨((fs.length:Int)>4)):false=Jh ds fs:=by
 rw [Jh]
 rcases h with (h|h)|h
 ·rw [Jk.2 h];rfl
 ·rw [decide_eq_false (p:=1<=fs.length/\fs.length<=4) om];simp
 ·rw [decide_eq_false (p:=1<=fs.length/\fs.length<=4) om];simp
theorem Z0r (hx:fs[0]? = some x) (h:((x.pms.length:Int)>0)∨x.res≠0):false=Jh ds fs:=by
 rw [Jh,Ok hx]
 rcases h with h|h
 ·rw [decide_eq_false (p:=x.pms.length=0) om];simp
 ·rw [decide_eq_false (p:=x.res=0) h];simp
theorem Hn (h:KE ds.length fs=false):false=Jh ds fs:=by rw [Jh,h];simp
theorem Zgv (h:¬(((¬(WX ds=true))∨((fs.length:Int)<1))∨((fs.length:Int)>4))) (hx:fs[0]? = some x) (h1:¬((x.pms.length:Int)>0)) (h2:¬x.res≠0) (h3:KE ds.length fs=true) :
  true=Jh ds fs:=by
 have hv:WX ds=true:=Vr.1 fun q=>h (.inl (.inl q))
 have ha:¬(fs.length:Int)<1:=fun q=>h (.inl (.inr q))
 have hb:¬(fs.length:Int)>4:=fun q=>h (.inr q)
 rw [Jh,Ok hx,hv,h3,decide_eq_true (p:=1<=fs.length/\fs.length<=4) om,decide_eq_true (p:=x.pms.length=0) om,decide_eq_true (p:=x.res=0) (Vr.1 h2)];rfl
abbrev Sl (m:Nat) (x:Vf):Prop:=(((x.pms.length:Int)>3)∨(¬(Wm m x.pms=true)))∨(¬(0<=x.res/\x.res<=m))
theorem Zdc {m:Nat} (h:Sl m x):JY m x=false:=by
 rw [JY,J6]
 rcases h with (h|h)|h
 ·rw [decide_eq_false (p:=x.pms.length<=3) om];simp
 ·rw [Jk.2 h];simp
 ·rw [decide_eq_false h];simp
theorem M6 {m:Nat} (h:Jg x.pms x.lnt=false):JY m x=false:=by rw [JY,h,Bool.and_false]
theorem Zdd {m:Nat} (h:¬Sl m x) (hl:Jg x.pms x.lnt=true):JY m x=true:=by
 have h1:¬(x.pms.length:Int)>3:=fun q=>h (.inl (.inl q))
 rw [JY,J6,hl,decide_eq_true (p:=x.pms.length<=3) om,Vr.1 fun q=>h (.inl (.inr q)),decide_eq_true (Vr.1 fun q=>h (.inr q))];rfl
end
end Go.Abs
namespace Go.Abs
abbrev YW (n:Zi):AV:=Dq (n.routines.map XX)
end Go.Abs
end
section
namespace Go.Abs
def Wn (us:LI):LI->Option LI
 | []=>some []
 | a::r=>match Xy us a with
  | none=>none
  | some t=>match Wn us r with
   | none=>none
   | some ts=>some (t::ts)
theorem ME {us:LI}:∀{args ts:LI},Wn us args=some ts->∀tys,Wg us args tys=true↔ts=tys
 | [],ts,h,tys=>by
  rw [Wn] at h;cases h
  cases tys with
  | nil=>simp [Wg,Td]
  | cons t r=>simp [Wg,Td]
 | a::r,ts,h,tys=>by
  rw [Wn] at h
  cases ha:Xy us a with
  | none=>rw [ha] at h;cases h
  | some t=>
   rw [ha] at h
   cases hr:Wn us r with
   | none=>rw [hr] at h;cases h
   | some tr=>
    rw [hr] at h;cases h
    cases tys with
    | nil=>simp [Wg,Td]
    | cons t2 r2=>
     rw [Wg,Td,ha]
     have:=ME hr r2
     rw [Wg] at this
     by_cases he:t=t2
     ·subst he;simp [this]
     ·rw [Z8 (fun q=>he (WB q))];simp [he]
theorem N8 {us:LI}:∀{args ts:LI},Wn us args=some ts->ts.length=args.length
 | [],ts,h=>by rw [Wn] at h;cases h;rfl
 | a::r,ts,h=>by
  rw [Wn] at h
  cases ha:Xy us a with
  | none=>rw [ha] at h;cases h
  | some t=>
   rw [ha] at h
   cases hr:Wn us r with
   | none=>rw [hr] at h;cases h
   | some tr=>rw [hr] at h;cases h;simp [N8 hr]
theorem N9 {us:LI} {b t:Int}:∀{xs ts:LI},Wn us xs=some ts->Xy us b=some t->Wn us (xs++[b])=some (ts++[t])
 | [],ts,h,hb=>by rw [Wn] at h;cases h;simp [Wn,hb]
 | a::r,ts,h,hb=>by
  rw [Wn] at h
  cases ha:Xy us a with
  | none=>rw [ha] at h;cases h
  | some u=>
   rw [ha] at h
   cases hr:Wn us r with
   | none=>rw [hr] at h;cases h
   | some tr=>
    rw [hr] at h;cases h
    rw [QI,Wn,ha,N9 hr hb];rfl
def DU (n:Zi) (num:Int):LI->Option Int
 | [a,b]=>if W2 n.decls a=true/\b=(VR n.decls a).frm/\num=0 then some (VR n.decls a).to_ else none
 | _=>none
def XL (n:Zi) (op num:Int) (ts:LI):Option Int:=
 if op=0 then (if (-999<=num/\num<=999)/\ts.length=0 then some 0 else none)
 else if op=1∨op=2∨op=3∨op=4 then (if num=0/\ts=[0,0] then some 0 else none)
 else if op=5 then (if num=0/\ts=[0] then some 0 else none)
 else if op=11 then DU n num ts
 else if op=6 then (if 0<=Wh n.decls num/\ts=ZX n.decls num then some (Wh n.decls num) else none)
 else if op=9 then (match Xy n.routines num with
  | none=>none
  | some r=>if ts=r.params then some r.result else none)
 else if op=10 then (match Xy n.routines num with
  | none=>none
  | some r=>if r.params.length≠0/\0<=KR n.decls r.params r.result/\ts=r.params.take (r.params.length-1) then some (KR n.decls r.params r.result) else none)
 else none
theorem Fb {n:Zi} {num:Int} {ts:LI} (h:ts.length≠2):DU n num ts=none:=by
 match ts,h with
 | [],_=>rfl
 | [_],_=>rfl
 | [_,_],h=>simp at h
 | _::_::_::_,_=>rfl
structure Kk (n:Zi):Prop where
 result:∀r∈n.routines,0<=r.result
 params:∀r∈n.routines,∀p∈r.params,0<=p
 decl:∀d∈n.decls,d.cons.length=0->0<=d.frm/\0<=d.to_
 fields:∀c,∀f∈ZX n.decls c,0<=f
abbrev Pg (us:LI) (s:Z5):Prop:=s.into≠0/\(((s.op≠6∨s.into<1)∨s.into>us.length)∨gI us (s.into-1)=0)
theorem Z9n {us:LI} {op into:Int} (hnn:∀t∈us,0<=t) (h:¬(into≠0/\(((op≠6∨into<1)∨into>us.length)∨gI us (into-1)=0))):Uj us op into=true:=by
 rw [Uj]
 split
 ·rfl
 ·rename_i h0
  have h1:¬(((op≠6∨into<1)∨into>us.length)∨gI us (into-1)=0):=fun q=>h ⟨h0,q⟩
  have h2:op=6:=Vr.1 fun q=>h1 (.inl (.inl (.inl q)))
  have h3:¬into<1:=fun q=>h1 (.inl (.inl (.inr q)))
  have h4:¬into>us.length:=fun q=>h1 (.inl (.inr q))
  have h5:¬gI us (into-1)=0:=fun q=>h1 (.inr q)
  obtain ⟨t,ht⟩:=QW (xs:=us) (j:=(into-1).toNat) om
  rw [Ze h2,Qd om ht]
  rw [Vh ht] at h5
  have:=hnn t (ZY ht)
  simp;omega
theorem Z9m {us:LI} {op into:Int} (h:into≠0/\(((op≠6∨into<1)∨into>us.length)∨gI us (into-1)=0)):Uj us op into=false:=by
 obtain ⟨h0,h⟩:=h
 rw [Uj,Z8 h0]
 split
 ·rename_i h6
  cases ha:Xy us (into-1) with
  | none=>rfl
  | some t=>
   obtain ⟨a1,a2⟩:=Kq ha
   rcases h with ((h|h)|h)|h
   ·exact absurd h6 h
   ·omega
   ·omega
   ·rw [Vh a2] at h;subst h;rfl
 ·rfl
theorem Zfx {n:Zi} {us:LI} {s:Z5} (h:Pg us s):Yg n us s=-1:=by
 rw [AS,Ze (.inr (.inl (by rw [Z9m h];simp)))]
end Go.Abs
namespace Go.Abs
theorem Z9o {α:Type} {c:Prop} [Decidable c] {v:α}:(if c then some v else none).isSome=decide c:=by split<;>simp_all
theorem Zdw {n:Zi} (hty:Kk n) {op num:Int} {ts:LI} {x:Int} (h:XL n op num ts=some x):0<=x:=by
 unfold XL at h
 split at h
 ·split at h<;>cases h;exact Int.le_refl 0
 split at h
 ·split at h<;>cases h;exact Int.le_refl 0
 split at h
 ·split at h<;>cases h;exact Int.le_refl 0
 split at h
 ·rcases ts with _|⟨a,_|⟨b,_|⟨c,r⟩⟩⟩
  ·cases h
  ·cases h
  ·rw [DU] at h
   split at h
   ·rename_i hq
    cases h
    rw [VR,Ze hq.1]
    have hA:=hq.1
    simp only [W2,W6,decide_eq_true_eq] at hA
    cases hd:n.decls[(a-1).toNat]? with
    | none=>rw [hd] at hA;simp at hA
    | some d=>
     rw [hd] at hA
     exact (hty.decl d (ZY hd) (by simpa using hA.2)).2
   ·cases h
  ·cases h
 split at h
 ·split at h
  ·rename_i hq;cases h;exact hq.1
  ·cases h
 split at h
 ·cases ha:Xy n.routines num with
  | none=>rw [ha] at h;cases h
  | some r=>
   rw [ha] at h
   simp only at h
   split at h
   ·cases h;exact hty.result r (ZY (Kq ha).2)
   ·cases h
 split at h
 ·cases ha:Xy n.routines num with
  | none=>rw [ha] at h;cases h
  | some r=>
   rw [ha] at h
   simp only at h
   split at h
   ·rename_i hq;cases h;exact hq.2.1
   ·cases h
 ·cases h
def Jc (n:Zi) (us:LI) (s:Z5) (ts:LI):Int:=
 if YH s.op=true then (match ts with
  | [t]=>if t≠0/\s.num=0/\s.kids.length=0/\¬((s.op=16∨s.op=17)/\W2 n.decls t=true) then 0 else -1
  | _=>-1)
 else if s.op=7 then (if ts=[0]/\s.num=0 then TJ n us s.op s.num s.kids else -1)
 else if s.op=8 then (if ts=[s.num] then TJ n us s.op s.num s.kids else -1)
 else if 0<s.kids.length∨(s.op=10/\0<(((Xy n.routines s.num).map (·.lent)).getD []).length) then -1
 else (XL n s.op s.num ts).getD (-1)
theorem Pj {p q:Prop} [Decidable p] [Decidable q] {a b:Int} (h:p↔q):ite p a b=ite q a b:=by
 by_cases hp:p
 ·rw [Ze hp,Ze (h.1 hp)]
 ·rw [Z8 hp,Z8 (fun z=>hp (h.2 z))]
theorem BM {n:Zi} {us:LI} {s:Z5} {ts:LI} (hnn:∀t∈us,0<=t) (hts:Wn us s.args=some ts) (hi:¬Pg us s):Yg n us s=Jc n us s ts:=by
 have hv:=Z9n hnn hi
 have ht:=ME hts
 have hl:=N8 hts
 have hfirst:((s.num≠0/\¬VK s.op=true)∨¬Uj us s.op s.into=true∨(0<s.kids.length/\s.op≠7/\s.op≠8))↔((s.num≠0/\¬VK s.op=true)∨(0<s.kids.length/\s.op≠7/\s.op≠8)):=by
  rw [hv];simp
 rw [AS,Pj hfirst]
 unfold Jc
 by_cases hc:YH s.op=true
 ·have hop:14<=s.op/\s.op<=17:=by simpa [YH] using hc
  have hnum:VK s.op=false:=by simp [VK];omega
  rw [Ze hc]
  by_cases hb:s.num≠0∨0<s.kids.length
  ·rw [Ze (by rcases hb with hb|hb;exact .inl ⟨hb,by rw [hnum];simp⟩;exact .inr ⟨hb,by omega,by omega⟩)]
   split
   ·rw [Z8];rintro ⟨h1,h2,h3,h4⟩;omega
   ·rfl
  ·rw [Z8 (by rintro (⟨h1,_⟩|⟨h1,_⟩)<;>exact hb (by first|exact .inl h1|exact .inr h1)),Z8 om,Z8 om,Z8 om,Z8 om,Z8 om,Z8 om,Z8 om,Z8 om,Ze om]
   have Zb:s.num=0:=Vr.1 fun q=>hb (.inl q)
   have Zx:s.kids.length=0:=by have:¬0<s.kids.length:=fun q=>hb (.inr q);omega
   rcases he:s.args with _|⟨a,_|⟨b,r⟩⟩
   ·rw [he] at hts;rw [Wn] at hts;cases hts;rfl
   ·rw [he] at hts
    rw [Wn] at hts
    cases ha:Xy us a with
    | none=>rw [ha] at hts;cases hts
    | some t=>
     rw [ha,Wn] at hts;cases hts
     rw [Qu,ha]
     simp only
     by_cases ht0:t=0
     ·rw [Ze ht0,Z8 (fun q=>q.1 ht0)]
     ·rw [Z8 ht0]
      by_cases hA:W2 n.decls t=true
      ·by_cases h16:s.op=16∨s.op=17
       ·rw [Ze ⟨by omega,hA⟩,Z8 (fun q=>q.2.2.2 ⟨h16,hA⟩)]
       ·rw [Z8 (by rintro ⟨q,_⟩;omega),Ze ⟨ht0,Zb,Zx,fun q=>h16 q.1⟩]
      ·rw [Z8 (fun q=>hA q.2),Ze ⟨ht0,Zb,Zx,fun q=>hA q.2⟩]
   ·rw [he] at hl
    rw [show Qu n.decls us s.op (a::b::r)=-1 from rfl]
    match ts,hl with
    | [t],hl=>simp at hl
    | [],hl=>simp at hl
    | _::_::_,_=>rfl
 have hop:¬(14<=s.op/\s.op<=17):=by simpa [YH] using hc
 by_cases h7:s.op=7
 ·have hnum:VK s.op=false:=by simp [VK];omega
  conv=>rhs;rw [Z8 hc,Ze h7]
  by_cases hb:s.num=0
  ·rw [Z8 (fun q=>q.elim (fun z=>z.1 hb) fun z=>z.2.1 h7),Z8 om,Z8 om,Z8 om,Z8 om,Ze h7]
   by_cases hq:ts=[0]
   ·rw [Ze ((ht _).2 hq),Ze ⟨hq,hb⟩]
   ·rw [Z8 (fun q=>hq ((ht _).1 q)),Z8 (fun q=>hq q.1)]
  ·rw [Ze (.inl ⟨hb,by rw [hnum];simp⟩),Z8 (fun q=>hb q.2)]
 by_cases h8:s.op=8
 ·have hnum:VK s.op=true:=by simp [VK,h8]
  conv=>rhs;rw [Z8 hc,Z8 h7,Ze h8]
  rw [Z8 (fun q=>q.elim (fun z=>z.2 hnum) fun z=>z.2.2 h8),Z8 om,Z8 om,Z8 om,Z8 om,Z8 h7,Ze h8]
  by_cases hq:ts=[s.num]
  ·rw [Ze ((ht _).2 hq),Ze hq]
  ·rw [Z8 (fun q=>hq ((ht _).1 q)),Z8 hq]
 conv=>rhs;rw [Z8 hc,Z8 h7,Z8 h8]
 by_cases hk:0<s.kids.length
 ·rw [Ze (.inr ⟨hk,h7,h8⟩),Ze (.inl hk)]
 by_cases hlent:s.op=10/\0<(((Xy n.routines s.num).map (·.lent)).getD []).length
 ·conv=>rhs;rw [Ze (.inr hlent)]
  have hnum:VK s.op=true:=by simp [VK,hlent.1]
  have h10:=hlent.1
  rw [Z8 (fun q=>q.elim (fun z=>z.2 hnum) fun z=>hk z.1),Z8 om,Z8 om,Z8 om,Z8 om,Z8 h7,Z8 h8,Ze (.inr h10),TM]
  cases ha:Xy n.routines s.num with
  | none=>rfl
  | some r=>
   have h2:=hlent.2
   rw [ha] at h2
   simp only [BX,Option.getD_some] at h2
   simp only
   rw [KD,Z8 om,Ze (.inr (.inl h2))]
 conv=>rhs;rw [Z8 (fun q=>Or.elim q hk hlent)]
 have sf:∀{X:Option Int},XL n s.op s.num ts=X->Yg n us s=X.getD (-1)->Yg n us s=(XL n s.op s.num ts).getD (-1):=fun a b=>by rw [a];exact b
 have hL:=AS n us s
 rw [Pj hfirst] at hL
 rw [<-hL]
 by_cases hnb:s.num≠0/\¬VK s.op=true
 ·have hnn2:¬(s.op=0∨(s.op=6∨(s.op=8∨(s.op=9∨s.op=10)))):=fun q=>hnb.2 (by simpa [VK] using q)
  refine sf (X:=none) ?_ (by rw [hL,Ze (.inl hnb)];rfl)
  unfold XL
  rw [Z8 om]
  split
  ·rw [Z8 (fun q=>hnb.1 q.1)]
  split
  ·rw [Z8 (fun q=>hnb.1 q.1)]
  split
  ·by_cases hl2:ts.length=2
   ·match ts,hl2 with
    | [a,b],_=>exact Z8 fun q=>hnb.1 q.2.2
   ·exact Fb hl2
  rw [Z8 om,Z8 om,Z8 om]
 rw [Z8 (fun q=>q.elim hnb fun z=>hk z.1)] at hL
 have hnumf:¬(s.op=0∨(s.op=6∨(s.op=8∨(s.op=9∨s.op=10))))->s.num=0:=fun q=>Vr.1 fun z=>hnb ⟨z,fun y=>q (by simpa [VK] using y)⟩
 by_cases h0:s.op=0
 ·rw [Ze h0] at hL
  by_cases hq:s.args.length=0/\(-999<=s.num/\s.num<=999)
  ·exact sf (by unfold XL;rw [Ze h0,Ze ⟨hq.2,by omega⟩]) (by rw [hL,Ze hq];rfl)
  ·exact sf (by unfold XL;rw [Ze h0,Z8 (fun q=>hq ⟨by omega,q.1⟩)]) (by rw [hL,Z8 hq];rfl)
 rw [Z8 h0] at hL
 by_cases h1:s.op=1∨s.op=2∨s.op=3∨s.op=4
 ·rw [Ze h1] at hL
  by_cases hq:ts=[0,0]
  ·exact sf (by unfold XL;rw [Z8 h0,Ze h1,Ze ⟨hnumf om,hq⟩]) (by rw [hL,Ze ((ht _).2 hq)];rfl)
  ·exact sf (by unfold XL;rw [Z8 h0,Ze h1,Z8 (fun q=>hq q.2)]) (by rw [hL,Z8 (fun q=>hq ((ht _).1 q))];rfl)
 rw [Z8 h1] at hL
 by_cases h5:s.op=5
 ·rw [Ze h5] at hL
  by_cases hq:ts=[0]
  ·exact sf (by unfold XL;rw [Z8 h0,Z8 h1,Ze h5,Ze ⟨hnumf om,hq⟩]) (by rw [hL,Ze ((ht _).2 hq)];rfl)
  ·exact sf (by unfold XL;rw [Z8 h0,Z8 h1,Ze h5,Z8 (fun q=>hq q.2)]) (by rw [hL,Z8 (fun q=>hq ((ht _).1 q))];rfl)
 rw [Z8 h5] at hL
 by_cases h6:s.op=6
 ·rw [Ze h6] at hL
  have hct:0<Wh n.decls s.num↔0<=Wh n.decls s.num:=by
   rcases Int.lt_or_le (Wh n.decls s.num) 1 with q|q
   ·have:=(Fq q).2;omega
   ·omega
  by_cases hq:0<=Wh n.decls s.num/\ts=ZX n.decls s.num
  ·exact sf (by unfold XL;rw [Z8 h0,Z8 h1,Z8 h5,Z8 om,Ze h6,Ze hq]) (by rw [hL,Ze ⟨hct.2 hq.1,(ht _).2 hq.2⟩];rfl)
  ·exact sf (by unfold XL;rw [Z8 h0,Z8 h1,Z8 h5,Z8 om,Ze h6,Z8 hq]) (by rw [hL,Z8 (fun q=>hq ⟨hct.1 q.1,(ht _).1 q.2⟩)];rfl)
 rw [Z8 h6,Z8 h7,Z8 h8] at hL
 by_cases h9:s.op=9
 ·rw [Ze (.inl h9),TM] at hL
  cases ha:Xy n.routines s.num with
  | none=>exact sf (by unfold XL;rw [Z8 h0,Z8 h1,Z8 h5,Z8 om,Z8 h6,Ze h9,ha]) (by rw [hL,ha];rfl)
  | some r=>
   rw [ha] at hL
   simp only at hL
   rw [KD,Ze h9] at hL
   have hF:∀{X:Option Int},(if ts=r.params then some r.result else none)=X->XL n s.op s.num ts=X:=fun q=>by
    unfold XL;rw [Z8 h0,Z8 h1,Z8 h5,Z8 om,Z8 h6,Ze h9,ha];exact q
   by_cases hq:ts=r.params
   ·exact sf (hF (Ze hq)) (by rw [hL,Ze ((ht _).2 hq)];rfl)
   ·exact sf (hF (Z8 hq)) (by rw [hL,Z8 (fun q=>hq ((ht _).1 q))];rfl)
 by_cases h10:s.op=10
 ·rw [Ze (.inr h10),TM] at hL
  cases ha:Xy n.routines s.num with
  | none=>exact sf (by unfold XL;rw [Z8 h0,Z8 h1,Z8 h5,Z8 om,Z8 h6,Z8 h9,Ze h10,ha]) (by rw [hL,ha];rfl)
  | some r=>
   rw [ha] at hL hlent
   simp only [BX,Option.getD_some] at hL hlent
   rw [KD,Z8 h9] at hL
   have hF:∀{X:Option Int},(if r.params.length≠0/\0<=KR n.decls r.params r.result/\ts=r.params.take (r.params.length-1) then some (KR n.decls r.params r.result) else none)=X->XL n s.op s.num ts=X:=fun q=>by
    unfold XL;rw [Z8 h0,Z8 h1,Z8 h5,Z8 om,Z8 h6,Z8 h9,Ze h10,ha];exact q
   by_cases hp:r.params.length=0
   ·exact sf (hF (Z8 fun q=>q.1 hp)) (by rw [hL,Ze (.inl hp)];rfl)
   by_cases hq:ts=r.params.take (r.params.length-1)
   ·rw [Z8 (fun z=>z.elim hp fun z=>z.elim (fun z=>hlent ⟨h10,z⟩) fun z=>z ((ht _).2 hq))] at hL
    by_cases har:0<=KR n.decls r.params r.result
    ·exact sf (hF (Ze ⟨hp,har,hq⟩)) hL
    ·refine sf (hF (Z8 fun q=>har q.2.1)) ?_
     have key:∀(l:List Zg) (i:Nat) (f t:Int),¬0<=Kn f t l i->Kn f t l i=-1:=by
      intro l
      induction l with
      | nil=>intro i f t _;rfl
      | cons d r ih=>
       intro i f t hn
       rw [Kn] at hn ⊢
       split
       ·rename_i hh;rw [Ze hh] at hn;omega
       ·rename_i hh;rw [Z8 hh] at hn;exact ih _ _ _ hn
     exact hL.trans (key _ _ _ _ har)
   ·exact sf (hF (Z8 fun q=>hq q.2.2)) (by rw [hL,Ze (.inr (.inr fun q=>hq ((ht _).1 q)))];rfl)
 rw [Z8 om] at hL
 by_cases h11:s.op=11
 ·rw [Ze h11] at hL
  have hn0:=hnumf om
  have hF:∀{X:Option Int},DU n s.num ts=X->XL n s.op s.num ts=X:=fun q=>by
   unfold XL;rw [Z8 h0,Z8 h1,Z8 h5,Ze h11];exact q
  rcases he:s.args with _|⟨a,_|⟨b,_|⟨c,r⟩⟩⟩
  ·rw [he] at hts hL;rw [Wn] at hts;cases hts;exact sf (hF rfl) hL
  ·rw [he] at hl hL
   exact sf (hF (Fb (by simp at hl;omega))) hL
  ·rw [he] at hts hL
   rw [Wn] at hts
   cases ha:Xy us a with
   | none=>rw [ha] at hts;cases hts
   | some t=>
    rw [ha,Wn] at hts
    cases hb:Xy us b with
    | none=>rw [hb] at hts;cases hts
    | some t2=>
     rw [hb,Wn] at hts;cases hts
     rw [QN,ha] at hL
     simp only at hL
     by_cases hA:W2 n.decls t=true
     ·rw [Ze hA] at hL
      have hA2:=hA
      simp only [W2,W6,decide_eq_true_eq] at hA2
      cases hd:n.decls[(t-1).toNat]? with
      | none=>rw [hd] at hA2;simp at hA2
      | some d=>
       rw [hd] at hL
       simp only at hL
       have hD:VR n.decls t=d:=by rw [VR,Ze hA,hd];rfl
       have h2:=ME (us:=us) (args:=[b]) (ts:=[t2]) (by rw [Wn,hb,Wn]) [d.frm]
       by_cases hq:t2=d.frm
       ·exact sf (hF (Ze ⟨hA,by rw [hD];exact hq,hn0⟩)) (by rw [hL,Ze (h2.2 (by rw [hq])),hD];rfl)
       ·exact sf (hF (Z8 fun q=>hq (by rw [hD] at q;exact q.2.1))) (by rw [hL,Z8 (fun q=>hq (by simpa using h2.1 q))];rfl)
     ·exact sf (hF (Z8 fun q=>hA q.1)) (by rw [hL,Z8 hA];rfl)
  ·rw [he] at hl hL
   exact sf (hF (Fb (by simp at hl;omega))) hL
 rw [Z8 h11,Z8 om] at hL
 exact sf (X:=none) (by unfold XL;rw [Z8 h0,Z8 h1,Z8 h5,Z8 h11,Z8 h6,Z8 h9,Z8 h10]) hL
end Go.Abs
namespace Go.Abs
theorem R9:∀(n:Nat) (f:Int) (k:Nat) (x:Int),(VB f n)[k]? = some x->x=f+k/\k<n
 | 0,f,k,x,h=>by simp [VB] at h
 | n+1,f,k,x,h=>by
  rw [VB] at h
  cases k with
  | zero=>simp at h;subst h;exact ⟨by omega,by omega⟩
  | succ k=>have:=R9 n (f+1) k x (by simpa using h);exact ⟨by omega,by omega⟩
theorem NR {ds:List Zg} (hd:Wu ds) {t:Int} {k:Nat} {x:Int} (h:(Y1 ds t)[k]? = some x):0<=x/\x<=100:=by
 rw [Y1] at h
 split at h
 ·rename_i ht
  obtain ⟨d,hd1⟩:=QW (xs:=ds) (j:=(t-1).toNat) om
  rw [hd1] at h
  have:=R9 _ _ _ _ h
  have h3:=hd.cons_at hd1
  have h4:=(hd.take (t-1).toNat).sum
  simp only [BX,Option.getD_some] at this
  omega
 ·simp at h
end Go.Abs
namespace Go.Abs
section
variable {S:Option Int} {c:Prop} [Decidable c] {v:Int} {b:Bool}
theorem BF (h:S=if c then some v else none) (hb:b=true↔c):b=S.isSome:=by rw [h,Z9o,Xu,hb,decide_eq_true_iff]
theorem BG (h:S=if c then some v else none):∀x,S=some x->v=x:=by
 intro x hx;rw [h] at hx;split at hx
 ·exact WB hx
 ·cases hx
theorem EM (h:S=none):false=S.isSome:=by rw [h];rfl
theorem EN (h:S=none):∀x,S=some x->v=x:=by intro x hx;rw [h] at hx;cases hx
end
section
variable {n:Zi} {op num:Int} {ts:LI}
theorem sf0 (h:op=0):XL n op num ts=if (-999<=num/\num<=999)/\ts.length=0 then some 0 else none:=by unfold XL;rw [Ze h]
theorem sf1 (h:op=1∨op=2∨op=3∨op=4):XL n op num ts=if num=0/\ts=[0,0] then some 0 else none:=by unfold XL;rw [Z8 om,Ze h]
theorem sf5 (h:op=5):XL n op num ts=if num=0/\ts=[0] then some 0 else none:=by unfold XL;rw [Z8 om,Z8 om,Ze h]
theorem Sk (h:op=11):XL n op num ts=DU n num ts:=by unfold XL;rw [Z8 om,Z8 om,Z8 om,Ze h]
theorem Zds (h:op=11) (hl:(ts.length:Int)≠2):XL n op num ts=none:=(Sk h).trans (Fb om)
theorem Mb (h:op=11) {a b:Int} (hl:¬(ts.length:Int)≠2) (ha:ts[0]? = some a) (hb:ts[1]? = some b) :
  XL n op num ts=if W2 n.decls a=true/\b=(VR n.decls a).frm/\num=0 then some (VR n.decls a).to_ else none:=by
 rw [Sk h]
 match ts,hl,ha,hb with
 | [x,y],_,ha,hb=>simp at ha hb;subst ha;subst hb;rfl
 | [],hl,_,_=>simp at hl
 | [_],hl,_,_=>simp at hl
 | _::_::_::_,hl,_,_=>simp at hl;omega
theorem Zdr (h:op=11) {a:Int} (hl:¬(ts.length:Int)≠2) (ha:ts[0]? = some a) (hn:¬W2 n.decls a=true):XL n op num ts=none:=by
 obtain ⟨b,hb⟩:=QW (xs:=ts) (j:=1) om
 rw [Mb h hl ha hb,Z8 fun q=>hn q.1]
theorem sf6 (h:op=6):XL n op num ts=if 0<=Wh n.decls num/\ts=ZX n.decls num then some (Wh n.decls num) else none:=by
 unfold XL;rw [Z8 om,Z8 om,Z8 om,Z8 om,Ze h]
theorem Zdt (h:op=9∨op=10) (hr:num<0∨num>=(((n.routines.map XX).length:Nat):Int)):XL n op num ts=none:=by
 have ha:Xy n.routines num=none:=Ko (by simp at hr;omega)
 unfold XL
 rw [Z8 om,Z8 om,Z8 om,Z8 om,Z8 om]
 rcases h with h|h
 ·rw [Ze h,ha]
 ·rw [Z8 om,Ze h,ha]
theorem sf9 (h:op=9) {x:Vf} (hr:¬(num<0∨num>=(((n.routines.map XX).length:Nat):Int))) (hx:(n.routines.map XX)[num.toNat]? = some x) :
  XL n op num ts=if ts=x.pms then some x.res else none:=by
 obtain ⟨r,h1,rfl⟩:=H1 hx
 have ha:Xy n.routines num=some r:=Qd (by simp at hr;omega) h1
 unfold XL
 rw [Z8 om,Z8 om,Z8 om,Z8 om,Z8 om,Ze h,ha];rfl
theorem Zdq (h:op=10) {x:Vf} (hr:¬(num<0∨num>=(((n.routines.map XX).length:Nat):Int))) (hx:(n.routines.map XX)[num.toNat]? = some x) (hp:(x.pms.length:Int)-1<0) :
  XL n op num ts=none:=by
 obtain ⟨r,h1,rfl⟩:=H1 hx
 have ha:Xy n.routines num=some r:=Qd (by simp at hr;omega) h1
 have hp':r.params.length=0:=by simp only [XX] at hp;omega
 unfold XL
 rw [Z8 om,Z8 om,Z8 om,Z8 om,Z8 om,Z8 om,Ze h,ha]
 exact Z8 fun q=>q.1 hp'
theorem Zdp (h:op=10) {x:Vf} {l:Int} (hr:¬(num<0∨num>=(((n.routines.map XX).length:Nat):Int))) (hx:(n.routines.map XX)[num.toNat]? = some x) (hp:¬(x.pms.length:Int)-1<0)
  (hl:x.pms[((x.pms.length:Int)-1).toNat]? = some l) :
  XL n op num ts=if 0<=Uv n.decls l x.res/\ts=x.pms.take ((x.pms.length:Int)-1).toNat then some (Uv n.decls l x.res) else none:=by
 obtain ⟨r,h1,rfl⟩:=H1 hx
 have ha:Xy n.routines num=some r:=Qd (by simp at hr;omega) h1
 simp only [XX] at hp hl ⊢
 have hq:((r.params.length:Int)-1).toNat=r.params.length-1:=by omega
 have ht:r.params.take ((r.params.length:Int)-1).toNat=r.params.take (r.params.length-1):=Yr (fun k=>r.params.take k) hq
 have hl':r.params[r.params.length-1]? = some l:=by rw [<-hl];exact Yr (fun k=>r.params[k]?) hq.symm
 have hlast:KR n.decls r.params r.result=Uv n.decls l r.result:=by rw [KR,OO hl']
 unfold XL
 rw [Z8 om,Z8 om,Z8 om,Z8 om,Z8 om,Z8 om,Ze h,ha]
 simp only [hlast]
 by_cases hc:0<=Uv n.decls l r.result/\ts=r.params.take (r.params.length-1)
 ·rw [Ze ⟨by omega,hc⟩]
  exact (Ze ⟨hc.1,hc.2.trans ht.symm⟩).symm
 ·rw [Z8 fun q=>hc q.2]
  exact (Z8 (fun q=>hc ⟨q.1,q.2.trans ht⟩)).symm
theorem sfd (h0:¬op=0) (h1:¬(op=1∨op=2∨op=3∨op=4)) (h5:¬op=5) (h11:¬op=11) (h6:¬op=6) (h9:¬(op=9∨op=10)):XL n op num ts=none:=by
 unfold XL;rw [Z8 h0,Z8 h1,Z8 h5,Z8 h11,Z8 h6,Z8 om,Z8 om]
end
end Go.Abs
end
namespace Go.Abs
mutual
def Z5.rng:Z5->Prop
 | .mk _ num _ _ kids=>(-9223372036854775808<=num/\num<=9223372036854775807)/\QO kids
def Z7.rng:Z7->Prop
 | .mk steps _=>UM steps
def UM:List Z5->Prop
 | []=>True
 | s::r=>s.rng/\UM r
def QO:List Z7->Prop
 | []=>True
 | b::r=>b.rng/\QO r
end
theorem Z5.rng_eq (s:Z5):s.rng=((-9223372036854775808<=s.num/\s.num<=9223372036854775807)/\QO s.kids):=by cases s;rw [Z5.rng];rfl
theorem Z7.rng_eq (b:Z7):b.rng=UM b.steps:=by cases b;rw [Z7.rng];rfl
theorem Mn:∀{xs:List Z5} {k:Nat} {s:Z5},UM xs->xs[k]? = some s->s.rng
 | [],k,s,_,h=>by simp at h
 | x::r,0,s,hr,h=>by rw [UM] at hr;simp at h;subst h;exact hr.1
 | x::r,k+1,s,hr,h=>by rw [UM] at hr;exact Mn (k:=k) hr.2 (by simpa using h)
theorem Fh:∀{xs:List Z7} {k:Nat} {b:Z7},QO xs->xs[k]? = some b->b.rng
 | [],k,s,_,h=>by simp at h
 | x::r,0,s,hr,h=>by rw [QO] at hr;simp at h;subst h;exact hr.1
 | x::r,k+1,s,hr,h=>by rw [QO] at hr;exact Fh (k:=k) hr.2 (by simpa using h)
theorem MF {us:LI}:∀{args:LI},Wn us args=none->∀tys,Wg us args tys=false
 | [],h,tys=>by rw [Wn] at h;cases h
 | a::r,h,tys=>by
  cases tys with
  | nil=>simp [Wg,Td]
  | cons t ts=>
   rw [Wn] at h
   rw [Wg,Td]
   cases ha:Xy us a with
   | none=>simp
   | some u=>
    rw [ha] at h
    cases hr:Wn us r with
    | none=>
     have:=MF hr ts
     rw [Wg] at this
     by_cases he:u=t
     ·subst he;simpa using this
     ·rw [Z8 (fun q=>he (WB q))]
    | some tr=>rw [hr] at h;cases h
theorem Zfv {n:Zi} {us:LI} {s:Z5} (h:Wn us s.args=none):Yg n us s=-1:=by
 have ht:=MF h
 rw [AS]
 split
 ·rfl
 split
 ·rw [Z8];rintro ⟨q,_⟩
  have:s.args=[]:=List.length_eq_zero_iff.1 q
  rw [this,Wn] at h;cases h
 split
 ·rw [Z8 (by rw [ht];simp)]
 split
 ·rw [Z8 (by rw [ht];simp)]
 split
 ·rw [Z8 (by rw [ht];simp)]
 split
 ·rw [Z8 (by rw [ht];simp)]
 split
 ·rw [Z8 (by rw [ht];simp)]
 split
 ·rw [TM]
  cases Xy n.routines s.num with
  | none=>rfl
  | some r=>
   simp only
   rw [KD]
   split
   ·rw [Z8 (by rw [ht];simp)]
   ·rw [Ze (.inr (.inr (by rw [ht];simp)))]
 split
 ·match hA:s.args with
  | []=>rfl
  | [_]=>rfl
  | [a,b]=>
   rw [QN]
   rw [hA,Wn] at h
   cases ha:Xy us a with
   | none=>rfl
   | some t=>
    rw [ha] at h
    simp only at h ⊢
    split
    ·cases n.decls[(t-1).toNat]? with
     | none=>rfl
     | some d=>
      simp only
      rw [Z8]
      cases hb:Wn us [b] with
      | none=>rw [MF hb];simp
      | some tr=>rw [hb] at h;cases h
    ·rfl
  | _::_::_::_=>rfl
 split
 ·match hA:s.args with
  | []=>rfl
  | [a]=>
   rw [Qu]
   rw [hA,Wn] at h
   cases ha:Xy us a with
   | none=>rfl
   | some t=>rw [ha,Wn] at h;cases h
  | _::_::_=>rfl
 ·rfl
theorem N7 {us:LI} {a:Int}:∀{xs:LI} {k:Nat},xs[k]? = some a->Xy us a=none->Wn us xs=none
 | [],k,h,_=>by simp at h
 | x::r,0,h,ha=>by simp at h;subst h;rw [Wn,ha]
 | x::r,k+1,h,ha=>by
  have:=N7 (xs:=r) (k:=k) (by simpa using h) ha
  rw [Wn]
  cases Xy us x with
  | none=>rfl
  | some t=>simp only [this]
theorem Za6 {n:Zi} {us:LI} {ks:List Z7} {ms:List LI} (h:0<ks.length) (t:Int) :
  V2 n us (ks.drop 0) (ms.drop 0) (decide (0=0)) t=V2 n us ks ms true 0:=by
 cases ks with
 | nil=>simp at h
 | cons b bs=>
  cases ms with
  | nil=>rw [Qs,Qs,V2,V2]
  | cons m r=>
   simp only [Qs,decide_true]
   rw [V2,V2];simp
theorem Ny {b:Z7}:∀{ks:List Z7} {k:Nat},ks[k]? = some b->b.sz<=Xa ks
 | [],k,h=>by simp at h
 | x::r,0,h=>by simp at h;subst h;rw [Xa];omega
 | x::r,k+1,h=>by have:=Ny (ks:=r) (k:=k) (by simpa using h);rw [Xa];omega
theorem EV (us m:LI):[us,m].flatten=us++m:=by simp
theorem Ow {xs:LI} {i:Int} (h:i.toNat<xs.length):xs[i.toNat]? = some (gI xs i):=by rw [gI,KL h];rfl
theorem FV {xs:LI} (h:0<xs.length):xs[0]? = some (gI xs 0):=Ow (i:=0) h
def UB (n:Zi) (num:Int):Vf:=((n.routines.map XX)[num.toNat]?).getD ⟨[],[],0⟩
theorem Sm {n:Zi} {i:Int} (h:i.toNat<(n.routines.map XX).length):(n.routines.map XX)[i.toNat]? = some (UB n i):=by rw [UB,KL h];rfl
theorem Ev {us m:LI} (h1:∀t∈us,0<=t) (h2:∀t∈m,0<=t):∀t∈us++m,0<=t:=fun t h=>(X6.1 h).elim (h1 t) (h2 t)
theorem Bc {us:LI} {args ts:LI} {k:Nat} (h:Wn us (args.take k)=some ts) (hk:args.length<=k):Wn us args=some ts:=by
 rw [Vd hk] at h;exact h
theorem Z20 {us:LI} {args ts:LI} {k:Nat} {a t:Int} (h:Wn us (args.take k)=some ts) (ha:args[k]? = some a) (ht:Xy us a=some t):Wn us (args.take (k+1))=some (ts++[t]):=by
 rw [Vc ha];exact N9 h ht
theorem Rf {ts:LI} (h:(ts.length:Int)=1):ts=[gI ts 0]:=by
 match ts,h with
 | [a],_=>rfl
section
variable {n:Zi} {us ts:LI} {s:Z5}
theorem AC {p1 p2 p3 p4 p5:Prop}:(p1/\(p2∨(p3∨(p4∨p5))))↔(p1/\(((p2∨p3)∨p4)∨p5)):=by simp only [or_assoc]
def Fo (n:Zi) (s:Z5) (ts:LI):Int:=match ts with
  | [t]=>if t≠0/\s.num=0/\s.kids.length=0/\¬((s.op=16∨s.op=17)/\W2 n.decls t=true) then 0 else -1
  | _=>-1
theorem BL:Jc n us s ts =
 if YH s.op=true then Fo n s ts
 else if s.op=7 then (if ts=[0]/\s.num=0 then TJ n us s.op s.num s.kids else -1)
 else if s.op=8 then (if ts=[s.num] then TJ n us s.op s.num s.kids else -1)
 else if 0<s.kids.length∨(s.op=10/\0<(((Xy n.routines s.num).map (·.lent)).getD []).length) then -1
 else (XL n s.op s.num ts).getD (-1):=by unfold Jc Fo;rfl
theorem NM (h:(ts.length:Int)=1):Fo n s ts=if gI ts 0≠0/\s.num=0/\s.kids.length=0/\¬((s.op=16∨s.op=17)/\W2 n.decls (gI ts 0)=true) then 0 else -1:=by
 match ts,h with
 | [a],_=>rfl
theorem Z3e (h:(ts.length:Int)≠1):Fo n s ts=-1:=by
 match ts,h with
 | [],_=>rfl
 | [a],h=>exact absurd rfl h
 | _::_::_,_=>rfl
theorem Zfb (hS:Yg n us s=Jc n us s ts) (hc:YH s.op=true)
  (h:((((ts.length:Int)=1/\gI ts 0≠0)/\s.num=0)/\(s.kids.length:Int)=0)/\(s.op=16∨s.op=17)) :
  (!W2 n.decls (gI ts 0))=decide (0<=Yg n us s):=by
 obtain ⟨⟨⟨⟨h1,h2⟩,h3⟩,h4⟩,h5⟩:=h
 have h4':s.kids.length=0:=by omega
 rw [hS,BL,Ze hc,NM h1]
 cases hA:W2 n.decls (gI ts 0)
 ·rw [Ze ⟨h2,h3,h4',by simp⟩];rfl
 ·rw [Z8 (fun q=>q.2.2.2 ⟨h5,rfl⟩)];rfl
theorem Zfc (hS:Yg n us s=Jc n us s ts) (hc:YH s.op=true)
  (h:¬(((((ts.length:Int)=1/\gI ts 0≠0)/\s.num=0)/\(s.kids.length:Int)=0)/\(s.op=16∨s.op=17))) :
  ((((((ts.length:Int)==1)&&(gI ts 0 != 0))&&(s.num==0))&&((s.kids.length:Int)==0)))=decide (0<=Yg n us s):=by
 rw [hS,BL,Ze hc]
 by_cases h1:(ts.length:Int)=1
 ·rw [NM h1]
  by_cases h2:(gI ts 0≠0/\s.num=0)/\(s.kids.length:Int)=0
  ·obtain ⟨⟨h2,h3⟩,h4⟩:=h2
   have h4':s.kids.length=0:=by omega
   rw [Ze ⟨h2,h3,h4',fun q=>h ⟨⟨⟨⟨h1,h2⟩,h3⟩,h4⟩,q.1⟩⟩,Zq.2 h1,Ym.2 h2,Zq.2 h3,Zq.2 h4];rfl
  ·rw [Z8 (fun q=>h2 ⟨⟨q.1,q.2.1⟩,by have:=q.2.2.1;omega⟩)]
   show _=false
   rw [Jk];intro q
   obtain ⟨⟨⟨_,q1⟩,q2⟩,q3⟩:=(YG (YG (YG Zq Ym) Zq) Zq).1 q
   exact h2 ⟨⟨q1,q2⟩,q3⟩
 ·rw [Z3e h1]
  show _=false
  rw [Jk];intro q
  obtain ⟨⟨⟨q1,_⟩,_⟩,_⟩:=(YG (YG (YG Zq Ym) Zq) Zq).1 q
  exact h1 q1
theorem Zf7 (hS:Yg n us s=Jc n us s ts) (hc:¬YH s.op=true) (h7:s.op=7)
  (h:(((ts.length:Int)≠1∨gI ts 0≠0)∨s.num≠0)∨(s.kids.length:Int)≠2):Yg n us s=-1:=by
 rw [hS,BL,Z8 hc,Ze h7]
 split
 ·rename_i q
  obtain ⟨q1,q2⟩:=q
  rw [q1] at h
  rw [TJ,Ze]
  right
  rw [Xs,Ze h7]
  have:gI [0] 0=0:=rfl
  simp [this] at h
  show s.kids.length≠2
  omega
 ·rfl
theorem Zf8 (hS:Yg n us s=Jc n us s ts) (hc:¬YH s.op=true) (h7:s.op=7)
  (h:¬((((ts.length:Int)≠1∨gI ts 0≠0)∨s.num≠0)∨(s.kids.length:Int)≠2)):Yg n us s=V2 n us s.kids (List.replicate 2 []) true 0:=by
 have h1:(ts.length:Int)=1:=Vr.1 fun q=>h (.inl (.inl (.inl q)))
 have h2:gI ts 0=0:=Vr.1 fun q=>h (.inl (.inl (.inr q)))
 have h3:s.num=0:=Vr.1 fun q=>h (.inl (.inr q))
 have h4:(s.kids.length:Int)=2:=Vr.1 fun q=>h (.inr q)
 rw [hS,BL,Z8 hc,Ze h7,Ze ⟨by rw [Rf h1,h2],h3⟩,TJ,Z8]
 ·rw [Xs,Ze h7];rfl
 ·rw [Xs,Ze h7];simp;omega
theorem Zf9 (hS:Yg n us s=Jc n us s ts) (hc:¬YH s.op=true) (h7:¬s.op=7) (h8:s.op=8)
  (h:(ts.length:Int)≠1∨(gI ts 0≠s.num∨(((((Y1 n.decls s.num).map (ZX n.decls)).length:Nat):Int)=0∨(s.kids.length:Int)≠((((Y1 n.decls s.num).map (ZX n.decls)).length:Nat):Int)))):Yg n us s=-1:=by
 rw [hS,BL,Z8 hc,Z8 h7,Ze h8]
 split
 ·rename_i q
  have hg:gI ts 0=s.num:=by rw [q];rfl
  have hl:(ts.length:Int)=1:=by rw [q];rfl
  rw [TJ,Ze]
  rw [Xs,Z8 h7]
  omega
 ·rfl
theorem Zfa (hS:Yg n us s=Jc n us s ts) (hc:¬YH s.op=true) (h7:¬s.op=7) (h8:s.op=8)
  (h:¬((ts.length:Int)≠1∨(gI ts 0≠s.num∨(((((Y1 n.decls s.num).map (ZX n.decls)).length:Nat):Int)=0∨(s.kids.length:Int)≠((((Y1 n.decls s.num).map (ZX n.decls)).length:Nat):Int))))) :
  Yg n us s=V2 n us s.kids ((Y1 n.decls s.num).map (ZX n.decls)) true 0:=by
 have h1:(ts.length:Int)=1:=Vr.1 fun q=>h (.inl q)
 have h2:gI ts 0=s.num:=Vr.1 fun q=>h (.inr (.inl q))
 rw [hS,BL,Z8 hc,Z8 h7,Ze h8,Ze (by rw [Rf h1,h2]),TJ,Z8]
 ·rw [Xs,Z8 h7]
 ·rw [Xs,Z8 h7];omega
theorem Zaw {n:Zi} {num:Int}:(((Xy n.routines num).map (·.lent)).getD []).length=if 0<=num/\num<(((n.routines.map XX).length:Nat):Int) then (UB n num).lnt.length else 0:=by
 split
 ·rename_i h
  rw [AZ] at h
  obtain ⟨r,hr⟩:=QW (xs:=n.routines) (j:=num.toNat) om
  rw [Qd om hr,UB,Tg,hr];rfl
 ·rename_i h
  rw [AZ] at h
  rw [Ko om];rfl
theorem SS:(0<s.kids.length∨(s.op=10/\0<(((Xy n.routines s.num).map (·.lent)).getD []).length)) ↔
  ((s.kids.length:Int)>0∨(s.op=10/\(s.num>=0/\(s.num<(((n.routines.map XX).length:Nat):Int)/\((((UB n s.num).lnt).length:Nat):Int)>0)))):=by
 rw [Zaw]
 by_cases hq:0<=s.num/\s.num<(((n.routines.map XX).length:Nat):Int)
 ·rw [Ze hq];omega
 ·rw [Z8 hq];omega
theorem stB (hS:Yg n us s=Jc n us s ts) (hc:¬YH s.op=true) (h7:¬s.op=7) (h8:¬s.op=8)
  (h:((s.kids.length:Int)>0∨(s.op=10/\(s.num>=0/\(s.num<(((n.routines.map XX).length:Nat):Int)/\((((UB n s.num).lnt).length:Nat):Int)>0))))):Yg n us s=-1:=by
 rw [hS,BL,Z8 hc,Z8 h7,Z8 h8,Ze (SS.2 h)]
theorem stS (hS:Yg n us s=Jc n us s ts) (hc:¬YH s.op=true) (h7:¬s.op=7) (h8:¬s.op=8)
  (h:¬((s.kids.length:Int)>0∨(s.op=10/\(s.num>=0/\(s.num<(((n.routines.map XX).length:Nat):Int)/\((((UB n s.num).lnt).length:Nat):Int)>0))))):Yg n us s=(XL n s.op s.num ts).getD (-1):=by
 rw [hS,BL,Z8 hc,Z8 h7,Z8 h8,Z8 (fun q=>h (SS.1 q))]
theorem Zfd (hty:Kk n) (h:Yg n us s=(XL n s.op s.num ts).getD (-1)):(XL n s.op s.num ts).isSome=decide (0<=Yg n us s):=by
 rw [h]
 cases hs:XL n s.op s.num ts with
 | none=>rfl
 | some x=>have:=Zdw hty hs;simp [this]
theorem Zfe {t:Int} (h:Yg n us s=(XL n s.op s.num ts).getD (-1)) (hp:∀x,XL n s.op s.num ts=some x->t=x):¬YH s.op=true->0<=Yg n us s->t=Yg n us s:=by
 intro _ h0
 rw [h] at h0 ⊢
 cases hs:XL n s.op s.num ts with
 | none=>rw [hs] at h0;exact absurd h0 (by decide)
 | some x=>exact hp x hs
end
theorem Zfu {n:Zi} {us:LI} {s:Z5} (h:0<=Yg n us s):(0<=s.op/\s.op<=11)∨(14<=s.op/\s.op<=17):=by
 rw [AS] at h
 by_cases hq:(0<=s.op/\s.op<=11)∨(14<=s.op/\s.op<=17)
 ·exact hq
 ·exfalso
  split at h
  ·omega
  rw [Z8 om,Z8 om,Z8 om,Z8 om,Z8 om,Z8 om,Z8 om,Z8 om,Z8 om] at h
  omega
theorem Fx {n:Zi} {us:LI} {s:Z5} (h:0<=Yg n us s):XS s.op=!YH s.op:=by
 have:=Zfu h
 rw [XS,YH,Xu];simp;omega
theorem Zfz {n:Zi} {xs:List Z5} {vs:LI} {k:Nat} {s:Z5} {t:Int} {r:Option LI} (hs:xs[k]? = some s) (h:0<=Yg n vs s) (ht:¬YH s.op=true->0<=Yg n vs s->t=Yg n vs s)
  (hr:XI n (xs.drop k) vs=r):XI n (xs.drop (k+1)) (if YH s.op=true then vs else vs++[t])=r:=by
 rw [Ya hs,XI,Z8 om] at hr
 rw [<-hr,Fx h]
 by_cases hc:YH s.op=true
 ·rw [Ze hc,hc];rfl
 ·rw [Z8 hc,Ze (by simpa using hc),ht hc h]
theorem Zg0 {n:Zi} {xs:List Z5} {vs:LI} {k:Nat} {s:Z5} {r:Option LI} (hs:xs[k]? = some s) (h:¬0<=Yg n vs s) (hr:XI n (xs.drop k) vs=r):r=none:=by
 rw [Ya hs,XI,Ze om] at hr;exact hr.symm
theorem Zb2 {c:Prop} [Decidable c] {vs:LI} {t:Int} (h:∀x∈vs,0<=x) (ht:¬c->0<=t):∀x∈(if c then vs else vs++[t]),0<=x:=by
 split
 ·exact h
 ·rename_i hc
  exact Ev h (fun x hx=>by rw [Xx.1 hx];exact ht hc)
theorem N5 {m:Nat} {xs:LI} (h:Wm m xs=true):∀x∈xs,0<=x/\x<=m:=by
 rw [Wm,JC] at h
 exact fun x hx=>of_decide_eq_true (h x hx)
theorem Lw {n:Zi} (h:VX n=true):Kk n:=by
 simp only [VX,Kg,W6,decide_eq_true_eq] at h
 obtain ⟨h1,⟨h2,h3,h4,h5⟩,h6⟩:=h
 have hs:∀r∈n.routines,Wm n.decls.length r.params=true/\0<=r.result:=fun r hr=>by
  have:=Me h4 (UK r) (Wc.2 ⟨r,hr,rfl⟩)
  simp only [J6,W6,decide_eq_true_eq] at this
  exact ⟨this.2.1,this.2.2.1⟩
 simp only [WX,W6,decide_eq_true_eq] at h2
 obtain ⟨h2a,h2b⟩:=h2
 rw [I6] at h2b
 have key:∀(i:Nat) (d:Zg),n.decls[i]? = some d->UR n.decls d i=true:=fun i d hi=>by
  have:=h2b i (Xi.1 hi).1
  rwa [Vl,E1 hi] at this
 refine ⟨fun r hr=>(hs r hr).2,fun r hr p hp=>(N5 (hs r hr).1 p hp).1,fun d hd h0=>?_,fun c f hf=>?_⟩
 ·obtain ⟨i,hi⟩:=List.mem_iff_getElem?.1 hd
  have:=key i d hi
  rw [UR,Z8 om] at this
  split at this
  ·cases this
  ·simp only [W6,decide_eq_true_eq] at this;omega
 ·by_cases hc:Wh n.decls c<1
  ·rw [(Fq hc).1] at hf;cases hf
  ·obtain ⟨k,d,x,q1,q2,q3,q4,q5⟩:=I1 hc
   rw [q5] at hf
   have:=key k d q1
   have hp:0<d.cons.length:=by have:=(Xi.1 q3).1;omega
   rw [UR,Ze hp] at this
   split at this
   ·have:=NS.1 this x (ZY q3)
    simp only [Jp,W6] at this
    exact (N5 this.2 f hf).1
   ·cases this
end Go.Abs
section
namespace Go.Abs
structure Xr where
 mat:Int
 fst:Int
 fds:LI
 chg:Bool
abbrev PD (a:Xr):List AV:=[.i a.mat,.i a.fst,Z4 a.fds,.b a.chg]
abbrev MU (a:Xr):AV:=.agg (PD a)
def WP (xs:List Xr):List AV:=xs.map MU
abbrev Xf (xs:List Xr):AV:=.sl (WP xs) none
abbrev Ly (xs:List Xr) (v:Value):AV:=.sl (WP xs) (some v)
theorem Z4p {xs:List Xr} {j:Nat} {x:Xr} (h:xs[j]? = some x):(WP xs)[j]? = some (MU x):=by simp [WP,h]
@[simp] theorem Z4q (xs:List Xr):(WP xs).length=xs.length:=by simp [WP]
theorem O0 (xs ys:List Xr):WP (xs++ys)=WP xs++WP ys:=by simp [WP]
theorem CV (xs:List Xr):∀y∈WP xs,y.leaves.length=4:=by intro y hy;simp only [WP,Wc] at hy;obtain ⟨x,_,rfl⟩:=hy;rfl
theorem I9 (xs:List Xr):(Zp (WP xs)).all AV.one=true:=Jt fun y hy=>by simp only [WP,Wc] at hy;obtain ⟨x,_,rfl⟩:=hy;rfl
theorem Z4r {xs:List Xr} (h:WP xs=[]):xs=[]:=by cases xs with|nil=>rfl|cons x r=>cases h
abbrev V4:=Zr
def Ub:LI->Int->LI
 | [],_=>[]
 | t::r,p=>if t≠0 then p::Ub r (p+1) else Ub r (p+1)
theorem Z81 {xs:LI} {k:Nat} {t p:Int} {acc r:LI} (h:xs[k]? = some t) (ha:acc++Ub (xs.drop k) (p+k)=r) :
  (if t≠0 then acc++[p+k] else acc)++Ub (xs.drop (k+1)) (p+((k+1:Nat):Int))=r:=by
 rw [Ya h,Ub] at ha
 rw [show p+((k+1:Nat):Int)=p+k+1 by omega]
 split
 ·rename_i q;rw [Ze q] at ha;rw [TV];exact ha
 ·rename_i q;rw [Z8 q] at ha;exact ha
theorem Z80 {xs:LI} {k:Nat} {p:Int} {acc r:LI} (h:xs.length<=k) (ha:acc++Ub (xs.drop k) (p+k)=r):acc=r:=by
 rw [Xn h,Ub,A6] at ha;exact ha
theorem IS:∀(xs:LI) (p:Int) (own:LI),Th own p xs=(Ub xs p).foldl (fun o f=>o.set f.toNat (gI o f+1)) own
 | [],_,_=>rfl
 | t::r,p,own=>by
  rw [Th,Ub]
  split
  ·rw [List.foldl_cons];exact IS r _ _
  ·exact IS r _ _
theorem IT:∀{xs:LI} {p f:Int},f∈Ub xs p->p<=f/\f<p+xs.length
 | [],_,_,h=>by simp [Ub] at h
 | t::r,p,f,h=>by
  rw [Ub] at h
  split at h
  ·rcases YF.1 h with rfl|h
   ·simp only [YS];omega
   ·have:=IT h;simp only [YS];omega
  ·have:=IT h;simp only [YS];omega
theorem OU:∀(xs:LI) (p:Int),(Ub xs p).length<=xs.length
 | [],_=>by simp [Ub]
 | t::r,p=>by
  have:=OU r (p+1)
  rw [Ub];split<;>simp<;>omega
def UI:List Xr->Int->Option Xr
 | [],_=>none
 | a::r,v=>match UI r v with
  | some x=>some x
  | none=>if a.mat=v then some a else none
theorem Re {a:Xr}:∀{as1:List Xr} {v:Int},UI (as1++[a]) v=if a.mat=v then some a else UI as1 v
 | [],v=>rfl
 | x::r,v=>by
  rw [QI,UI,Re]
  by_cases h:a.mat=v
  ·rw [Ze h,Ze h]
  ·rw [Z8 h,Z8 h];rfl
theorem EA {v:Int}:∀{as1:List Xr},(∀a∈as1,a.mat≠v)->UI as1 v=none
 | [],_=>rfl
 | x::r,h=>by rw [UI,EA (fun a ha=>h a (XE _ ha))];exact Z8 (h x (Xl ..))
theorem Rd {v:Int} {a:Xr}:∀{as1:List Xr},UI as1 v=some a->a∈as1/\a.mat=v
 | [],h=>by cases h
 | x::r,h=>by
  rw [UI] at h
  cases hr:UI r v with
  | some y=>rw [hr] at h;cases h;have:=Rd hr;exact ⟨XE _ this.1,this.2⟩
  | none=>
   rw [hr] at h
   simp only at h
   split at h
   ·cases h;exact ⟨Xl ..,by assumption⟩
   ·cases h
structure WY (ds:List Zg) (L:Zr) (as1:List Xr):Prop where
 rng:∀a∈as1,0<=a.mat/\a.mat<a.fst/\a.fst+a.fds.length<=L.vars.length
 par:∀a∈as1,∀v:Int,a.fst<=v->v<a.fst+a.fds.length->gI L.par v=a.mat
 non:∀v:Int,0<=v->v<L.vars.length->0<=gI L.par v->∃a∈as1,a.fst<=v/\v<a.fst+a.fds.length
 off:∀v:Int,0<=v->v<L.vars.length->match UI as1 v with
  | none=>gI L.con v<0
  | some a=>0<=gI L.con v/\a.fst=gI L.fst v/\a.fds=ZX ds (gI L.con v)
theorem WY.same {ds:List Zg} {L M:Zr} {as1:List Xr} (h:WY ds L as1) (h1:M.vars.length=L.vars.length) (h2:M.par=L.par) (h3:M.con=L.con) (h4:M.fst=L.fst):WY ds M as1:=by
 refine ⟨?_,?_,?_,?_⟩
 ·rw [h1];exact h.rng
 ·rw [h2];exact h.par
 ·rw [h1,h2];exact h.non
 ·rw [h1,h3,h4];exact h.off
theorem WY.grow {ds:List Zg} {L:Zr} {as1:List Xr} {t o:Int} (h:WY ds L as1) (hl:Wv L):WY ds (L.grow t o (-1)) as1:=by
 obtain ⟨e1,e2,e3,e4,e5⟩:=hl
 have key:∀{xs:LI} {y v:Int},xs.length=L.vars.length->0<=v->v<L.vars.length->gI (xs++[y]) v=gI xs v:=fun hx h0 h1=>Bl om
 have kend:∀{xs:LI} {y v:Int},xs.length=L.vars.length->v=(L.vars.length:Int)->gI (xs++[y]) v=y:=fun hx h1=>ID om
 have hlen:(L.grow t o (-1)).vars.length=L.vars.length+1:=by simp [Zr.grow]
 refine ⟨fun a ha=>?_,fun a ha v h1 h2=>?_,fun v h0 h1 h2=>?_,fun v h0 h1=>?_⟩
 ·have:=h.rng a ha;omega
 ·have:=h.rng a ha
  show gI (L.par++[-1]) v=a.mat
  rw [key e2 om om];exact h.par a ha v h1 h2
 ·have h2':0<=gI (L.par++[-1]) v:=h2
  by_cases hv:v<L.vars.length
  ·rw [key e2 h0 hv] at h2';exact h.non v h0 hv h2'
  ·rw [kend e2 om] at h2';omega
 ·show match UI as1 v with
   | none=>gI (L.con++[-1]) v<0
   | some a=>0<=gI (L.con++[-1]) v/\a.fst=gI (L.fst++[-1]) v/\a.fds=ZX ds (gI (L.con++[-1]) v)
  by_cases hv:v<L.vars.length
  ·rw [key e3 h0 hv,key e4 h0 hv];exact h.off v h0 hv
  ·rw [EA (fun a ha=>by have:=h.rng a ha;omega)]
   show gI (L.con++[-1]) v<0
   rw [kend e3 om];omega
theorem WY.arm {ds:List Zg} {L:Zr} {as1:List Xr} {x c:Int} (h:WY ds L as1) (hl:Wv L) (hx:0<=x/\x<L.vars.length) (hc:0<=c) :
  WY ds (JJ ds L x c) (as1++[⟨x,(L.vars.length:Nat),ZX ds c,false⟩]):=by
 obtain ⟨e1,e2,e3,e4,e5⟩:=hl
 rw [JJ,IP]
 have hnew:∀{xs:LI} {y v:Int},xs.length=L.vars.length->(L.vars.length:Int)<=v->v<L.vars.length+(ZX ds c).length->gI (xs++List.replicate (ZX ds c).length y) v=y:=fun hx h0 h1=>IG om
 have Uc:∀{xs:LI} {y v:Int},xs.length=L.vars.length->0<=v->v<L.vars.length->gI (xs++List.replicate (ZX ds c).length y) v=gI xs v:=fun hx h0 h1=>Bl om
 refine ⟨fun a ha=>?_,fun a ha v h1 h2=>?_,fun v h0 h1 h2=>?_,fun v h0 h1=>?_⟩
 ·simp only [Yx]
  rcases X6.1 ha with ha|ha
  ·have:=h.rng a ha;omega
  ·rw [Xx.1 ha]
   show 0<=x/\x<(L.vars.length:Nat)/\(L.vars.length:Int)+((ZX ds c).length:Nat)<=_
   omega
 ·show gI (L.par++List.replicate _ x) v=a.mat
  rcases X6.1 ha with ha|ha
  ·have:=h.rng a ha
   rw [Uc e2 om om];exact h.par a ha v h1 h2
  ·rw [Xx.1 ha] at h1 h2 ⊢
   exact hnew e2 h1 h2
 ·simp only [Yx] at h1
  have h2':0<=gI (L.par++List.replicate (ZX ds c).length x) v:=h2
  by_cases hv:v<L.vars.length
  ·rw [Uc e2 h0 hv] at h2'
   obtain ⟨a,ha,q⟩:=h.non v h0 hv h2'
   exact ⟨a,List.mem_append_left _ ha,q⟩
  ·exact ⟨_,List.mem_append_right _ (Xx.2 rfl),by show (L.vars.length:Int)<=v;omega,by show v<(L.vars.length:Int)+(ZX ds c).length;omega⟩
 ·simp only [Yx] at h1
  show match UI (as1++[⟨x,(L.vars.length:Nat),ZX ds c,false⟩]) v with
   | none=>gI (L.con.set x.toNat c++List.replicate (ZX ds c).length (-1)) v<0
   | some a=>0<=gI (L.con.set x.toNat c++List.replicate (ZX ds c).length (-1)) v/\a.fst=gI (L.fst.set x.toNat L.vars.length++List.replicate (ZX ds c).length (-1)) v /\
     a.fds=ZX ds (gI (L.con.set x.toNat c++List.replicate (ZX ds c).length (-1)) v)
  rw [Re]
  by_cases hv:v<L.vars.length
  ·rw [Uc (by simp [e3]) h0 hv,Uc (by simp [e4]) h0 hv]
   by_cases he:x=v
   ·rw [Ze he]
    show 0<=gI (L.con.set x.toNat c) v/\(L.vars.length:Int)=gI (L.fst.set x.toNat L.vars.length) v/\ZX ds c=ZX ds (gI (L.con.set x.toNat c) v)
    rw [FW om om,FW om om]
    exact ⟨hc,rfl,rfl⟩
   ·rw [Z8 he,FX om,FX om];exact h.off v h0 hv
  ·rw [hnew (by simp [e3]) om om]
   rw [Z8 (by show ¬x=v;omega),EA (fun a ha=>by have:=h.rng a ha;omega)]
   show (-1:Int)<0
   omega
theorem Z1n {L:Zr} {ln:LI} {v:Int} {p:Int} (hv:0<=v/\v<L.vars.length) (hd:∀i:Int,0<=i->i<L.vars.length->gI L.par i<i) (h:¬(gI L.own v>0∨v∈ln)) (hp:gI L.par v=p) (h0:0<=p):Wk L ln v=Wk L ln p:=
 (N3 (N:=L.vars.length) rfl hp hv ⟨by omega,fun q=>h (.inr q)⟩ om hd rfl).symm
theorem Z1m {L:Zr} {ln:LI} {v:Int} (h:¬(gI L.own v>0∨v∈ln)) (hp:gI L.par v<0):Wk L ln v=false:=
 (N2 rfl rfl ⟨by omega,fun q=>h (.inr q)⟩ hp rfl).symm
theorem Z1o {L:Zr} {ln:LI} {v:Int} (h:gI L.own v>0∨v∈ln):Wk L ln v=true:=
 (N4 rfl (fun q=>h.elim (fun z=>by omega) q.2) rfl).symm
end Go.Abs
namespace Go.Abs
def XN (L:Zr) (v:Int):Zr:={ L with own:=L.own.set v.toNat (gI L.own v-1) }
theorem AT {L:Zr} {v:Int}:Ui L v=if 1<=gI L.own v then some (XN L v) else none:=by
 rw [Ui]
 by_cases h:gI L.own v<1
 ·rw [Ze h,Z8 om]
 ·rw [Z8 h,Ze om];rfl
end Go.Abs
namespace Go.Abs
def Wf (L:Zr) (r:Int):Zr:=if gI L.vars r≠0 then XN L r else L
theorem Oa {L:Zr} {m:Nat} {r:Int} (ho:gI L.vars r≠0->1<=gI L.own r) (hz:WT ((Wf L r).own.drop m) ((Wf L r).tok.drop m)=true):VU m r L=some ((Wf L r).take m):=by
 rw [VU]
 by_cases h:gI L.vars r≠0
 ·rw [Ze h,AT,Ze (ho h)]
  have e:Wf L r=XN L r:=Ze h
  rw [e] at hz ⊢
  exact Ze hz
 ·rw [Z8 h]
  have e:Wf L r=L:=Z8 h
  rw [e] at hz ⊢
  exact Ze hz
theorem Z58 {L:Zr} {m:Nat} {r:Int} (h:gI L.vars r≠0) (ho:¬1<=gI L.own r):VU m r L=none:=by
 rw [VU,Ze h,AT,Z8 ho];rfl
theorem FG {L:Zr} {m:Nat} {r:Int} (hz:WT ((Wf L r).own.drop m) ((Wf L r).tok.drop m)=false):VU m r L=none:=by
 rw [VU]
 by_cases h:gI L.vars r≠0
 ·rw [Ze h,AT]
  have e:Wf L r=XN L r:=Ze h
  rw [e] at hz
  split
  ·exact Z8 (by rw [hz];simp)
  ·rfl
 ·rw [Z8 h]
  have e:Wf L r=L:=Z8 h
  rw [e] at hz
  exact Z8 (by rw [hz];simp)
theorem Hr {os ts:LI} {k:Nat} {o t:Int} {r:Bool} (h1:os[k]? = some o) (h2:ts[k]? = some t) (h:o≠0∨0<=t) (hr:WT (os.drop k) (ts.drop k)=r):r=false:=by
 rw [Ya h1,Ya h2,WT,Ze h] at hr;exact hr.symm
theorem Hs {os ts:LI} {k:Nat} {o t:Int} {r:Bool} (h1:os[k]? = some o) (h2:ts[k]? = some t) (h:¬(o≠0∨0<=t)) (hr:WT (os.drop k) (ts.drop k)=r):WT (os.drop (k+1)) (ts.drop (k+1))=r:=by
 rw [Ya h1,Ya h2,WT,Z8 h] at hr;exact hr
theorem Z12 {os ts:LI} {k:Nat} {r:Bool} (h1:os.length<=k) (hr:WT (os.drop k) (ts.drop k)=r):r=true:=by
 rw [Xn h1] at hr;rw [<-hr];simp [WT]
end Go.Abs
namespace Go.Abs
def CP (o:LI) (fs:LI):LI:=fs.foldl (fun o f=>o.set f.toNat (gI o f+1)) o
theorem Z2u {p:Int} {xs own:LI}:CP own (Ub xs p)=Th own p xs:=(IS xs p own).symm
theorem Z2v {fs o r:LI} {k:Nat} {f x:Int} (h:fs[k]? = some f) (hx:gI o f=x) (hr:CP o (fs.drop k)=r):CP (o.set f.toNat (x+1)) (fs.drop (k+1))=r:=by
 rw [Ya h,CP,List.foldl_cons,hx] at hr;exact hr
theorem NB {fs o r:LI} {k:Nat} (h:fs.length<=k) (hr:CP o (fs.drop k)=r):o=r:=by
 rw [Xn h] at hr;exact hr
def QR (n:Zi) (ln:LI) (L:Zr) (op v:Int):Option Zr:=if op=14 then JO L ln v else if op=15 then Ui L v else Q4 n.decls L op v
section
variable {n:Zi} {ln:LI} {L:Zr} {op v:Int} {am:List Xr} {a:Xr}
theorem Z3f (h:op=14) (ha:¬Wk L ln v=true):QR n ln L op v=none:=by rw [QR,Ze h,JO,Z8 ha]
theorem Z3g (h:op=14) (ha:Wk L ln v=true) {x:Int} (hx:gI L.own v=x):QR n ln L op v=some { L with own:=L.own.set v.toNat (x+1) }:=by rw [QR,Ze h,JO,Ze ha,hx]
theorem Z3i (h:op=15) (ht:1<=gI L.own v):QR n ln L op v=some (XN L v):=by rw [QR,Z8 om,Ze h,AT,Ze ht]
theorem Z3h (h:op=15) (ht:¬1<=gI L.own v):QR n ln L op v=none:=by rw [QR,Z8 om,Ze h,AT,Z8 ht]
theorem NN (h1:¬op=14) (h2:¬op=15):QR n ln L op v=Q4 n.decls L op v:=by rw [QR,Z8 h1,Z8 h2]
theorem Zbq {ds:List Zg} (har:WY ds L am) (hv:0<=v/\v<L.vars.length) (ho:UI am v=none):Q4 ds L op v=none:=by
 have:=har.off v hv.1 hv.2
 rw [ho] at this
 rw [Q4,Ze (.inl this)]
theorem Zbp {ds:List Zg} (har:WY ds L am) (hv:0<=v/\v<L.vars.length) (ho:UI am v=some a) {xt:Int} (hxt:gI L.tok v=xt):Q4 ds L op v=if ¬1<=gI L.own v∨(op=17/\xt>=0) then none else
  some { XN L v with own:=Th (XN L v).own a.fst a.fds,tok:=if op=17 then L.tok.set v.toNat a.fds.length else L.tok }:=by
 have:=har.off v hv.1 hv.2
 rw [ho] at this
 obtain ⟨h1,h2,h3⟩:=this
 have hcon:¬gI L.con v<0:=by omega
 rw [Q4,AT,hxt,<-h2,<-h3]
 by_cases ht:1<=gI L.own v
 ·rw [Ze ht]
  by_cases h17:op=17/\xt>=0
  ·have c1:gI L.con v<0∨(op=17/\0<=xt):=.inr h17
   have c2:¬1<=gI L.own v∨(op=17/\xt>=0):=.inr h17
   rw [Ze c1,Ze c2]
  ·have c1:¬(gI L.con v<0∨(op=17/\0<=xt)):=fun q=>q.elim hcon h17
   have c2:¬(¬1<=gI L.own v∨(op=17/\xt>=0)):=fun q=>q.elim (fun z=>z ht) h17
   rw [Z8 c1,Z8 c2]
 ·rw [Z8 ht]
  have c2:¬1<=gI L.own v∨(op=17/\xt>=0):=.inl ht
  rw [Ze c2]
  split<;>rfl
end
end Go.Abs
namespace Go.Abs
theorem Z4f {ds:List Zg} {L:Zr} {q v:Int} (hk:Xc ds L q) (h1:1<=gI L.own v) (hv:0<=v/\v<L.vars.length):∀y∈(XN L v).own,0<=y/\y<=q:=by
 intro y hy
 rcases KA hy with hy|rfl
 ·exact ⟨hk.nn y hy,hk.bd y hy⟩
 ·obtain ⟨x,hx⟩:=QW (xs:=L.own) (j:=v.toNat) (by have:=hk.len.own;omega)
  have hg:=Vh hx
  have:=hk.bd x (ZY hx)
  omega
end Go.Abs
end
section
namespace Go.Abs
def V3 (n:Zi) (us:LI) (op num:Int):LI->Nat->LI
 | [],_=>[]
 | a::r,i=>if TP n us op num a i=true then (i:Int)::V3 n us op num r (i+1) else V3 n us op num r (i+1)
section
variable {n:Zi} {us:LI} {op num:Int}
theorem Zc4 {args acc r:LI} {k:Nat} {a:Int} (h:args[k]? = some a) (hc:TP n us op num a k=true) (hr:acc++V3 n us op num (args.drop k) k=r) :
  (acc++[(k:Int)])++V3 n us op num (args.drop (k+1)) (k+1)=r:=by
 rw [Ya h,V3,Ze hc] at hr;rw [TV];exact hr
theorem Rz {args acc r:LI} {k:Nat} {a:Int} (h:args[k]? = some a) (hc:¬TP n us op num a k=true) (hr:acc++V3 n us op num (args.drop k) k=r) :
  acc++V3 n us op num (args.drop (k+1)) (k+1)=r:=by
 rw [Ya h,V3,Z8 hc] at hr;exact hr
theorem Zc3 {args acc r:LI} {k:Nat} (h:args.length<=k) (hr:acc++V3 n us op num (args.drop k) k=r):acc=r:=by
 rw [Xn h,V3,A6] at hr;exact hr
theorem LM (h:¬Tj op=true):∀(args:LI) (i:Nat),V3 n us op num args i=[]
 | [],_=>rfl
 | a::r,i=>by
  have hb:Tj op=false:=by simpa using h
  rw [V3,Z8 (by rw [TP,hb];simp)];exact LM h r (i+1)
theorem LL:∀{args:LI} {i:Nat} {p:Int},p∈V3 n us op num args i->(i:Int)<=p/\p<i+args.length
 | [],_,_,h=>by simp [V3] at h
 | a::r,i,p,h=>by
  rw [V3] at h
  simp only [YS]
  split at h
  ·rcases YF.1 h with rfl|h
   ·omega
   ·have:=LL h;omega
  ·have:=LL h;omega
theorem Ry:∀(args:LI) (i:Nat),(V3 n us op num args i).length<=args.length
 | [],_=>by simp [V3]
 | a::r,i=>by
  have:=Ry r (i+1)
  rw [V3];split<;>simp<;>omega
theorem PT (h:¬Tj op=true) (i:Nat):¬WS n op num i=true:=by
 have:op≠9:=fun q=>h (by rw [q];rfl)
 rw [WS,AF,Z8 this];simp
def B5 (n:Zi) (op num:Int) (args:LI) (k:Nat) (ls:LI):Prop:=∀x,x∈ls↔∃i,i<k/\args[i]? = some x/\WS n op num i=true
theorem PR {args ls:LI} {k:Nat} (h:B5 n op num args k ls) (hl:¬WS n op num k=true):B5 n op num args (k+1) ls:=by
 intro x;rw [h x]
 constructor
 ·rintro ⟨i,q1,q2⟩;exact ⟨i,by omega,q2⟩
 ·rintro ⟨i,q1,q2,q3⟩
  rcases BW i k with q|q
  ·exact ⟨i,q,q2,q3⟩
  ·have:i=k:=by omega
   subst this;exact absurd q3 hl
theorem Zap {args ls ls2:LI} {k:Nat} {a:Int} (ha:args[k]? = some a) (h:B5 n op num args k ls) (hl:WS n op num k=true) (h2:∀x,x∈ls2↔x∈ls∨x=a):B5 n op num args (k+1) ls2:=by
 intro x;rw [h2 x,h x]
 constructor
 ·rintro (⟨i,q1,q2⟩|rfl)
  ·exact ⟨i,by omega,q2⟩
  ·exact ⟨k,by omega,ha,hl⟩
 ·rintro ⟨i,q1,q2,q3⟩
  rcases BW i k with q|q
  ·exact .inl ⟨i,q,q2,q3⟩
  ·have:i=k:=by omega
   subst this;rw [ha] at q2;exact .inr (WB q2).symm
theorem Zar {args:LI}:B5 n op num args 0 []:=by intro x;simp
theorem Zaq {args ls:LI} {k:Nat} (h:B5 n op num args k ls) (hk:args.length<=k):∀x,x∈ls↔∃i,args[i]? = some x/\WS n op num i=true:=by
 intro x;rw [h x]
 constructor
 ·rintro ⟨i,_,q⟩;exact ⟨i,q⟩
 ·rintro ⟨i,q⟩;exact ⟨i,by have:=(Xi.1 q.1).1;omega,q⟩
end
def Ke (args:LI):LI->Zr->Option Zr
 | [],L=>some L
 | k::r,L=>match Ui L (gI args k) with
  | none=>none
  | some L1=>Ke args r L1
theorem EU {n:Zi} {op num:Int} {all:LI}:∀{args:LI} {i:Nat} {L:Zr},all.drop i=args->Tb n op num args i L=Ke all (V3 n L.vars op num args i) L
 | [],i,L,_=>rfl
 | a::r,i,L,h=>by
  have hr:all.drop (i+1)=r:=by rw [<-List.drop_drop,h];rfl
  have ha:gI all (i:Int)=a:=by
   have:(all.drop i)[0]? = some a:=by rw [h];rfl
   rw [BR] at this
   exact Vh (by simpa using this)
  rw [Tb,V3]
  split
  ·rw [Ke,ha]
   cases ht:Ui L a with
   | none=>rfl
   | some L1=>
    simp only
    rw [EU hr,(Tz ht).2.1]
  ·exact EU hr
theorem Zg3 {args ps:LI} {k:Nat} {L:Zr} {p x:Int} {r:Option Zr} (h:ps[k]? = some p) (hx:gI args p=x) (ht:1<=gI L.own x) (hr:Ke args (ps.drop k) L=r):Ke args (ps.drop (k+1)) (XN L x)=r:=by
 rw [Ya h,Ke,hx,AT,Ze ht] at hr;exact hr
theorem Zg4 {args ps:LI} {k:Nat} {L:Zr} {p x:Int} {r:Option Zr} (h:ps[k]? = some p) (hx:gI args p=x) (ht:¬1<=gI L.own x) (hr:Ke args (ps.drop k) L=r):r=none:=by
 rw [Ya h,Ke,hx,AT,Z8 ht] at hr;exact hr.symm
theorem Zg2 {args ps:LI} {k:Nat} {L:Zr} {r:Option Zr} (h:ps.length<=k) (hr:Ke args (ps.drop k) L=r):r=some L:=by
 rw [Xn h,Ke] at hr;exact hr.symm
theorem G4 {n:Zi} {op num:Int} {ln:LI} {L:Zr} {all:LI}:∀{args:LI} {i:Nat},all.drop i=args ->
  (KZ n op num ln L args i=true↔∀j x,i<=j->all[j]? = some x->WS n op num j=true->Wk L ln x=true)
 | [],i,h=>by
  simp only [KZ,true_iff]
  intro j x hj hx _
  have:=(Xi.1 hx).1
  have hl:=Yr List.length h
  simp at hl;omega
 | a::r,i,h=>by
  have hr:all.drop (i+1)=r:=by rw [<-List.drop_drop,h];rfl
  have ha:all[i]? = some a:=by
   have:(all.drop i)[0]? = some a:=by rw [h];rfl
   rw [BR] at this;simpa using this
  rw [KZ]
  split
  ·rename_i q
   simp only [Bool.false_eq_true,false_iff]
   exact fun z=>q.2 (z i a (X5 _) ha q.1)
  ·rename_i q
   rw [G4 hr]
   constructor
   ·intro z j x hj hx hl
    rcases BW i j with hij|hij
    ·exact z j x hij hx hl
    ·have:j=i:=by omega
     subst this;rw [ha] at hx;cases hx
     exact Vr.1 fun y=>q ⟨hl,y⟩
   ·exact fun z j x hj=>z j x om
theorem OQ {n:Zi} {ln:LI} {L L1:Zr} {op num into:Int} {args ls:LI} (h1:Ke args (V3 n L.vars op num args 0) L=some L1) (hl:∀x,x∈ls↔∃i,args[i]? = some x/\WS n op num i=true) :
  ((∀x∈ls,Wk L1 ln x=true)->Uq n ln L op num into args=QY L1 into args.length)/\((∃x∈ls,¬Wk L1 ln x=true)->Uq n ln L op num into args=none):=by
 rw [Uq,EU (all:=args) (args:=args) (i:=0) rfl,h1]
 simp only
 constructor
 ·intro h
  rw [Ze ((G4 (all:=args) (args:=args) (i:=0) rfl).2 fun j x _ hx hj=>h x ((hl x).2 ⟨j,hx,hj⟩))]
 ·rintro ⟨x,hx,hd⟩
  rw [Z8]
  intro z
  obtain ⟨j,q1,q2⟩:=(hl x).1 hx
  exact hd ((G4 (all:=args) (args:=args) (i:=0) rfl).1 z j x (Ki _) q1 q2)
theorem Z7u {n:Zi} {ln:LI} {L:Zr} {op num into:Int} {args:LI} (h1:Ke args (V3 n L.vars op num args 0) L=none):Uq n ln L op num into args=none:=by
 rw [Uq,EU (all:=args) (args:=args) (i:=0) rfl,h1]
end Go.Abs
namespace Go.Abs
theorem Zdu {n:Zi} (hn:X3 n) (num:Int):(UB n num).lnt.length<=4194304:=by
 rw [UB,Tg]
 cases h:n.routines[num.toNat]? with
 | none=>simp
 | some r=>exact hn.lent r (ZY h)
theorem Zao {n:Zi} {op num:Int} {k:Nat}:WS n op num k=true↔(op=9/\(k:Int)∈(UB n num).lnt):=by
 rw [WS,AF,decide_eq_true_iff]
 by_cases h:op=9
 ·rw [Ze h,UB,Tg]
  cases n.routines[num.toNat]? with
  | none=>simp
  | some r=>simp [h,XX]
 ·rw [Z8 h];simp [h]
end Go.Abs
namespace Go.Abs
theorem clS {xs:LI} {p:LI->Prop}:C1 fun r h=>∃(vp vl:Value) (ls:LI),r=.tup [ZQ xs vp,ZQ ls vl]/\h=[.tail vp 1,.tail vl 1]/\p ls:=by
 rintro _ _ ⟨vp,vl,ls,rfl,rfl,_⟩
 refine ⟨.tup fun y hy=>?_,by simp [C2]⟩
 simp only [YF,List.not_mem_nil,or_false] at hy
 rcases hy with rfl|rfl
 ·exact .own (k:=1) (EX _) (by simp)
 ·exact .own (k:=1) (EX _) (by simp)
end Go.Abs
end
section
namespace Go.Abs
section
variable {n:Zi} {ln:LI}
theorem Z7v {L L':Zr} {op num into q:Int} {args:LI} {ds:List Zg} (hk:Xc ds L q) (h:Uq n ln L op num into args=some L'):L'.vars=L.vars/\L'.par=L.par/\L'.con=L.con/\L'.fst=L.fst:=by
 rw [Uq] at h
 cases ht:Tb n op num args 0 L with
 | none=>rw [ht] at h;cases h
 | some L1=>
  rw [ht] at h
  obtain ⟨_,h1,h2,h3,h4,_⟩:=G5 hk ht
  simp only at h
  split at h
  ·rw [QY] at h
   split at h
   ·split at h
    ·cases h
    ·cases h;exact ⟨h1,h2,h3,h4⟩
   ·cases h;exact ⟨h1,h2,h3,h4⟩
  ·cases h
theorem Zc1 {L L1:Zr} {s:Z5} {q:Int} {ds:List Zg} (hk:Xc ds L q) (h:Q6 n ln L s.op s.num s.into s.args (TI n ln L s.op s.num s.args s.kids)=some L1):L1.vars=L.vars/\L1.par=L.par/\L1.con=L.con/\L1.fst=L.fst:=by
 rw [Q6] at h
 split at h
 ·obtain ⟨h1,h2,h3,h4,_⟩:=Fy h;exact ⟨h1,h2,h3,h4⟩
 split at h
 ·obtain ⟨_,h1,h2,h3,h4,_⟩:=Tz h;exact ⟨h1,h2,h3,h4⟩
 split at h
 ·obtain ⟨h1,h2,h3,h4,_⟩:=LA h;exact ⟨h1,h2,h3,h4⟩
 split at h
 ·split at h
  ·cases h
  ·cases hks:s.kids with
   | nil=>rw [hks,TI] at h;cases h
   | cons b bs=>
    rw [hks,TI] at h
    unfold AJ at h
    cases hb:Vg n ln (Vk n.decls L s.op s.num s.args 0) L.vars.length b with
    | none=>rw [hb] at h;cases h
    | some one=>
     rw [hb] at h
     simp only at h
     split at h
     ·cases h;exact ⟨rfl,rfl,rfl,rfl⟩
     ·cases h
 ·exact Z7v hk h
theorem SZ (hn:X3 n) {s:Z5} {L L':Zr} {q:Int} {am:List Xr} (hk:Xc n.decls L q) (hq:0<=q) (hty:0<=Yg n L.vars s) (h:Vx n ln L s=some L') (ha:WY n.decls L am):WY n.decls L' am:=by
 rw [Hb] at h
 cases hp:Q6 n ln L s.op s.num s.into s.args (TI n ln L s.op s.num s.args s.kids) with
 | none=>rw [hp] at h;cases h
 | some L1=>
  rw [hp] at h
  obtain ⟨h1,h2,h3,h4⟩:=Zc1 hk hp
  have hk1:=(BC hn hk hq (DF hty) hp).1
  have ha1:WY n.decls L1 am:=ha.same (by rw [h1]) h2 h3 h4
  rw [Kw] at h
  split at h
  ·cases h;exact ha1.grow hk1.len
  ·cases h;exact ha1
theorem Hc (hn:X3 n) {am:List Xr}:∀{xs:List Z5} {L L':Zr} {q:Int} {vs:LI},Xc n.decls L q->0<=q->WY n.decls L am->XI n xs L.vars=some vs->XO n ln L xs=some L' ->
  Xc n.decls L' (q+4*Y9 xs)/\L'.vars=vs/\WY n.decls L' am
 | [],L,L',q,vs,hk,hq,ha,ht,h=>by
  rw [XO] at h;rw [XI] at ht;cases h;cases ht
  exact ⟨by simpa [Y9] using hk,rfl,ha⟩
 | s::r,L,L',q,vs,hk,hq,ha,ht,h=>by
  rw [XO] at h
  cases hs:Vx n ln L s with
  | none=>rw [hs] at h;cases h
  | some L1=>
   rw [hs] at h
   obtain ⟨g1,g2⟩:=ER ht
   obtain ⟨k1,k2⟩:=EQ hn hk hq g1 hs
   have:=Hc hn (xs:=r) k1 (by have:=s.sz_pos;omega) (SZ hn hk hq g1 hs ha) (by rw [k2];exact g2) h
   refine ⟨?_,this.2⟩
   rw [show q+4*Y9 (s::r)=q+4*s.sz+4*Y9 r by rw [Y9];omega]
   exact this.1
end
end Go.Abs
namespace Go.Abs
def C3 (n:Zi):Prop:=∀r∈n.routines,∀i:Nat,(i:Int)∈r.lent->∃t,r.params[i]? = some t/\t≠0
theorem PQ {ps:LI}:∀{ls:LI} {prev:Option Int},Qz ps ls prev=true->∀v∈ls,(0<=v/\v<=(ps.length:Int)-1)/\ps[v.toNat]?≠some 0
 | [],_,_,v,h=>by cases h
 | x::r,prev,h,v,hv=>by
  rw [Qz] at h
  split at h
  ·rename_i q
   rcases YF.1 hv with rfl|hv
   ·exact ⟨q.1,q.2.1⟩
   ·exact PQ h v hv
  ·cases h
theorem PU:∀{rs:List Yb},J3 rs=true->∀r∈rs,Jg r.params r.lent=true
 | [],_,r,h=>by cases h
 | x::rs,h,r,hr=>by
  rw [J3] at h
  split at h
  ·rcases YF.1 hr with rfl|hr
   ·assumption
   ·exact PU h r hr
  ·cases h
theorem R4 {n:Zi} (h:VX n=true):C3 n:=by
 simp only [VX,Kg,W6,decide_eq_true_eq] at h
 obtain ⟨_,_,h6⟩:=h
 intro r hr i hi
 obtain ⟨h1,h2⟩:=PQ (PU h6 r hr) i hi
 obtain ⟨t,ht⟩:=QW (xs:=r.params) (j:=i) om
 refine ⟨t,ht,fun q=>h2 ?_⟩
 rw [U7,ht,q]
theorem Hh {us:LI}:∀{args tys:LI} {i:Nat} {a t:Int},Td us args tys=true->args[i]? = some a->tys[i]? = some t->Xy us a=some t
 | [],_,i,a,t,_,h,_=>by simp at h
 | x::r,[],i,a,t,_,_,h=>by simp at h
 | x::r,y::ys,i,a,t,h,ha,ht=>by
  rw [Td] at h
  split at h
  ·rename_i hq
   cases i with
   | zero=>simp at ha ht;subst ha;subst ht;exact hq
   | succ i=>exact Hh h (by simpa using ha) (by simpa using ht)
  ·cases h
theorem Zas {n:Zi} (hl:C3 n) {us:LI} {s:Z5} (h:0<=Yg n us s):∀(i:Nat) (a:Int),s.args[i]? = some a->WS n s.op s.num i=true->gI us a≠0:=by
 intro i a ha hla
 rw [WS,AF,decide_eq_true_iff] at hla
 by_cases h9:s.op=9
 ·rw [Ze h9] at hla
  have hn:=(DF h).num h9
  obtain ⟨r,hr⟩:=QW (xs:=n.routines) (j:=s.num.toNat) om
  rw [hr] at hla
  obtain ⟨t,ht,h0⟩:=hl r (ZY hr) i hla
  rw [AS] at h
  split at h
  ·omega
  rw [Z8 om,Z8 om,Z8 om,Z8 om,Z8 om,Z8 om,Ze (.inl h9),TM,Qd om hr] at h
  simp only [KD] at h
  rw [Ze h9] at h
  split at h
  ·rename_i hty
   rw [Wg] at hty
   have hq:Xy us a=some t:=by
    first
    | exact Hh hty ha ht
    | exact Hh (Bool.and_eq_true_iff.1 hty).2 ha ht
    | exact Hh (Bool.and_eq_true_iff.1 hty).1 ha ht
   rw [Vh (Kq hq).2];exact h0
  ·omega
 ·rw [Z8 h9] at hla;cases hla
end Go.Abs
namespace Go.Abs
theorem Zdo {n:Zi} {us:LI} {s:Z5} (h:∀t∈us,0<=t) (h0:0<=Yg n us s):∀t∈Qq n us s,0<=t:=by
 rw [Qq];split
 ·exact Ev h fun t ht=>by rw [Xx.1 ht];exact h0
 ·exact h
end Go.Abs
namespace Go.Abs
theorem HY {c:Bool} {ok:Int->Prop}:C1 fun r h=>∃t:Int,r=.tup [.i t,.b c]/\h=[]/\ok t:=by
 rintro _ _ ⟨t,rfl,rfl,_⟩
 refine ⟨.tup fun y hy=>?_,by simp⟩
 simp only [YF,List.not_mem_nil,or_false] at hy
 rcases hy with rfl|rfl<;>exact .val
section
variable {n:Zi} {ln:LI} {L:Zr} {s:Z5}
theorem Z5i {op t:Int} {r:Option Zr} (h:¬XS op=true):Kw L op t r=r:=by
 cases r with
 | none=>rfl
 | some X=>exact Z8 h
theorem Z01 {x:Int} (hc:YH s.op=true) (hx:gI s.args 0=x):Vx n ln L s=QR n ln L s.op x:=by
 have hop:14<=s.op/\s.op<=17:=by simpa [YH] using hc
 have hd:¬XS s.op=true:=by rw [XS];simp;omega
 rw [UC,Z5i hd,QR]
 by_cases h14:s.op=14
 ·rw [Ze h14];exact LF h14 hx
 rw [Z8 h14]
 by_cases h15:s.op=15
 ·rw [Ze h15];exact LG h15 hx
 rw [Z8 h15]
 exact LH om hx
theorem Mr {L1:Zr} {t:Int} (hP:QB n ln L s=some L1) (h0:0<=Yg n L.vars s) (hnc:¬YH s.op=true) (ht:t=Yg n L.vars s):Vx n ln L s=some (L1.grow t (min t 1) (-1)):=by
 have hd:XS s.op=true:=by rw [Fx h0];simpa using hnc
 rw [UC,hP]
 show (if XS s.op=true then _ else _)=_
 rw [Ze hd,ht,show (if Yg n L.vars s≠0 then (1:Int) else 0)=min (Yg n L.vars s) 1 by split<;>omega]
theorem Z02 (hP:QB n ln L s=none):Vx n ln L s=none:=by rw [UC,hP];rfl
theorem LK (h1:¬YH s.op=true) (h2:¬(s.op=7∨s.op=8)):QB n ln L s=Uq n ln L s.op s.num s.into s.args:=by
 have hop:¬(14<=s.op/\s.op<=17):=by simpa [YH] using h1
 rw [QB,Q6,Z8 om,Z8 om,Z8 om,Z8 h2]
theorem Zc0 (h1:¬YH s.op=true) (h2:¬(s.op=7∨s.op=8)) (h3:¬Tj s.op=true) (h0:0<=Yg n L.vars s):QB n ln L s=some L:=by
 rw [LK h1 h2,Uq,EU (all:=s.args) (args:=s.args) (i:=0) rfl,LM h3]
 show (if KZ n s.op s.num ln L s.args 0=true then QY L s.into s.args.length else none)=some L
 rw [Ze ((G4 (all:=s.args) (args:=s.args) (i:=0) rfl).2 fun j x _ _ hl=>absurd hl (PT h3 j)),QY]
 have hi:¬0<s.into:=by
  intro hi
  rw [AS] at h0
  split at h0
  ·omega
  ·rename_i hq
   have hv:Uj L.vars s.op s.into=true:=Vr.1 fun z=>hq (.inr (.inl z))
   rw [Uj,Z8 om] at hv
   split at hv
   ·rename_i h6;exact h3 (by rw [h6];rfl)
   ·cases hv
 rw [Z8 hi]
end
end Go.Abs
namespace Go.Abs
def TE (L:Zr) (am:List Xr) (s:Z5) (m:LI):List Xr:=if s.op=8 then am++[⟨gI s.args 0,(L.vars.length:Nat),m,false⟩] else am
def Jb (n:Zi) (L:Zr) (s:Z5) (k:Nat):Zr:=if s.op=8 then { L with con:=L.con.set (gI s.args 0).toNat (gI (Y1 n.decls s.num) k),fst:=L.fst.set (gI s.args 0).toNat L.vars.length } else L
theorem BK {n:Zi} {L:Zr} {s:Z5} {k:Nat}:(Jb n L s k).vars=L.vars:=by rw [Jb];split<;>rfl
theorem DD {n:Zi} {L:Zr} {s:Z5} {k:Nat}:(Jb n L s k).own=L.own:=by rw [Jb];split<;>rfl
theorem DE {n:Zi} {L:Zr} {s:Z5} {k:Nat}:(Jb n L s k).tok=L.tok:=by rw [Jb];split<;>rfl
theorem SY {n:Zi} {L:Zr} {s:Z5} {k:Nat} (h:Wv L):Wv (Jb n L s k):=by rw [Jb];split;exact h.arm;exact h
theorem SX {n:Zi} {L:Zr} {s:Z5} {k:Nat} {m:LI} (hop:s.op=7∨s.op=8) (hm:(Xs n.decls s.op s.num)[k]? = some m):QX (Jb n L s k) (gI s.args 0) m=Vk n.decls L s.op s.num s.args k:=by
 rw [Jb,Vk]
 by_cases h8:s.op=8
 ·rw [Ze h8,Ze h8]
  obtain ⟨c,hc,rfl⟩:=HP h8 hm
  have hgc:gI (Y1 n.decls s.num) (k:Int)=c:=by rw [gI];simp [hc]
  rw [JJ,hgc]
 ·rw [Z8 h8,Z8 h8]
  rw [Xs,Ze om] at hm
  have:m=[]:=by
   match k,hm with
   | 0,hm=>simpa using hm.symm
   | 1,hm=>simpa using hm.symm
   | k+2,hm=>simp at hm
  rw [this];rfl
theorem Nc {n:Zi} {L:Zr} {am:List Xr} {s:Z5} {k:Nat} {m:LI} (hn:X3 n) (ha:WY n.decls L am) (hl:Wv L) (hop:s.op=7∨s.op=8) (hx:0<=gI s.args 0/\gI s.args 0<L.vars.length) (hm:(Xs n.decls s.op s.num)[k]? = some m) :
  WY n.decls (Vk n.decls L s.op s.num s.args k) (TE L am s m):=by
 rw [TE,Vk]
 by_cases h8:s.op=8
 ·rw [Ze h8,Ze h8]
  obtain ⟨c,hc,rfl⟩:=HP h8 hm
  have hgc:gI (Y1 n.decls s.num) (k:Int)=c:=by rw [gI];simp [hc]
  rw [hgc]
  exact ha.arm hl hx (NR hn.decls hc).1
 ·rw [Z8 h8,Z8 h8];exact ha
end Go.Abs
namespace Go.Abs
theorem ES {n:Zi}:∀{xs:List Z5} {us vs:LI},XI n xs us=some vs->us.length<=vs.length/\vs.length<=us.length+Y9 xs
 | [],us,vs,h=>by rw [XI] at h;cases h;simp [Y9]
 | s::r,us,vs,h=>by
  obtain ⟨_,g2⟩:=ER h
  have:=ES g2
  have h2:=H0 n us s
  rw [Y9];omega
theorem Nb {L:Zr} {am:List Xr} {s:Z5} {m:LI}:(TE L am s m).length<=am.length+1:=by rw [TE];split<;>simp
theorem Nf {n:Zi} (hty:Kk n) {op num:Int} {k:Nat} {m:LI} (h:(Xs n.decls op num)[k]? = some m):∀f∈m,0<=f:=by
 by_cases h7:op=7
 ·rw [Xs,Ze h7] at h
  have:m=[]:=by
   match k,h with
   | 0,h=>simpa using h.symm
   | 1,h=>simpa using h.symm
   | k+2,h=>simp at h
  rw [this];intro f hf;cases hf
 ·rw [Xs,Z8 h7,Tg] at h
  cases hc:(Y1 n.decls num)[k]? with
  | none=>rw [hc] at h;cases h
  | some c=>rw [hc] at h;cases h;exact hty.fields c
theorem FF {L:Zr} {r:Int}:(Wf L r).own.length=L.own.length/\(Wf L r).tok.length=L.tok.length/\(Wf L r).vars=L.vars:=by
 rw [Wf];split
 ·exact ⟨UD,rfl,rfl⟩
 ·exact ⟨rfl,rfl,rfl⟩
end Go.Abs
namespace Go.Abs
theorem He {L M:Zr} {n:Zi} {ln:LI} {xs:List Z5} {f:Zr->Option Zr} (h:XO n ln L xs=some M):BO (XO n ln L xs) f=f M:=by rw [h];rfl
end Go.Abs
end
section
namespace Go.Abs
theorem Z11:∀{os ts:LI} {m:Nat},os.length=ts.length->(WT os ts=true↔WT (os.take m) (ts.take m)=true/\WT (os.drop m) (ts.drop m)=true)
 | [],[],m,_=>by simp [WT]
 | [],_::_,_,h=>by simp at h
 | _::_,[],_,h=>by simp at h
 | o::os,t::ts,0,h=>by simp [WT]
 | o::os,t::ts,m+1,h=>by
  simp only [B0,List.drop_succ_cons]
  rw [WT,WT]
  split
  ·simp
  ·exact Z11 (by simpa using h)
theorem RW {n:Zi} {r:Yb} {M:Zr} (hP:XO n r.lent (Va r) r.body.steps=some M) (hl:M.own.length=M.tok.length):KS n r=(VU 0 r.body.result M).isSome:=by
 rw [KS,Kr,hP]
 show (match VU r.params.length r.body.result M with|none=>false|some L=>(Tk L 0).isSome)=_
 rw [VU,VU]
 cases hT:(if gI M.vars r.body.result≠0 then Ui M r.body.result else some M) with
 | none=>rfl
 | some M2=>
  have h2:M2.own.length=M2.tok.length:=by
   split at hT
   ·have:=Tz hT;rw [this.2.2.2.2.2.1,this.2.2.2.2.2.2,UD];exact hl
   ·cases hT;exact hl
  show (match Tk M2 r.params.length with|none=>false|some L=>(Tk L 0).isSome)=(Tk M2 0).isSome
  have key:=Z11 (m:=r.params.length) h2
  rw [Tk,Tk]
  by_cases h1:WT (M2.own.drop r.params.length) (M2.tok.drop r.params.length)=true
  ·rw [Ze h1]
   show (Tk (M2.take r.params.length) 0).isSome=_
   rw [Tk]
   by_cases h3:WT (M2.own.take r.params.length) (M2.tok.take r.params.length)=true
   ·rw [Ze (show WT ((M2.take r.params.length).own.drop 0) ((M2.take r.params.length).tok.drop 0)=true from h3),Ze (show WT (M2.own.drop 0) (M2.tok.drop 0)=true from key.2 ⟨h3,h1⟩)];rfl
   ·rw [Z8 (show ¬WT ((M2.take r.params.length).own.drop 0) ((M2.take r.params.length).tok.drop 0)=true from h3),Z8 (show ¬WT (M2.own.drop 0) (M2.tok.drop 0)=true from fun z=>h3 (key.1 z).1)]
  ·rw [Z8 h1,Z8 (show ¬WT (M2.own.drop 0) (M2.tok.drop 0)=true from fun z=>h1 (key.1 z).2)];rfl
theorem Zcr {n:Zi} {r:Yb} (hP:XO n r.lent (Va r) r.body.steps=none):KS n r=false:=by rw [KS,Kr,hP];rfl
end Go.Abs
namespace Go.Abs
theorem Ma {xs:LI} {k:Nat} {a b:Int} (h:xs.length=k):(xs++[a]).set k b=xs++[b]:=by subst h;simp
end Go.Abs
namespace Go.Abs
theorem Z25 {ds:List Zg}:WY ds ⟨[],[],[],[],[],[]⟩ []:=⟨fun a ha=>(nomatch ha),fun a ha=>(nomatch ha),fun v h0 h1=>(by have h2:v<((0:Nat):Int):=h1;omega),fun v h0 h1=>(by have h2:v<((0:Nat):Int):=h1;omega)⟩
theorem Rv {ds:List Zg} {lent:LI}:∀{ps:LI} {i:Nat} {L:Zr},Wv L->WY ds L []->WY ds (Uf lent ps i L) []
 | [],_,_,_,h=>h
 | t::r,i,L,hl,h=>by rw [Uf];exact Rv hl.grow (h.grow hl)
theorem Ls {ds:List Zg} (rt:Yb):WY ds (Va rt) []:=Rv ⟨rfl,rfl,rfl,rfl,rfl⟩ Z25
end Go.Abs
end
section
namespace Go.Abs
end Go.Abs
namespace Go.Abs
end Go.Abs
namespace Go.Abs
end Go.Abs
namespace Go.Abs
end Go.Abs
end
namespace Go.Abs
def Zz (op v:Int):Z5:=.mk op 0 0 [v] []
def Ta (ds:List Zg) (num:Int) (k:Nat):LI:=((Y1 ds num).map (ZX ds))[k]?.getD []
section
variable {ds:List Zg} {am:List Xr} {m:Nat}
end
theorem Oi {ds:List Zg} {num:Int} {k:Nat} {m:LI} (h:((Y1 ds num).map (ZX ds))[k]? = some m):Ta ds num k=m:=by rw [Ta,h];rfl
theorem Z5h {ds:List Zg} (hd:Wu ds) (num:Int) (k:Nat):(Ta ds num k).length<=3:=by
 rw [Ta,Tg]
 cases (Y1 ds num)[k]? with
 | none=>simp
 | some c=>exact U4 hd c
theorem Mq {xs:List Z5} {k:Nat} {s:Z5} (h:xs[k]? = some s):Y9 (xs.take (k+1))=Y9 (xs.take k)+s.sz:=by
 induction xs generalizing k with
 | nil=>simp at h
 | cons t r ih=>
  cases k with
  | zero=>simp at h;subst h;simp [Y9]
  | succ k=>rw [B0,B0,Y9,Y9,ih (by simpa using h)];omega
theorem QF (xs:List Z5) (k:Nat):Y9 (xs.take k)<=Y9 xs:=by
 induction xs generalizing k with
 | nil=>simp
 | cons t r ih=>
  cases k with
  | zero=>simp [Y9]
  | succ k=>have:=ih k;rw [B0,Y9,Y9];omega
theorem Zdm {n:Zi} {us:LI} {s:Z5} (g:0<=Yg n us s) (h:YH s.op=true):Qq n us s=us:=by rw [Qq,Fx g,h];rfl
theorem Zdl {n:Zi} {us:LI} {s:Z5} (g:0<=Yg n us s) (h:¬YH s.op=true):(Qq n us s).length=us.length+1:=by
 rw [Qq,Fx g,Jk.2 h];simp
theorem Zdn {n:Zi} {us:LI} {s:Z5} (g:0<=Yg n us s):(Qq n us s).length=if YH s.op=true then us.length else us.length+1:=by
 split
 ·rw [Zdm g (by assumption)]
 ·exact Zdl g (by assumption)

theorem TN:∀(xs ys:List Z5),Y9 (xs++ys)=Y9 xs+Y9 ys
 | [],ys=>by simp [Y9]
 | x::r,ys=>by rw [QI,Y9,Y9,TN r ys];omega
theorem Fp (op v:Int):(Zz op v).sz=2:=by rw [Zz,Z5.sz];simp [Xa]
theorem Mo (op:Int):∀l:LI,Y9 (l.map (Zz op))=2*l.length
 | []=>by simp [Y9]
 | x::r=>by rw [UE,Y9,Fp,Mo op r,YS];omega
section
variable {ds:List Zg} (hd:Wu ds)
include hd
end
section
variable {ds:List Zg} {cons first:LI}
end
section
variable {ds:List Zg} (hd:Wu ds)
include hd
end
def XW:List Z5->Nat
 | []=>0
 | s::r=>if s.op=14∨s.op=15 then XW r+1 else 0
def WI (op:Int):List Z5->LI
 | []=>[]
 | s::r=>if s.op=op then gI s.args 0::WI op r else WI op r
def Tc:LI->Int->LI->LI->LI × LI
 | [],_,D,R=>(D,R)
 | f::r,q,D,R=>if f≠0/\q∈D then Tc r (q+1) (D.erase q) R else if f≠0 then Tc r (q+1) D (R++[q]) else Tc r (q+1) D R
def AL (xs:List Z5) (x:Int) (fs:LI) (q:Int):LI × LI:=Tc fs q (WI 14 (xs.take (XW xs))) ((WI 15 (xs.take (XW xs))).erase x)
def JH (xs:List Z5) (x:Int) (fs:LI) (q:Int):List Z5:=
 if x∈WI 15 (xs.take (XW xs))/\fs.length≠0 then (AL xs x fs q).1.map (Zz 14)++[Zz 16 x]++(AL xs x fs q).2.map (Zz 15)++xs.drop (XW xs) else xs
def Jl (b:Z7) (x:Int) (fs:LI) (q:Int):Z7:=.mk (JH b.steps x fs q) b.result
theorem GT:∀xs:List Z5,XW xs<=xs.length
 | []=>X5 _
 | s::r=>by have:=GT r;rw [XW];split<;>simp<;>omega
theorem S6:∀{xs:List Z5} {s:Z5},s∈xs.take (XW xs)->s.op=14∨s.op=15
 | [],s,h=>by simp [XW] at h
 | t::r,s,h=>by
  rw [XW] at h
  split at h
  ·rename_i q
   rw [B0] at h
   rcases YF.1 h with rfl|h
   ·exact q
   ·exact S6 h
  ·simp at h
theorem HO:∀xs:List Z5,(WI 14 xs).length+(WI 15 xs).length<=xs.length
 | []=>by simp [WI]
 | s::r=>by
  have:=HO r
  rw [WI,WI]
  by_cases h:s.op=14
  ·rw [Ze h,Z8 om];simp;omega
  ·rw [Z8 h];split<;>simp<;>omega
theorem GK:∀(fs:LI) (q:Int) (D R:LI),(Tc fs q D R).1.length+(Tc fs q D R).2.length<=D.length+R.length+fs.length
 | [],q,D,R=>by simp [Tc]
 | f::r,q,D,R=>by
  rw [Tc,YS]
  split
  ·have:=GK r (q+1) (D.erase q) R
   have h2:=List.length_erase_le (a:=q) (l:=D)
   omega
  ·split
   ·have:=GK r (q+1) D (R++[q])
    simp only [Yx,YS,Xv] at this
    omega
   ·have:=GK r (q+1) D R
    omega
theorem Zbs {xs:List Z5} {x:Int} {fs:LI} {q:Int} (h:x∈WI 15 (xs.take (XW xs))) (hf:fs.length<=3):(AL xs x fs q).1.length+(AL xs x fs q).2.length<=XW xs+2:=by
 have h1:=GK fs q (WI 14 (xs.take (XW xs))) ((WI 15 (xs.take (XW xs))).erase x)
 have h2:=HO (xs.take (XW xs))
 have h3:=List.length_pos_of_mem h
 rw [List.length_erase_of_mem h] at h1
 rw [WH] at h2
 have h4:=GT xs
 unfold AL
 omega
theorem Zf6 (xs:List Z5) (k:Nat):Y9 xs=Y9 (xs.take k)+Y9 (xs.drop k):=by rw [<-TN,Uu]
theorem SR:∀xs:List Z5,(∀s∈xs,2<=s.sz)->2*xs.length<=Y9 xs
 | [],_=>by simp
 | s::r,h=>by
  have h1:=SR r fun t ht=>h t (XE _ ht)
  have h2:=h s (Xl ..)
  rw [Y9,YS];omega
theorem Z1s {xs:List Z5} {x:Int} {fs:LI} {q:Int} (hf:fs.length<=3) (h:∀s∈xs,s.op=14∨s.op=15->2<=s.sz):Y9 (JH xs x fs q)<=Y9 xs+6:=by
 rw [JH]
 split
 ·rename_i hc
  have h1:=Zbs (q:=q) hc.1 hf
  have h2:=SR (xs.take (XW xs)) fun s hs=>h s (TO hs) (S6 hs)
  have h3:=Zf6 xs (XW xs)
  have h4:=GT xs
  rw [WH] at h2
  rw [TN,TN,TN,Mo,Mo,Y9,Y9,Fp]
  omega
 ·omega
def Cn (s:Z5):Prop:=s=Zz s.op (gI s.args 0)
theorem Z1r {xs:List Z5} {m:Int} {fs:LI} {q:Int} (h:¬(m∈WI 15 (xs.take (XW xs))/\fs.length≠0)):JH xs m fs q=xs:=Z8 h
end Go.Abs
section
namespace Go.Abs
mutual
def AQ (ds:List Zg) (m:Nat):Z5->Z5
 | .mk op num into args kids=>.mk op num into args (Tx ds m op num args kids 0)
def Tx (ds:List Zg) (m:Nat) (op num:Int) (args:LI):List Z7->Nat->List Z7
 | [],_=>[]
 | b::r,k=>(if op=8 then Jl (Vb ds (m+(Ta ds num k).length) b) (gI args 0) (Ta ds num k) m else Vb ds m b)::Tx ds m op num args r (k+1)
def UL (ds:List Zg) (m:Nat):List Z5->List Z5
 | []=>[]
 | s::r=>AQ ds m s::UL ds (if YH s.op=true then m else m+1) r
def Vb (ds:List Zg) (m:Nat):Z7->Z7
 | .mk steps result=>.mk (UL ds m steps) result
end
def H5 (ds:List Zg) (m:Nat) (op num:Int) (args:LI) (k:Nat) (b:Z7):Z7:=if op=8 then Jl (Vb ds (m+(Ta ds num k).length) b) (gI args 0) (Ta ds num k) m else Vb ds m b
theorem Mi (ds:List Zg) (m:Nat) (s:Z5):AQ ds m s=.mk s.op s.num s.into s.args (Tx ds m s.op s.num s.args s.kids 0):=by cases s;rw [AQ];rfl
theorem H3 (ds:List Zg) (m:Nat) (b:Z7):Vb ds m b=.mk (UL ds m b.steps) b.result:=by cases b;rw [Vb];rfl
section
variable {ds:List Zg} {m:Nat}
theorem Ze6 {xs acc r:List Z5} {k:Nat} {s:Z5} (h:xs[k]? = some s) (ha:acc++UL ds m (xs.drop k)=r) :
  (acc++[.mk s.op s.num s.into s.args (Tx ds m s.op s.num s.args s.kids 0)])++UL ds (if YH s.op=true then m else m+1) (xs.drop (k+1))=r:=by
 rw [Ya h,UL,Mi] at ha
 rw [<-ha];simp
theorem Ze5 {xs acc r:List Z5} {k:Nat} (h:xs.length<=k) (ha:acc++UL ds m (xs.drop k)=r):acc=r:=by
 rw [Xn h,UL,A6] at ha;exact ha
theorem Sp {op num:Int} {args:LI} {bs acc r:List Z7} {k:Nat} {b:Z7} (h:bs[k]? = some b) (ha:acc++Tx ds m op num args (bs.drop k) k=r) :
  (acc++[H5 ds m op num args k b])++Tx ds m op num args (bs.drop (k+1)) (k+1)=r:=by
 rw [Ya h,Tx] at ha
 rw [<-ha,H5];simp
theorem Ze2 {op num:Int} {args:LI} {bs acc r:List Z7} {k j:Nat} (h:bs.length<=k) (ha:acc++Tx ds m op num args (bs.drop k) j=r):acc=r:=by
 rw [Xn h,Tx,A6] at ha;exact ha
end
mutual
def wS (ds:List Zg):Z5->Prop
 | .mk op num into args kids=>(XS op=!YH op)/\(YH op=true->num=0/\into=0/\kids=[]/\∃a,args=[a])/\(op=8->(∃a,args=[a]/\0<=a/\a<=900000000)/\kids.length=(Y1 ds num).length)/\AU ds kids
def AU (ds:List Zg):List Z7->Prop
 | []=>True
 | b::r=>wB ds b/\AU ds r
def Kh (ds:List Zg):List Z5->Prop
 | []=>True
 | s::r=>wS ds s/\Kh ds r
def wB (ds:List Zg):Z7->Prop
 | .mk steps _=>Kh ds steps
end
section
variable {ds:List Zg}
theorem JB (s:Z5):wS ds s↔(XS s.op=!YH s.op)/\(YH s.op=true->s.num=0/\s.into=0/\s.kids=[]/\∃a,s.args=[a])/\(s.op=8->(∃a,s.args=[a]/\0<=a/\a<=900000000)/\s.kids.length=(Y1 ds s.num).length)/\AU ds s.kids:=by cases s;rw [wS];rfl
theorem Jj (b:Z7):wB ds b↔Kh ds b.steps:=by cases b;rw [wB];rfl
theorem AW:∀{xs:List Z5},Kh ds xs↔∀s∈xs,wS ds s
 | []=>by simp [Kh]
 | s::r=>by rw [Kh,AW];simp
theorem Ho:∀{xs:List Z7},AU ds xs↔∀s∈xs,wB ds s
 | []=>by simp [AU]
 | s::r=>by rw [AU,Ho];simp
theorem Z0v {b:Z7} {k:Nat} {s:Z5} (h:wB ds b) (hs:b.steps[k]? = some s):wS ds s:=AW.1 ((Jj b).1 h) s (ZY hs)
theorem MK {s:Z5} {k:Nat} {b:Z7} (h:wS ds s) (hb:s.kids[k]? = some b):wB ds b:=Ho.1 ((JB s).1 h).2.2.2 b (ZY hb)
theorem Hp {s:Z5} (h:wS ds s) (hc:YH s.op=true):Cn s/\s.kids=[]/\∃a,s.args=[a]:=by
 obtain ⟨h1,h2,h3,a,h4⟩:=((JB s).1 h).2.1 hc
 refine ⟨?_,h3,a,h4⟩
 cases s with
 | mk op num into args kids=>
  simp only [Z5.num,Z5.into,Z5.kids,Z5.args] at h1 h2 h3 h4
  subst h1 h2 h3 h4
  rfl
theorem Zgz {op v:Int} (h:op=14∨op=15∨op=16):wS ds (Zz op v):=(JB _).2 ⟨by show XS op=!YH op;rcases h with rfl|rfl|rfl<;>rfl,fun _=>⟨rfl,rfl,rfl,v,rfl⟩,fun e=>absurd e (show op≠8 by omega),True.intro⟩
theorem Zh0 {s:Z5} (h:wS ds s):XS s.op=!YH s.op:=((JB s).1 h).1
theorem EY {s:Z5} (h:wS ds s) (h8:s.op=8):(∃a,s.args=[a]/\0<=a/\a<=900000000)/\s.kids.length=(Y1 ds s.num).length:=((JB s).1 h).2.2.1 h8
theorem HA {xs:List Z5} (h:Kh ds xs):∀s∈xs,YH s.op=true->Cn s:=fun s hs hc=>(Hp (AW.1 h s hs) hc).1
end
section
variable {n:Zi}
end
mutual
def Z5.pz:Z5->Nat
 | .mk _ _ _ args kids=>1+args.length+Dv kids
def Z7.pz:Z7->Nat
 | .mk steps _=>1+Dw steps
def Dw:List Z5->Nat
 | []=>0
 | s::r=>s.pz+Dw r
def Dv:List Z7->Nat
 | []=>0
 | b::r=>b.pz+8+Dv r
end
mutual
theorem Z5.pz_le:∀s:Z5,s.pz<=9*s.sz
 | .mk _ _ _ args kids=>by have:=RB kids;rw [Z5.pz,Z5.sz];omega
theorem Z7.pz_le:∀b:Z7,b.pz+8<=9*b.sz
 | .mk steps _=>by have:=RC steps;rw [Z7.pz,Z7.sz];omega
theorem RC:∀xs:List Z5,Dw xs<=9*Y9 xs
 | []=>Ki _
 | s::r=>by have:=s.pz_le;have:=RC r;rw [Dw,Y9];omega
theorem RB:∀xs:List Z7,Dv xs<=9*Xa xs
 | []=>Ki _
 | s::r=>by have:=s.pz_le;have:=RB r;rw [Dv,Xa];omega
end
section
variable {ds:List Zg}
theorem Z3b {op:Int} (h:op=14∨op=15):YH op=true:=by rw [YH];simp;omega
theorem Ze7 {xs:List Z5}:∀{m:Nat},Kh ds xs->∀s∈UL ds m xs,s.op=14∨s.op=15->2<=s.sz:=by
 induction xs with
 | nil=>intro m _ s hs;simp [UL] at hs
 | cons t r ih=>
  intro m h s hs ho
  rw [UL] at hs
  rcases YF.1 hs with rfl|hs
  ·rw [Mi] at ho ⊢
   obtain ⟨_,_,a,ha⟩:=Hp h.1 (Z3b ho)
   rw [Z5.sz,ha];simp
  ·exact ih h.2 s hs ho
variable (hd:Wu ds)
include hd
mutual
theorem Ze3:∀(s:Z5) {m:Nat},wS ds s->(AQ ds m s).sz<=s.pz
 | .mk op num into args kids,m,h=>by
  have:=Sr kids (m:=m) (op:=op) (num:=num) (args:=args) (k:=0) h.2.2.2
  rw [AQ,Z5.sz,Z5.pz];omega
theorem Sr:∀(bs:List Z7) {m:Nat} {op num:Int} {args:LI} {k:Nat},AU ds bs->Xa (Tx ds m op num args bs k)<=Dv bs
 | [],_,_,_,_,_,_=>X5 _
 | b::r,m,op,num,args,k,h=>by
  have h2:=Sr r (m:=m) (op:=op) (num:=num) (args:=args) (k:=k+1) h.2
  rw [Tx,Xa,Dv]
  split
  ·have h1:=H4 b (m:=m+(Ta ds num k).length) h.1
   have h3:=Z1s (xs:=(Vb ds (m+(Ta ds num k).length) b).steps) (x:=gI args 0) (q:=(m:Int)) (Z5h hd num k) (by rw [H3];exact Ze7 ((Jj b).1 h.1))
   rw [Jl,Z7.sz]
   rw [Z7.sz_eq] at h1
   omega
  ·have h1:=H4 b (m:=m) h.1
   omega
theorem Ss:∀(xs:List Z5) {m:Nat},Kh ds xs->Y9 (UL ds m xs)<=Dw xs
 | [],_,_=>X5 _
 | s::r,m,h=>by
  have h1:=Ze3 s (m:=m) h.1
  have h2:=Ss r (m:=if YH s.op=true then m else m+1) h.2
  rw [UL,Y9,Dw];omega
theorem H4:∀(b:Z7) {m:Nat},wB ds b->(Vb ds m b).sz<=b.pz
 | .mk steps result,m,h=>by
  have:=Ss steps (m:=m) h
  rw [Vb,Z7.sz,Z7.pz];omega
end
end
section
variable {ds:List Zg} {m:Nat}
end
def BH (ds:List Zg) (r:Yb):Yb:=⟨r.params,r.lent,r.result,Vb ds r.params.length r.body⟩
def H6 (n:Zi):Zi:=⟨n.decls,n.routines.map (BH n.decls)⟩
end Go.Abs
namespace Go.Abs
theorem Zd6 {xs:List Z5} {k:Nat} {s:Z5} {r:Nat} (h:xs[k]? = some s) (hs:s.op=14∨s.op=15) (ha:k+XW (xs.drop k)=r):k+1+XW (xs.drop (k+1))=r:=by
 rw [Ya h,XW,Ze hs] at ha;omega
theorem Zd7 {xs:List Z5} {k:Nat} {s:Z5} {r:Nat} (h:xs[k]? = some s) (hs:¬(s.op=14∨s.op=15)) (ha:k+XW (xs.drop k)=r):k=r:=by
 rw [Ya h,XW,Z8 hs] at ha;omega
theorem Zd5 {xs:List Z5} {k:Nat} {r:Nat} (h:xs.length<=k) (ha:k+XW (xs.drop k)=r):k=r:=by
 rw [Xn h,XW] at ha;omega
theorem Z23 {op:Int} {xs:List Z5} {acc r:LI} {k:Nat} {s:Z5} (h:xs[k]? = some s) (hs:s.op=op) (ha:acc++WI op (xs.drop k)=r):(acc++[gI s.args 0])++WI op (xs.drop (k+1))=r:=by
 rw [Ya h,WI,Ze hs] at ha;rw [<-ha];simp
theorem Z22 {op:Int} {xs:List Z5} {acc r:LI} {k:Nat} {s:Z5} (h:xs[k]? = some s) (hs:¬s.op=op) (ha:acc++WI op (xs.drop k)=r):acc++WI op (xs.drop (k+1))=r:=by
 rw [Ya h,WI,Z8 hs] at ha;exact ha
theorem Z21 {op:Int} {xs:List Z5} {acc r:LI} {k:Nat} (h:xs.length<=k) (ha:acc++WI op (xs.drop k)=r):acc=r:=by
 rw [Xn h,WI,A6] at ha;exact ha
theorem Z5d {xs acc r:LI} {y:Int} {k:Nat} {x:Int} {d:Bool} (h:xs[k]? = some x) (ha:acc++(if d=true then xs.drop k else (xs.drop k).erase y)=r) :
  (if x=y/\¬d=true then acc else acc++[x])++(if ((x==y&&!d)||d)=true then xs.drop (k+1) else (xs.drop (k+1)).erase y)=r:=by
 rw [Ya h] at ha
 rw [<-ha]
 by_cases hd:d=true
 ·simp [hd]
 ·by_cases hx:x=y
  ·simp [hd,hx]
  ·rw [Z8 (fun z=>hx z.1),Z8 hd,List.erase_cons_tail (by simpa using hx)]
   simp [hd,hx]
theorem Z5c {xs acc r:LI} {y:Int} {k:Nat} {d:Bool} (h:xs.length<=k) (ha:acc++(if d=true then xs.drop k else (xs.drop k).erase y)=r):acc=r:=by
 rw [Xn h] at ha;simpa using ha
section
variable {fs D R:LI} {q k:Nat} {f:Int} {r:LI × LI}
theorem Zbu (h:fs[k]? = some f) (h0:f≠0) (hm:((q+k:Nat):Int)∈D) (ha:Tc (fs.drop k) (q+k) D R=r):Tc (fs.drop (k+1)) (q+((k+1:Nat):Int)) (D.erase ((q+k:Nat):Int)) R=r:=by
 rw [Ya h,Tc,Ze ⟨h0,by rw [<-Int.natCast_add];exact hm⟩,<-Int.natCast_add] at ha
 rw [<-ha];congr 1
theorem Zbv (h:fs[k]? = some f) (h0:f≠0) (hm:¬((q+k:Nat):Int)∈D) (ha:Tc (fs.drop k) (q+k) D R=r):Tc (fs.drop (k+1)) (q+((k+1:Nat):Int)) D (R++[((q+k:Nat):Int)])=r:=by
 rw [Ya h,Tc,Z8 (fun z=>hm (by rw [Int.natCast_add];exact z.2)),Ze h0,<-Int.natCast_add] at ha
 rw [<-ha];congr 1
theorem Zbw (h:fs[k]? = some f) (h0:¬f≠0) (ha:Tc (fs.drop k) (q+k) D R=r):Tc (fs.drop (k+1)) (q+((k+1:Nat):Int)) D R=r:=by
 rw [Ya h,Tc,Z8 (fun z=>h0 z.1),Z8 h0] at ha
 rw [<-ha];congr 1
theorem Zbt (h:fs.length<=k) (ha:Tc (fs.drop k) (q+k) D R=r):r=(D,R):=by
 rw [Xn h,Tc] at ha;exact ha.symm
end
theorem Z1t {xs:List Z5} {x:Int} {fs:LI} {q:Int} {D R:LI} (h1:x∈WI 15 (xs.take (XW xs))) (h2:fs.length≠0) (hr:AL xs x fs q=(D,R)):D.map (Zz 14)++[Zz 16 x]++R.map (Zz 15)++xs.drop (XW xs)=JH xs x fs q:=by
 rw [JH,Ze ⟨h1,h2⟩,hr]
theorem Ze4 {ds:List Zg} {xs:List Z5}:∀{m:Nat},Kh ds xs->∀s∈UL ds m xs,YH s.op=true->∃a,s.args=[a]:=by
 induction xs with
 | nil=>intro m _ s hs;simp [UL] at hs
 | cons t r ih=>
  intro m h s hs ho
  rw [UL] at hs
  rcases YF.1 hs with rfl|hs
  ·rw [Mi] at ho ⊢
   exact (Hp h.1 ho).2.2
  ·exact ih h.2 s hs ho
end Go.Abs
end
namespace Go.Abs
mutual
def Z2.sz:Z2->Nat
 | .mk _ _ kids=>1+XB kids
def XB:List Z2->Nat
 | []=>0
 | e::r=>e.sz+XB r
end
theorem Z2.sz_eq (e:Z2):e.sz=1+XB e.kids:=by cases e;rw [Z2.sz];rfl
theorem E5:∀xs ys:List Z2,XB (xs++ys)=XB xs+XB ys
 | [],ys=>by simp [XB]
 | x::r,ys=>by rw [QI,XB,XB,E5 r];omega
theorem Cf:∀{xs:List Z2} {k:Nat} {e:Z2},xs[k]? = some e->e.sz<=XB xs
 | [],k,e,h=>by simp at h
 | x::r,0,e,h=>by simp at h;subst h;rw [XB];omega
 | x::r,k+1,e,h=>by have:=Cf (xs:=r) (k:=k) (by simpa using h);rw [XB];omega
theorem Oc:∀{xs:List Z2},xs.length<=XB xs
 | []=>Ki _
 | x::r=>by have:=Oc (xs:=r);have:=x.sz_eq;rw [XB,YS];omega
def Ao:Zg:=⟨0,0,[⟨[]⟩,⟨[0,1]⟩]⟩
def Ap:Zg:=⟨0,0,[⟨[]⟩,⟨[3,0,3]⟩]⟩
def NW:List Zg:=[⟨0,0,[⟨[1,3]⟩]⟩,⟨1,0,[]⟩,⟨0,0,[⟨[1,1,0]⟩,⟨[0]⟩,⟨[3]⟩]⟩,⟨0,1,[]⟩]
def Ax:List (List Zg):=[[Ao,⟨0,0,[]⟩,Ap],[Ao,⟨0,0,[]⟩,Ap,⟨0,0,[⟨[1,3]⟩]⟩],[Ao,⟨0,0,[]⟩,Ap,⟨1,0,[]⟩],[Ao,⟨0,0,[]⟩,Ap,⟨0,0,[⟨[1,1,0]⟩,⟨[0]⟩,⟨[3]⟩]⟩],[Ao,⟨0,0,[]⟩,Ap,⟨0,1,[]⟩]]
def GD (ds:List Zg):Prop:=ds∈Ax
theorem GD.ok {ds:List Zg} (h:GD ds):Wu ds:=by
 have k:=(by decide:∀ds∈Ax,ds.length<=4/\(∀d∈ds,d.cons.length<=3)/\∀d∈ds,∀c∈d.cons,c.fields.length<=3) ds h
 exact ⟨k.1,k.2.1,k.2.2⟩
theorem GD.len {ds:List Zg} (h:GD ds):3<=ds.length/\ds.length<=4:=by
 exact (by decide:∀ds∈Ax,3<=ds.length/\ds.length<=4) ds h
def J4 (t:Int):Prop:=t=0∨t=1∨t=3
instance (t:Int):Decidable (J4 t):=inferInstanceAs (Decidable (_∨_∨_))
theorem GD.low {ds:List Zg} (h:GD ds):Y1 ds 0=[]/\Y1 ds 1=[0,1]/\Y1 ds 2=[]/\Y1 ds 3=[2,3]/\ZX ds 0=[]/\ZX ds 1=[0,1]/\ZX ds 2=[]/\ZX ds 3=[3,0,3]:=
 (by decide:∀ds∈Ax,Y1 ds 0=[]/\Y1 ds 1=[0,1]/\Y1 ds 2=[]/\Y1 ds 3=[2,3]/\ZX ds 0=[]/\ZX ds 1=[0,1]/\ZX ds 2=[]/\ZX ds 3=[3,0,3]) ds h
theorem GD.fields {ds:List Zg} (h:GD ds):∀c∈Y1 ds 1++(Y1 ds 3++Y1 ds 4),∀t∈ZX ds c,J4 t:=
 (by decide:∀ds∈Ax,∀c∈Y1 ds 1++(Y1 ds 3++Y1 ds 4),∀t∈ZX ds c,J4 t) ds h
theorem GD.cons_cases {ds:List Zg} (h:GD ds) {t:Int} {c:Int} (hc:c∈Y1 ds t):(0<=c/\c<=9)/\(t=1∨t=3∨t=4)/\(ZX ds c).length<=3/\∀u∈ZX ds c,J4 u:=by
 have ht:1<=t/\t<=ds.length:=by
  by_cases q:1<=t/\t<=ds.length
  ·exact q
  ·rw [Y1,Z8 q] at hc;cases hc
 have hl:=h.len
 have hlow:=h.low
 have key:∀c∈Y1 ds 1++(Y1 ds 3++Y1 ds 4),0<=c/\c<=9:=
  (by decide:∀ds∈Ax,∀c∈Y1 ds 1++(Y1 ds 3++Y1 ds 4),0<=c/\c<=9) ds h
 have h4:t=1∨t=2∨t=3∨t=4:=by omega
 have hf:=h.fields
 have hd:=U4 h.ok c
 rcases h4 with rfl|rfl|rfl|rfl
 ·exact ⟨key c (X6.2 (.inl hc)),.inl rfl,hd,hf c (X6.2 (.inl hc))⟩
 ·rw [hlow.2.2.1] at hc;cases hc
 ·exact ⟨key c (X6.2 (.inr (X6.2 (.inl hc)))),.inr (.inl rfl),hd,hf c (X6.2 (.inr (X6.2 (.inl hc))))⟩
 ·exact ⟨key c (X6.2 (.inr (X6.2 (.inr hc)))),.inr (.inr rfl),hd,hf c (X6.2 (.inr (X6.2 (.inr hc))))⟩
def JG:List (LI × Int):=[([],0),([1],0),([1,1],1),([1],1),([1,0],1),([2,1],1),([1,1],0),([3],0),([0],1),([0,1],1),([3,0],3),([3],1),([1,3,0],0),([0],0),([0,0],0),([1,0],0)]
def TB (f:Func):Prop:=(f.params,f.result)∈JG
theorem TB.bd {f:Func} (h:TB f):f.params.length<=3/\(∀t∈f.params,0<=t/\t<=3)/\J4 f.result:=by
 have key:∀q∈JG,q.1.length<=3/\(∀t∈q.1,0<=t/\t<=3)/\J4 q.2:=by decide
 exact key _ h
theorem TB.clo {ds:List Zg} {f:Func} (hd:GD ds) (h:TB f) (hp:0<Uv ds (gI f.params ((f.params.length:Int)-1)) f.result):∀t∈f.params.dropLast,J4 t:=by
 have key:∀q∈JG,0<Uv ds (gI q.1 ((q.1.length:Int)-1)) q.2->∀t∈q.1.dropLast,J4 t:=
  (by decide +kernel:∀ds∈Ax,∀q∈JG,0<Uv ds (gI q.1 ((q.1.length:Int)-1)) q.2->∀t∈q.1.dropLast,J4 t) ds hd
 exact key _ h hp
structure GP (p:Wd):Prop where
 decls:GD p.decls
 len:1<=p.funcs.length/\p.funcs.length<=4
 sigs:∀f∈p.funcs,TB f
def Q8 (ds:List Zg) (op num:Int) (m:Nat) (k:Nat):Nat:=
 if op=13 then m+k else if op=8 then (if k=0 then m else m+(ZX ds (gI (Y1 ds num) ((k:Int)-1))).length) else m
mutual
def eW (ds:List Zg) (nf:Nat):Nat->Z2->Prop
 | m,.mk op num kids=>(0<=op/\op<=13)/\(op=12->kids=[]/\0<=num/\num<m)/\(op=13->kids.length=2)/\(op=7->kids.length=3)/\(op=8->kids.length=1+(Y1 ds num).length)/\(op=9->0<=num/\num<nf)/\(-2000<=num/\num<=2000)/\kids.length<=4 /\
  QT ds nf (Q8 ds op num m) 0 kids
def QT (ds:List Zg) (nf:Nat) (sc:Nat->Nat):Nat->List Z2->Prop
 | _,[]=>True
 | k,e::r=>eW ds nf (sc k) e/\QT ds nf sc (k+1) r
end
theorem Z55 {ds:List Zg} {nf m:Nat} (e:Z2):eW ds nf m e↔(0<=e.op/\e.op<=13)/\(e.op=12->e.kids=[]/\0<=e.num/\e.num<m)/\(e.op=13->e.kids.length=2)/\(e.op=7->e.kids.length=3)/\(e.op=8->e.kids.length=1+(Y1 ds e.num).length)/\(e.op=9->0<=e.num/\e.num<nf)/\(-2000<=e.num/\e.num<=2000)/\e.kids.length<=4 /\
  QT ds nf (Q8 ds e.op e.num m) 0 e.kids:=by cases e;rw [eW];rfl
theorem D4 {ds:List Zg} {nf:Nat} {sc:Nat->Nat}:∀{xs:List Z2} {j k:Nat} {e:Z2},QT ds nf sc j xs->xs[k]? = some e->eW ds nf (sc (j+k)) e
 | [],j,k,e,_,h=>by simp at h
 | x::r,j,0,e,hw,h=>by simp at h;subst h;exact hw.1
 | x::r,j,k+1,e,hw,h=>by
  have:=D4 (xs:=r) (j:=j+1) (k:=k) hw.2 (by simpa using h)
  rw [show j+(k+1)=j+1+k by omega];exact this
theorem O7 {ds:List Zg} {nf:Nat} {sc:Nat->Nat}:∀{xs ys:List Z2} {j:Nat},QT ds nf sc j (xs++ys)↔QT ds nf sc j xs/\QT ds nf sc (j+xs.length) ys
 | [],ys,j=>by simp [QT]
 | x::r,ys,j=>by
  rw [QI,QT,QT,O7 (xs:=r),and_assoc,YS,show j+1+r.length=j+(r.length+1) by omega]
theorem Iq {ds:List Zg} {nf m:Nat} {sc:Nat->Nat} (hs:∀k,sc k=m):∀{xs:List Z2} {j:Nat},(∀e∈xs,eW ds nf m e)->QT ds nf sc j xs
 | [],_,_=>True.intro
 | x::r,j,h=>⟨by rw [hs];exact h x (Xl ..),Iq hs fun e he=>h e (XE _ he)⟩
theorem Ce {ds:List Zg} {nf m:Nat} {op num:Int} {kids:List Z2} (ho:0<=op/\op<=11/\op≠7/\op≠8) (hc:op=9->0<=num/\num<nf) (hn:-2000<=num/\num<=2000) (hl:kids.length<=4) (hk:∀e∈kids,eW ds nf m e):eW ds nf m (.mk op num kids):=by
 rw [eW]
 refine ⟨by omega,fun h=>by omega,fun h=>by omega,fun h=>by omega,fun h=>by omega,hc,hn,hl,Iq (m:=m) (fun k=>?_) hk⟩
 rw [Q8,Z8 om,Z8 om]
theorem Z56 {ds:List Zg} {nf m:Nat} {z:Int} (hz:-2000<=z/\z<=2000):eW ds nf m (.mk 0 z []):=Ce om (fun h=>by omega) hz (by simp) (fun e he=>by cases he)
theorem Z57 {ds:List Zg} {nf m:Nat} {z:Int} (hz:0<=z/\z<m) (hm:m<=2000):eW ds nf m (.mk 12 z []):=by
 rw [eW]
 exact ⟨by omega,fun _=>⟨rfl,hz⟩,fun h=>by omega,fun h=>by omega,fun h=>by omega,fun h=>by omega,by omega,by simp,True.intro⟩
theorem O5 {ds:List Zg} {nf m:Nat} {num:Int} {kids:List Z2} (hn:-2000<=num/\num<=2000) (hl:kids.length=3) (hk:∀e∈kids,eW ds nf m e):eW ds nf m (.mk 7 num kids):=by
 rw [eW]
 refine ⟨by omega,fun h=>by omega,fun h=>by omega,fun _=>hl,fun h=>by omega,fun h=>by omega,hn,by omega,Iq (m:=m) (fun k=>?_) hk⟩
 rw [Q8,Z8 om,Z8 om]
theorem O6 {ds:List Zg} {nf m:Nat} {num:Int} {a b:Z2} (hn:-2000<=num/\num<=2000) (ha:eW ds nf m a) (hb:eW ds nf (m+1) b):eW ds nf m (.mk 13 num [a,b]):=by
 rw [eW]
 exact ⟨by omega,fun h=>by omega,fun _=>rfl,fun h=>by omega,fun h=>by omega,fun h=>by omega,hn,by simp,ha,hb,True.intro⟩
theorem Ip {ds:List Zg} {nf m:Nat} {num:Int} {a:Z2} {arms:List Z2} (hn:-2000<=num/\num<=2000) (h3:arms.length<=3) (hl:arms.length=(Y1 ds num).length) (ha:eW ds nf m a) (hk:QT ds nf (Q8 ds 8 num m) 1 arms):eW ds nf m (.mk 8 num (a::arms)):=by
 rw [eW]
 refine ⟨by omega,fun h=>by omega,fun h=>by omega,fun h=>by omega,fun _=>by rw [YS];omega,fun h=>by omega,hn,by rw [YS];omega,?_,hk⟩
 rw [Q8,Z8 om,Ze rfl,Ze rfl]
 exact ha
def bS (b:Nat):Nat:=max 4 (10*b-10)
def bC (b:Nat):Nat:=max 40 (100*b-100)
def X1:List Z5->Nat
 | []=>0
 | s::r=>(if YH s.op=true then 0 else 1)+X1 r
theorem Jq:∀xs ys:List Z5,X1 (xs++ys)=X1 xs+X1 ys
 | [],ys=>by simp [X1]
 | x::r,ys=>by rw [QI,X1,X1,Jq r];omega
theorem Bf:∀xs:List Z5,X1 xs<=xs.length
 | []=>X5 _
 | x::r=>by have:=Bf r;rw [X1,YS];split<;>omega
def UY (ds:List Zg) (op num:Int) (m:Nat) (k:Nat):Nat:=if op=8 then m+(ZX ds (gI (Y1 ds num) k)).length else m
mutual
def fS (ds:List Zg) (nf:Nat):Nat->Z5->Prop
 | m,.mk op num into args kids=>((0<=op/\op<=11)∨(14<=op/\op<=17))/\(∀a∈args,0<=a/\a<m)/\(14<=op->num=0/\into=0/\kids=[]/\∃a,args=[a])/\(op=7->kids.length=2)/\(op=8->kids.length=(Y1 ds num).length)/\(op=7∨op=8->∃a,args=[a]) /\
  (op=9->0<=num/\num<nf)/\(-2000<=num/\num<=2000)/\(0<=into/\into<=m)/\args.length<=4/\(op≠7/\op≠8->kids=[])/\TR ds nf (UY ds op num m) 0 kids
def TR (ds:List Zg) (nf:Nat) (sc:Nat->Nat):Nat->List Z7->Prop
 | _,[]=>True
 | k,b::r=>fB ds nf (sc k) b/\TR ds nf sc (k+1) r
def Tp (ds:List Zg) (nf:Nat):Nat->List Z5->Prop
 | _,[]=>True
 | m,s::r=>fS ds nf m s/\Tp ds nf (if YH s.op=true then m else m+1) r
def fB (ds:List Zg) (nf:Nat):Nat->Z7->Prop
 | m,.mk steps result=>Tp ds nf m steps/\0<=result/\result<(m+X1 steps:Nat)
end
section
variable {ds:List Zg} {nf:Nat}
structure FS (ds:List Zg) (nf m:Nat) (s:Z5):Prop where
 op:(0<=s.op/\s.op<=11)∨(14<=s.op/\s.op<=17)
 args:∀a∈s.args,0<=a/\a<m
 cnt:14<=s.op->s.num=0/\s.into=0/\s.kids=[]/\∃a,s.args=[a]
 k7:s.op=7->s.kids.length=2
 k8:s.op=8->s.kids.length=(Y1 ds s.num).length
 one:s.op=7∨s.op=8->∃a,s.args=[a]
 call:s.op=9->0<=s.num/\s.num<nf
 num:-2000<=s.num/\s.num<=2000
 into:0<=s.into/\s.into<=m
 alen:s.args.length<=4
 kn:s.op≠7/\s.op≠8->s.kids=[]
 kids:TR ds nf (UY ds s.op s.num m) 0 s.kids
theorem FJ {m:Nat} (s:Z5):fS ds nf m s↔FS ds nf m s:=by
 cases s
 rw [fS]
 exact ⟨fun ⟨h1,h2,h3,h4,h5,h6,h7,h8,h9,h10,h11,h12⟩=>⟨h1,h2,h3,h4,h5,h6,h7,h8,h9,h10,h11,h12⟩,fun h=>⟨h.op,h.args,h.cnt,h.k7,h.k8,h.one,h.call,h.num,h.into,h.alen,h.kn,h.kids⟩⟩
theorem E7 {m:Nat} (b:Z7):fB ds nf m b↔Tp ds nf m b.steps/\0<=b.result/\b.result<(m+X1 b.steps:Nat):=by cases b;rw [fB];rfl
theorem E8 {sc:Nat->Nat}:∀{xs:List Z7} {j k:Nat} {b:Z7},TR ds nf sc j xs->xs[k]? = some b->fB ds nf (sc (j+k)) b
 | [],j,k,b,_,h=>by simp at h
 | x::r,j,0,b,hw,h=>by simp at h;subst h;exact hw.1
 | x::r,j,k+1,b,hw,h=>by
  have:=E8 (xs:=r) (j:=j+1) (k:=k) hw.2 (by simpa using h)
  rw [show j+(k+1)=j+1+k by omega];exact this
theorem Oe {sc:Nat->Nat}:∀{xs ys:List Z7} {j:Nat},TR ds nf sc j (xs++ys)↔TR ds nf sc j xs/\TR ds nf sc (j+xs.length) ys
 | [],ys,j=>by simp [TR]
 | x::r,ys,j=>by
  rw [QI,TR,TR,Oe (xs:=r),and_assoc,YS,show j+1+r.length=j+(r.length+1) by omega]
theorem Of {sc:Nat->Nat} {xs:List Z7} {b:Z7} (h:TR ds nf sc 0 xs) (hb:fB ds nf (sc xs.length) b):TR ds nf sc 0 (xs++[b]):=
 Oe.2 ⟨h,by rw [Vl];exact hb,True.intro⟩
theorem D6:∀{xs ys:List Z5} {m:Nat},Tp ds nf m (xs++ys)↔Tp ds nf m xs/\Tp ds nf (m+X1 xs) ys
 | [],ys,m=>by simp [Tp,X1]
 | x::r,ys,m=>by
  rw [QI,Tp,Tp,D6 (xs:=r),and_assoc,X1]
  by_cases h:YH x.op=true
  ·rw [Ze h,Ze h,Vl]
  ·rw [Z8 h,Z8 h,B1]
theorem FK {xs:List Z5} {s:Z5} {m:Nat} (h:Tp ds nf m xs) (hs:fS ds nf (m+X1 xs) s):Tp ds nf m (xs++[s]):=D6.2 ⟨h,hs,True.intro⟩
theorem E9:∀{xs:List Z5} {k m:Nat} {s:Z5},Tp ds nf m xs->xs[k]? = some s->fS ds nf (m+X1 (xs.take k)) s
 | [],k,m,s,_,h=>by simp at h
 | x::r,0,m,s,hw,h=>by simp at h;subst h;exact hw.1
 | x::r,k+1,m,s,hw,h=>by
  have:=E9 (xs:=r) (k:=k) hw.2 (by simpa using h)
  rw [B0,X1]
  by_cases hc:YH x.op=true
  ·rw [Ze hc] at this ⊢;rw [Vl];exact this
  ·rw [Z8 hc] at this ⊢;rw [<-B1];exact this
mutual
theorem Zh2:∀(s:Z5) {m:Nat},fS ds nf m s->m+4*s.sz<=900000000->Wu ds->wS ds s
 | .mk op num into args kids,m,h,hb,hd=>by
  rw [fS] at h
  obtain ⟨h1,h2,h3,h4,h5,h6,h7,h8,h9,h10,h11,h12⟩:=h
  rw [Z5.sz] at hb
  rw [wS]
  refine ⟨?_,fun hc=>h3 (show 14<=op/\op<=17 by simpa [YH] using hc).1,fun h8'=>⟨?_,h5 h8'⟩,Z0x kids h12 (fun k=>?_) hd⟩
  ·rcases h1 with h1|h1
   ·have e1:YH op=false:=by simp [YH];omega
    have e2:XS op=true:=by simp [XS];omega
    rw [e1,e2];rfl
   ·have e1:YH op=true:=by simp [YH];omega
    have e2:XS op=false:=by simp [XS];omega
    rw [e1,e2];rfl
  ·obtain ⟨a,ha⟩:=h6 (.inr h8')
   have:=h2 a (by rw [ha];exact Xx.2 rfl)
   exact ⟨a,ha,by omega⟩
  ·have hf:=U4 hd (gI (Y1 ds num) k)
   show UY ds op num m k+4*Xa kids<=900000003
   rw [UY];split<;>omega
theorem Z0x:∀(bs:List Z7) {sc:Nat->Nat} {k:Nat},TR ds nf sc k bs->(∀k,sc k+4*Xa bs<=900000003)->Wu ds->AU ds bs
 | [],_,_,_,_,_=>True.intro
 | b::r,sc,k,h,hb,hd=>by
  have hp:=b.sz_eq
  exact ⟨Z0w b h.1 (by have:=hb k;rw [Xa] at this;omega) hd,Z0x r h.2 (fun j=>by have:=hb j;rw [Xa] at this;omega) hd⟩
theorem Z0y:∀(xs:List Z5) {m:Nat},Tp ds nf m xs->m+4*Y9 xs<=900000000->Wu ds->Kh ds xs
 | [],_,_,_,_=>True.intro
 | s::r,m,h,hb,hd=>by
  rw [Y9] at hb
  have hp:=s.sz_pos
  refine ⟨Zh2 s h.1 om hd,Z0y r h.2 ?_ hd⟩
  split<;>omega
theorem Z0w:∀(b:Z7) {m:Nat},fB ds nf m b->m+4*b.sz<=900000004->Wu ds->wB ds b
 | .mk steps result,m,h,hb,hd=>by
  rw [Z7.sz] at hb
  rw [fB] at h
  rw [wB]
  exact Z0y steps h.1 om hd
end
mutual
theorem Zcl:∀(s:Z5) {m:Nat},fS ds nf m s->s.rng
 | .mk op num into args kids,m,h=>by
  rw [fS] at h
  obtain ⟨h1,h2,h3,h4,h5,h6,h7,h8,h9,h10,h11,h12⟩:=h
  rw [Z5.rng]
  exact ⟨by omega,RR kids h12⟩
theorem RR:∀(bs:List Z7) {sc:Nat->Nat} {k:Nat},TR ds nf sc k bs->QO bs
 | [],_,_,_=>True.intro
 | b::r,sc,k,h=>⟨LV b h.1,RR r h.2⟩
theorem RS:∀(xs:List Z5) {m:Nat},Tp ds nf m xs->UM xs
 | [],_,_=>True.intro
 | s::r,m,h=>⟨Zcl s h.1,RS r h.2⟩
theorem LV:∀(b:Z7) {m:Nat},fB ds nf m b->b.rng
 | .mk steps result,m,h=>by rw [fB] at h;rw [Z7.rng];exact RS steps h.1
end
end
structure FN (n:Zi) (q:Nat):Prop where
 decls:GD n.decls
 len:1<=n.routines.length/\n.routines.length<=4
 sigs:∀r∈n.routines,(r.params,r.result)∈JG
 lent:∀r∈n.routines,r.lent.length<=3/\∀i∈r.lent,0<=i/\i<r.params.length
 body:∀r∈n.routines,fB n.decls n.routines.length r.params.length r.body/\r.body.sz<=q
theorem FN.ok {n:Zi} {q:Nat} (h:FN n q):X3 n:=
 ⟨h.decls.ok,h.len.2,fun r hr=>(TB.bd (f:=⟨r.params,r.result,default⟩) (h.sigs r hr)).1,fun r hr=>by have:=(h.lent r hr).1;omega⟩
def Pk (n k:Int):Prop:=0<=k/\(0<n->k<n)/\(n<=0->k=0)
theorem Pk.lt {n k:Int} (h:Pk n k) (hn:0<n):0<=k/\k<n:=⟨h.1,h.2.1 hn⟩
theorem Pk.zero {n:Int}:Pk n 0:=⟨Int.le_refl _,fun h=>h,fun _=>rfl⟩
theorem Pk.rem {n a:Int} (ha:0<=a) (hn:0<n):Pk n (a % n):=⟨Int.emod_nonneg _ om,fun _=>Int.emod_lt_of_pos _ hn,fun _=>by omega⟩
def AD (ds:List Zg):Prop:=ds.length<=8/\∀d∈ds,d.cons.length<=4/\∀c∈d.cons,c.fields.length<=4
theorem GD.ad {ds:List Zg} (h:GD ds):AD ds:=(by decide:∀ds∈Ax,ds.length<=8/\∀d∈ds,d.cons.length<=4/\∀c∈d.cons,c.fields.length<=4) ds h
theorem AD.set {ds:List Zg} (h:AD ds) (k:Nat) {d:Zg} (hd:d.cons.length<=4/\∀c∈d.cons,c.fields.length<=4):AD (ds.set k d):=
 ⟨by rw [UD];exact h.1,fun x hx=>(List.mem_or_eq_of_mem_set hx).elim (h.2 x) fun e=>by rw [e];exact hd⟩
theorem AD.app {ds es:List Zg} (h:AD ds) (hl:ds.length+es.length<=8) (hd:∀d∈es,d.cons.length<=4/\∀c∈d.cons,c.fields.length<=4):AD (ds++es):=
 ⟨by rw [Yx];exact hl,fun x hx=>(X6.1 hx).elim (h.2 x) (hd x)⟩
theorem GD.three:GD [Ao,⟨0,0,[]⟩,Ap]:=List.Mem.head _
theorem GD.four:∀{k:Nat} {x:Zg},NW[k]? = some x->GD ([Ao,⟨0,0,[]⟩,Ap]++[x])
 | 0,x,h=>by cases h;exact .tail _ (.head _)
 | 1,x,h=>by cases h;exact .tail _ (.tail _ (.head _))
 | 2,x,h=>by cases h;exact .tail _ (.tail _ (.tail _ (.head _)))
 | 3,x,h=>by cases h;exact .tail _ (.tail _ (.tail _ (.tail _ (.head _))))
 | k+4,x,h=>by simp [NW] at h
theorem BA {l:LI} {z a b:Int} (h:z∈l) (hl:l.all (fun x=>decide (a<=x/\x<=b))=true):a<=z/\z<=b:=by
 have:=JC.1 hl z h
 exact of_decide_eq_true this
def rk (t:Int):Nat:=if J4 t then 0 else 1
theorem LU (t:Int):rk t<=1:=by rw [rk];split<;>omega
theorem RQ {t:Int} (h:J4 t):rk t=0:=Ze h
def SE (g:Wd) (q:Nat) (e:Z2):Prop:=(∀m,eW g.decls g.funcs.length m e)/\e.sz<=q
def GE (g:Wd) (m q:Nat) (e:Z2):Prop:=eW g.decls g.funcs.length m e/\e.sz<=q
theorem SE.ge {g:Wd} {q q' m:Nat} {e:Z2} (h:SE g q e) (hq:q<=q'):GE g m q' e:=⟨h.1 m,VQ h.2 hq⟩
theorem GE.le {g:Wd} {m q q':Nat} {e:Z2} (h:GE g m q e) (hq:q<=q'):GE g m q' e:=⟨h.1,VQ h.2 hq⟩
theorem FI {m:Nat}:∀{xs:List Z2},(∀e∈xs,e.sz<=m)->XB xs<=xs.length*m
 | [],_=>Ki _
 | x::r,h=>by
  have h1:=h x (Xl ..)
  have h2:=FI (xs:=r) fun e he=>h e (XE _ he)
  rw [XB,YS,Qt];omega
theorem XF {α:Type} {p:α->Prop} {xs:List α} {a:α} (h:∀x∈xs,p x) (ha:p a):∀x∈xs++[a],p x:=fun x hx=>(X6.1 hx).elim (h x) fun q=>by rw [Xx.1 q];exact ha
theorem SE.int {g:Wd} {z:Int} {q:Nat} (hz:-2000<=z/\z<=2000) (hq:1<=q):SE g q (.mk 0 z []):=⟨fun _=>Z56 hz,by simpa [Z2.sz,XB] using hq⟩
theorem SE.node {g:Wd} {op num:Int} {ys:List Z2} {q k:Nat} (ho:op=6∨op=10) (hn:0<=num/\num<=2000) (hy:∀e∈ys,SE g 1 e) (hl:ys.length<=k) (hk:k<=3) (hq:1+k<=q):SE g q (.mk op num ys):=by
 refine ⟨fun m=>Ce om (fun h=>by omega) om om fun e he=>(hy e he).1 m,?_⟩
 have:=FI (xs:=ys) (m:=1) fun e he=>(hy e he).2
 rw [Z2.sz];omega
def B7 (ds:List Zg) (t c:Int):Prop:=(0<=c/\c<=9)/\(ZX ds c).length<=3*rk t/\∀u∈ZX ds c,J4 u
instance (ds:List Zg) (t c:Int):Decidable (B7 ds t c):=inferInstanceAs (Decidable (_/\_/\_))
theorem Se {ds:List Zg} (h:GD ds):∀t∈[(1:Int),2,3,4],∀c∈Y1 ds t,(t∈ZX ds c->∀c0,(Y1 ds t)[0]? = some c0->B7 ds t c0)/\(¬t∈ZX ds c->B7 ds t c):=by
 intro t ht c hc
 have k1:=(by decide:∀ds∈Ax,∀t∈[(1:Int),2,3,4],∀c∈Y1 ds t,(t∈ZX ds c->B7 ds t (gI (Y1 ds t) 0))/\(¬t∈ZX ds c->B7 ds t c)) ds h t ht c hc
 refine ⟨fun q c0 h0=>?_,k1.2⟩
 have:=k1.1 q
 rwa [Vh (i:=0) h0] at this
theorem NT {ds:List Zg} (h:GD ds) {t c:Int} (hc:c∈Y1 ds t):t∈[(1:Int),2,3,4]:=by
 obtain ⟨_,h2,_⟩:=h.cons_cases hc
 rcases h2 with rfl|rfl|rfl<;>simp
theorem Zdk {ds:List Zg} (h:GD ds) {t c c0:Int} (hc:c∈Y1 ds t) (ht:t∈ZX ds c) (h0:(Y1 ds t)[0]? = some c0):B7 ds t c0:=(Se h t (NT h hc) c hc).1 ht c0 h0
theorem Zdj {ds:List Zg} (h:GD ds) {t c:Int} (hc:c∈Y1 ds t) (ht:¬t∈ZX ds c):B7 ds t c:=(Se h t (NT h hc) c hc).2 ht
theorem Zck {ds:List Zg} (h:GD ds) {t:Int} (h0:(Y1 ds t).length=0) (ht:0<t):rk t=1:=by
 rw [rk,Z8]
 rintro (q|q|q)
 ·omega
 ·rw [q,h.low.2.1] at h0;cases h0
 ·rw [q,h.low.2.2.2.1] at h0;cases h0
def A9 (g:Wd) (t i:Int):Prop:=0<=i/\∃f,g.funcs[i.toNat]? = some f/\0<f.params.length/\Uv g.decls (gI f.params ((f.params.length:Int)-1)) f.result=t
theorem A9.lt {g:Wd} {t i:Int} (h:A9 g t i):0<=i/\i<g.funcs.length:=by
 obtain ⟨h1,f,h2,_⟩:=h
 have:=(Xi.1 h2).1
 omega
theorem A9.mk {g:Wd} {t x2:Int} {k:Nat} {f:Func} (hf:g.funcs[k]? = some f) (hl:0<f.params.length) (hx:f.params[f.params.length-1]? = some x2) (ha:Uv g.decls x2 f.result=t):A9 g t (k:Int):=by
 refine ⟨by omega,f,by simpa using hf,hl,?_⟩
 rw [Vh (i:=(f.params.length:Int)-1) (by rw [show ((f.params.length:Int)-1).toNat=f.params.length-1 by omega];exact hx)]
 exact ha
theorem A9.low {g:Wd} {t i u:Int} {f:Func} {j:Nat} (hg:GP g) (h:A9 g t i) (ht:0<t) (hf:g.funcs[i.toNat]? = some f) (hj:j+1<f.params.length) (hu:f.params[j]? = some u):rk u=0:=by
 obtain ⟨_,f',h2,_,h4⟩:=h
 have e:f'=f:=WB (h2.symm.trans hf)
 subst e
 have h5:=(hg.sigs f' (ZY hf)).clo hg.decls (by rw [h4];exact ht)
 refine RQ (h5 u ?_)
 rw [List.dropLast_eq_take]
 exact ZY (i:=j) (by rw [List.getElem?_take_of_lt om];exact hu)
end Go.Abs
section
namespace Go.Abs
theorem JL (b:Nat):bS b=max 4 (10*b-10):=rfl
theorem JK (b:Nat):bC b=max 40 (100*b-100):=rfl
theorem Ew {L q b:Nat} (hL:L<=3) (hb:3<=b) (hq:L*q<=b-1):1+L*bS q<=bS b:=by
 rw [JL,JL]
 have:L=0∨L=1∨L=2∨L=3:=by omega
 rcases this with rfl|rfl|rfl|rfl<;>omega
theorem Zaz {L q b:Nat} (hL:L<=3) (hb:3<=b) (hq:L*q<=b-2):5+L*bS q<=bS b:=by
 rw [JL,JL]
 have:L=0∨L=1∨L=2∨L=3:=by omega
 rcases this with rfl|rfl|rfl|rfl<;>omega
theorem Zav {b:Nat} (hb:3<=b):1+(bS (b / 2)+bS (b / 2))<=bS b:=by rw [JL,JL];omega
theorem Z1v {b:Nat} (hb:3<=b):5+bS (b-2)<=bS b:=by rw [JL,JL];omega
theorem AK {L q b:Nat} (hL:L<=3) (hb:3<=b) (hq:L*q<=b-1):10+L*bC q<=bC b:=by
 rw [JK,JK]
 have:L=0∨L=1∨L=2∨L=3:=by omega
 rcases this with rfl|rfl|rfl|rfl<;>omega
theorem Zay {L q b:Nat} (hL:L<=3) (hb:3<=b) (hq:L*q<=b-2):40+L*bC q<=bC b:=by
 rw [JK,JK]
 have:L=0∨L=1∨L=2∨L=3:=by omega
 rcases this with rfl|rfl|rfl|rfl<;>omega
theorem Zau {b:Nat} (hb:3<=b):10+(bC (b / 2)+bC (b / 2))<=bC b:=by rw [JK,JK];omega
theorem Z1u {b:Nat} (hb:3<=b):40+bC (b-2)<=bC b:=by rw [JK,JK];omega
theorem Np (b:Nat):4<=bS b:=by rw [JL];omega
theorem Nn (b:Nat):40<=bC b:=by rw [JK];omega
theorem Qe (L b:Nat):L*(b / L)<=b:=Nat.mul_div_le b L
theorem R0 {k L C:Nat} (h:k<L):(k+1)*C=k*C+C/\(k+1)*C<=L*C:=⟨by rw [Qt,Nat.one_mul],QJ C h⟩
theorem Dz {ds:List Zg} {d x:Int} {m k:Nat} (h:(Y1 ds d)[k]? = some x):Q8 ds 8 d m (1+k)=m+(ZX ds x).length:=by
 rw [Q8,Z8 om,Ze rfl,Z8 om,Vh (i:=((1+k:Nat):Int)-1) (by rw [show (((1+k:Nat):Int)-1).toNat=k by omega];exact h)]
section
variable {g:Wd} {m:Nat}
theorem GE.var {z:Int} {q:Nat} (hz:0<=z/\z<m) (hm:m<=2000) (hq:1<=q):GE g m q (.mk 12 z []):=⟨Z57 hz hm,by simpa [Z2.sz,XB] using hq⟩
theorem GE.list {ys:List Z2} {L s:Nat} (h:∀e∈ys,GE g m s e) (hl:ys.length=L):XB ys<=L*s:=by rw [<-hl];exact FI fun e he=>(h e he).2
theorem GE.node {op num:Int} {ys:List Z2} {L s q:Nat} (ho:0<=op/\op<=11/\op≠7/\op≠8) (hc:op=9->0<=num/\num<g.funcs.length) (hn:-2000<=num/\num<=2000) (h:∀e∈ys,GE g m s e) (hl:ys.length=L) (hL:L<=3) (hq:1+L*s<=q):GE g m q (.mk op num ys):=by
 have:=GE.list h hl
 exact ⟨Ce ho hc hn om fun e he=>(h e he).1,by rw [Z2.sz];omega⟩
theorem GE.if_ {num:Int} {ys:List Z2} {s q:Nat} (hn:-2000<=num/\num<=2000) (h:∀e∈ys,GE g m s e) (hl:ys.length=3) (hq:1+3*s<=q):GE g m q (.mk 7 num ys):=by
 have:=GE.list h hl
 exact ⟨O5 hn hl fun e he=>(h e he).1,by rw [Z2.sz];omega⟩
theorem GE.let_ {a b:Z2} {s q:Nat} (ha:GE g m s a) (hb:GE g (m+1) s b) (hq:1+(s+s)<=q):GE g m q (.mk 13 0 [a,b]):=by
 refine ⟨O6 om ha.1 hb.1,?_⟩
 have h1:=ha.2
 have h2:=hb.2
 simp only [Z2.sz,XB];omega
theorem GE.two {op num:Int} {a b:Z2} {s1 s2 q:Nat} (ho:0<=op/\op<=11/\op≠7/\op≠8/\op≠9) (hn:-2000<=num/\num<=2000) (ha:GE g m s1 a) (hb:GE g m s2 b) (hq:1+(s1+s2)<=q):GE g m q (.mk op num [a,b]):=by
 refine ⟨Ce om (fun h=>by omega) hn (by simp) fun e he=>?_,?_⟩
 ·rcases YF.1 he with rfl|he
  ·exact ha.1
  ·rw [Xx.1 he];exact hb.1
 ·have h1:=ha.2
  have h2:=hb.2
  simp only [Z2.sz,XB];omega
theorem GE.match_ {d:Int} {e:Z2} {ys:List Z2} {L s q:Nat} (hd:-2000<=d/\d<=2000) (he:GE g m 4 e) (hw:QT g.decls g.funcs.length (Q8 g.decls 8 d m) 1 ys) (hs:∀e∈ys,e.sz<=s) (hl:ys.length=L) (hL:L=(Y1 g.decls d).length) (h3:L<=3) (hq:5+L*s<=q):GE g m q (.mk 8 d (e::ys)):=by
 refine ⟨Ip hd om om he.1 hw,?_⟩
 have h1:=FI hs
 rw [hl] at h1
 have h2:=he.2
 rw [Z2.sz,XB];omega
end
def NL (s:Nat) (left w:Int):Prop:=((s:Int)<=left/\w=left-s)∨(left<s/\w=-1)
end Go.Abs
namespace Go.Abs
theorem Cq {L b p pp M:Nat} (hL:L<=3) (hb:3<=b) (h:pp<=p+8) (hp:p+(bC b-1)<=M):pp+L*bC ((b-1) / L)<=M:=by
 have:=AK hL hb (Qe L (b-1))
 omega
end Go.Abs
end
namespace Go.Abs
theorem Z5e (a b:Z2):XB [a,b]=a.sz+b.sz:=by simp only [XB];omega
theorem FH (a b c:Z2):XB [a,b,c]=a.sz+b.sz+c.sz:=by simp only [XB];omega
theorem DV:bS 3=20/\bS 4=30/\bS 12=110/\bS 16=150/\bS 18=170/\bC 3=200/\bC 4=300/\bC 16=1500:=by decide
theorem Fd {b:Nat} (h:b<=20):bS b<=190/\bC b<=1900/\(b<=2->bS b<=10):=by rw [JL,JK];omega
section
variable {g:Wd} {m:Nat}
theorem SE.ofs {op num:Int} {ys:List Z2} {q:Nat} (ho:0<=op/\op<=11/\op≠7/\op≠8/\op≠9) (hn:-2000<=num/\num<=2000) (hl:ys.length<=4) (hy:∀e∈ys,∃s,SE g s e) (hq:1+XB ys<=q):SE g q (.mk op num ys):=
 ⟨fun m=>Ce om (fun h=>by omega) hn hl fun e he=>let ⟨_,h⟩:=hy e he;h.1 m,by rw [Z2.sz];exact hq⟩
theorem SE.nil {op num:Int} {q:Nat} (ho:0<=op/\op<=11/\op≠7/\op≠8/\op≠9) (hn:-2000<=num/\num<=2000) (hq:1<=q):SE g q (.mk op num []):=
 SE.ofs ho hn (by simp) (fun e he=>by cases he) (by simpa [XB] using hq)
theorem SE.two {op num:Int} {a b:Z2} {s1 s2 q:Nat} (ho:0<=op/\op<=11/\op≠7/\op≠8/\op≠9) (hn:-2000<=num/\num<=2000) (ha:SE g s1 a) (hb:SE g s2 b) (hq:1+(s1+s2)<=q):SE g q (.mk op num [a,b]):=by
 refine SE.ofs ho hn (by simp) (fun e he=>?_) ?_
 ·rcases YF.1 he with rfl|he
  ·exact ⟨_,ha⟩
  ·rw [Xx.1 he];exact ⟨_,hb⟩
 ·have h1:=ha.2
  have h2:=hb.2
  rw [Z5e];omega
theorem SE.three {op num:Int} {a b c:Z2} {s1 s2 s3 q:Nat} (ho:0<=op/\op<=11/\op≠7/\op≠8/\op≠9) (hn:-2000<=num/\num<=2000) (ha:SE g s1 a) (hb:SE g s2 b) (hc:SE g s3 c) (hq:1+(s1+s2+s3)<=q):SE g q (.mk op num [a,b,c]):=by
 refine SE.ofs ho hn (by simp) (fun e he=>?_) ?_
 ·rcases YF.1 he with rfl|he
  ·exact ⟨_,ha⟩
  ·rcases YF.1 he with rfl|he
   ·exact ⟨_,hb⟩
   ·rw [Xx.1 he];exact ⟨_,hc⟩
 ·have h1:=ha.2
  have h2:=hb.2
  have h3:=hc.2
  rw [FH];omega
theorem GE.int {z:Int} {q:Nat} (hz:-2000<=z/\z<=2000) (hq:1<=q):GE g m q (.mk 0 z []):=(SE.int (g:=g) (q:=q) hz hq).ge (X5 _)
theorem GE.three {op num:Int} {a b c:Z2} {s1 s2 s3 q:Nat} (ho:0<=op/\op<=11/\op≠8/\op≠9) (hn:-2000<=num/\num<=2000) (ha:GE g m s1 a) (hb:GE g m s2 b) (hc:GE g m s3 c) (hq:1+(s1+s2+s3)<=q):GE g m q (.mk op num [a,b,c]):=by
 have hk:∀e∈[a,b,c],eW g.decls g.funcs.length m e:=fun e he=>by
  rcases YF.1 he with rfl|he
  ·exact ha.1
  ·rcases YF.1 he with rfl|he
   ·exact hb.1
   ·rw [Xx.1 he];exact hc.1
 refine ⟨?_,?_⟩
 ·by_cases h7:op=7
  ·subst h7;exact O5 hn rfl hk
  ·exact Ce om (fun h=>by omega) hn (by simp) hk
 ·have h1:=ha.2
  have h2:=hb.2
  have h3:=hc.2
  rw [Z2.sz,FH];omega
theorem GE.one {op num:Int} {a:Z2} {s1 q:Nat} (ho:0<=op/\op<=11/\op≠7/\op≠8/\op≠9) (hn:-2000<=num/\num<=2000) (ha:GE g m s1 a) (hq:1+s1<=q):GE g m q (.mk op num [a]):=by
 refine ⟨Ce om (fun h=>by omega) hn (by simp) fun e he=>?_,?_⟩
 ·rw [Xx.1 he];exact ha.1
 ·have h1:=ha.2
  simp only [Z2.sz,XB];omega
theorem GE.letS {a b:Z2} {s1 s2 q:Nat} (ha:GE g m s1 a) (hb:GE g (m+1) s2 b) (hq:1+(s1+s2)<=q):GE g m q (.mk 13 0 [a,b]):=by
 refine ⟨O6 om ha.1 hb.1,?_⟩
 have h1:=ha.2
 have h2:=hb.2
 simp only [Z2.sz,XB];omega
theorem GE.matchL (hg:GP g) {e a b:Z2} {s1 s2 s3 q:Nat} (he:GE g m s1 e) (ha:GE g m s2 a) (hb:GE g (m+2) s3 b) (hq:1+(s1+s2+s3)<=q):GE g m q (.mk 8 1 [e,a,b]):=by
 have hl:=hg.decls.low
 refine ⟨Ip om (by simp) (by rw [hl.2.1];rfl) he.1 ⟨?_,?_,True.intro⟩,?_⟩
 ·rw [Dz (k:=0) (x:=0) (by rw [hl.2.1];rfl),hl.2.2.2.2.1];exact ha.1
 ·rw [Dz (k:=1) (x:=1) (by rw [hl.2.1];rfl),hl.2.2.2.2.2.1];exact hb.1
 ·have h1:=he.2
  have h2:=ha.2
  have h3:=hb.2
  rw [Z2.sz,FH];omega
theorem GE.matchT (hg:GP g) {e a b:Z2} {s1 s2 s3 q:Nat} (he:GE g m s1 e) (ha:GE g m s2 a) (hb:GE g (m+3) s3 b) (hq:1+(s1+s2+s3)<=q):GE g m q (.mk 8 3 [e,a,b]):=by
 have hl:=hg.decls.low
 refine ⟨Ip om (by simp) (by rw [hl.2.2.2.1];rfl) he.1 ⟨?_,?_,True.intro⟩,?_⟩
 ·rw [Dz (k:=0) (x:=2) (by rw [hl.2.2.2.1];rfl),hl.2.2.2.2.2.2.1];exact ha.1
 ·rw [Dz (k:=1) (x:=3) (by rw [hl.2.2.2.1];rfl),hl.2.2.2.2.2.2.2];exact hb.1
 ·have h1:=he.2
  have h2:=ha.2
  have h3:=hb.2
  rw [Z2.sz,FH];omega
theorem HM {α:Type} {p:α->Prop} {a:α} (h:p a):∀x∈[a],p x:=fun x hx=>by rw [Xx.1 hx];exact h
end
structure HC (g:Wd):Prop where
 gp:GP g
 body:∀f∈g.funcs,eW g.decls g.funcs.length f.params.length f.body/\f.body.sz<=30
structure GL (ds:List Zg) (k j:Nat) (rq:List Func):Prop where
 len:rq.length=4
 sigs:∀f∈rq,TB f
 zero:∀f,rq[0]? = some f->f.params.length=0
 body:∀i f,j<=i->i<k->rq[i]? = some f->eW ds k f.params.length f.body/\f.body.sz<=30
theorem GL.gp {ds:List Zg} {k j:Nat} {rq:List Func} (h:GL ds k j rq) (hd:GD ds) (hk:1<=k/\k<=4):GP ⟨ds,rq.take k⟩:=
 ⟨hd,by show 1<=(rq.take k).length/\_;rw [WH,h.len];omega,fun f hf=>h.sigs f (TO hf)⟩
theorem GL.len_take {ds:List Zg} {k j:Nat} {rq:List Func} (h:GL ds k j rq) (hk:k<=4):(rq.take k).length=k:=by rw [WH,h.len];omega
theorem GL.set {ds:List Zg} {k j:Nat} {rq:List Func} {f:Func} {e:Z2} (h:GL ds k j rq) (hj:1<=j) (hf:rq[j-1]? = some f) (he:eW ds k f.params.length e/\e.sz<=30):GL ds k (j-1) (rq.set (j-1) ⟨f.params,f.result,e⟩):=by
 have hl:=(Xi.1 hf).1
 refine ⟨by rw [UD];exact h.len,fun x hx=>?_,fun x hx=>?_,fun i x h1 h2 hx=>?_⟩
 ·rcases List.mem_or_eq_of_mem_set hx with hx|rfl
  ·exact h.sigs x hx
  ·exact h.sigs f (ZY hf)
 ·rw [List.getElem?_set] at hx
  split at hx
  ·rename_i h0
   cases hx
   exact h.zero f (by rw [<-h0];exact hf)
  ·exact h.zero x hx
 ·rw [List.getElem?_set] at hx
  split at hx
  ·cases hx
   exact he
  ·exact h.body i x om h2 hx
theorem GL.done {ds:List Zg} {k:Nat} {rq:List Func} (h:GL ds k 0 rq) (hd:GD ds) (hk:1<=k/\k<=4):HC ⟨ds,rq.take k⟩:=by
 refine ⟨h.gp hd hk,fun f hf=>?_⟩
 show eW ds (rq.take k).length _ _/\_
 rw [h.len_take hk.2]
 obtain ⟨i,hi⟩:=MP hf
 have hi2:i<(rq.take k).length:=(Xi.1 hi).1
 rw [h.len_take hk.2] at hi2
 rw [List.getElem?_take_of_lt hi2] at hi
 exact h.body i f om hi2 hi
theorem Md {l:List Func} {f:Func} {k:Nat} (h:l[k]? = some f) (hl:l.all (fun f=>decide ((f.params,f.result)∈JG))=true):TB f:=show (f.params,f.result)∈JG from of_decide_eq_true (JC.1 hl f (ZY h))
theorem GL.start {ds:List Zg} {k:Nat} {e:Z2} {a b c:Func} (ha:TB a) (hb:TB b) (hc:TB c):GL ds k k [⟨[],0,e⟩,a,b,c]:=by
 refine ⟨rfl,fun f hf=>?_,fun f hf=>?_,fun i f h1 h2=>by omega⟩
 ·rcases YF.1 hf with rfl|hf
  ·exact List.Mem.head _
  ·rcases YF.1 hf with rfl|hf
   ·exact ha
   ·rcases YF.1 hf with rfl|hf
    ·exact hb
    ·rw [Xx.1 hf];exact hc
 ·cases hf;rfl
theorem Zbb {l:LI} {k:Nat} {a b:Nat} (h:(k:Int)∈l) (hl:l.all (fun x=>decide ((a:Int)<=x/\x<=b))=true):a<=k/\k<=b:=by
 have:=of_decide_eq_true (JC.1 hl _ h)
 omega
mutual
def K8 (p:Int->Prop):Z5->Prop
 | .mk op _ _ _ kids=>p op/\K7 p kids
def K7 (p:Int->Prop):List Z7->Prop
 | []=>True
 | b::r=>Vv p b/\K7 p r
def Q3 (p:Int->Prop):List Z5->Prop
 | []=>True
 | s::r=>K8 p s/\Q3 p r
def Vv (p:Int->Prop):Z7->Prop
 | .mk steps _=>Q3 p steps
end
section
variable {p q:Int->Prop}
theorem EB (s:Z5):K8 p s↔p s.op/\K7 p s.kids:=by cases s;rw [K8];rfl
theorem GG (b:Z7):Vv p b↔Q3 p b.steps:=by cases b;rw [Vv];rfl
theorem Ds:∀{xs:List Z7},K7 p xs↔∀b∈xs,Vv p b
 | []=>by simp [K7]
 | b::r=>by rw [K7,Ds];simp
theorem Ct:∀{xs:List Z5},Q3 p xs↔∀b∈xs,K8 p b
 | []=>by simp [Q3]
 | b::r=>by rw [Q3,Ct];simp
theorem GH {xs ys:List Z5}:Q3 p (xs++ys)↔Q3 p xs/\Q3 p ys:=by simp only [Ct,X6];exact ⟨fun h=>⟨fun b hb=>h b (.inl hb),fun b hb=>h b (.inr hb)⟩,fun h b hb=>hb.elim (h.1 b) (h.2 b)⟩
theorem Ri {xs:List Z7} {b:Z7} (h:K7 p xs) (hb:Vv p b):K7 p (xs++[b]):=Ds.2 (XF (Ds.1 h) hb)
theorem GI {xs:List Z5} {b:Z5} (h:Q3 p xs) (hb:K8 p b):Q3 p (xs++[b]):=Ct.2 (XF (Ct.1 h) hb)
end
def WV (op:Int):Prop:=op<=11
def VH (op:Int):Prop:=op<=15
end Go.Abs
section
namespace Go.Abs
structure LW (ds:List Zg) (nf q:Nat) (e:Z2) (ys:List Z5) (v:Int):Prop where
 fs:Tp ds nf q ys
 v:0<=v/\v<(q+X1 ys:Nat)
 sz:Y9 ys<=6*e.sz
 op:Q3 WV ys
theorem LW.dn {ds:List Zg} {nf q:Nat} {e:Z2} {ys:List Z5} {v:Int} (h:LW ds nf q e ys v):X1 ys<=6*e.sz/\ys.length<=6*e.sz:=by
 have h1:=Bf ys
 have h2:=J9 ys
 have h3:=h.sz
 omega
structure LB (ds:List Zg) (nf q:Nat) (e:Z2) (b:Z7):Prop where
 fb:fB ds nf q b
 sz:b.sz<=1+6*e.sz
 op:Vv WV b
section
variable {ds:List Zg} {nf q:Nat}
theorem DX:∀xs ys:List Z7,Xa (xs++ys)=Xa xs+Xa ys
 | [],ys=>by simp [Xa]
 | x::r,ys=>by rw [QI,Xa,Xa,DX r];omega
theorem LW.block {e:Z2} {ys:List Z5} {v:Int} (h:LW ds nf q e ys v):LB ds nf q e ⟨ys,v⟩:=
 ⟨by rw [fB];exact ⟨h.fs,h.v⟩,by rw [Z7.sz];have:=h.sz;omega,by rw [Vv];exact h.op⟩
theorem LW.var {e:Z2} {v:Int} (hv:0<=v/\v<q):LW ds nf q e [] v:=⟨True.intro,by simpa [X1] using hv,by simp [Y9],True.intro⟩
theorem LW.let_ {e a b:Z2} {ys zs:List Z5} {v1 v2:Int} (ha:LW ds nf q a ys v1) (hb:LW ds nf (q+X1 ys) b zs v2) (he:a.sz+b.sz<e.sz):LW ds nf q e (ys++zs) v2:=by
 refine ⟨D6.2 ⟨ha.fs,hb.fs⟩,by rw [Jq,<-B1];exact hb.v,?_,GH.2 ⟨ha.op,hb.op⟩⟩
 have h1:=ha.sz
 have h2:=hb.sz
 rw [TN];omega
theorem E2 {ys:List Z5} {s:Z5} (h:YH s.op=false):X1 (ys++[s])=X1 ys+1:=by
 rw [Jq]
 simp [X1,h]
theorem LW.node {e:Z2} {ys:List Z5} {as1:LI} (ho:0<=e.op/\e.op<=11/\e.op≠7/\e.op≠8) (hc:e.op=9->0<=e.num/\e.num<nf) (hn:-2000<=e.num/\e.num<=2000) (hf:Tp ds nf q ys) (ha:∀a∈as1,0<=a/\a<(q+X1 ys:Nat)) (hl:as1.length<=4) (hs:Y9 ys<=6*XB e.kids) (hop:Q3 WV ys) :
  LW ds nf q e (ys++[⟨e.op,e.num,0,as1,[]⟩]) ((q+X1 ys:Nat):Int):=by
 have hcb:YH e.op=false:=by simp [YH];omega
 refine ⟨FK hf ?_,?_,?_,GI hop (by rw [K8];exact ⟨by show e.op<=11;omega,True.intro⟩)⟩
 ·rw [fS]
  exact ⟨.inl ⟨by omega,by omega⟩,ha,fun h=>by omega,fun h=>by omega,fun h=>by omega,fun h=>by omega,hc,hn,by omega,hl,fun _=>rfl,True.intro⟩
 ·rw [E2 (show YH (Z5.mk e.op e.num 0 as1 []).op=false from hcb)];omega
 ·rw [TN,e.sz_eq]
  simp only [Y9,Z5.sz,Xa]
  omega
theorem LW.branch {e:Z2} {ys:List Z5} {v:Int} {bs:List Z7} {s0 sr:Nat} (ho:e.op=7∨e.op=8) (h7:e.op=7->bs.length=2) (h8:e.op=8->bs.length=(Y1 ds e.num).length) (hn:-2000<=e.num/\e.num<=2000) (hf:Tp ds nf q ys) (hv:0<=v/\v<(q+X1 ys:Nat))
  (hb:TR ds nf (UY ds e.op e.num (q+X1 ys)) 0 bs) (hl:bs.length<=3) (h0:Y9 ys<=6*s0) (h1:Xa bs<=bs.length+6*sr) (hs:s0+sr<=XB e.kids) (hop:Q3 WV ys) (hob:K7 WV bs):LW ds nf q e (ys++[⟨e.op,e.num,0,[v],bs⟩]) ((q+X1 ys:Nat):Int):=by
 have hcb:YH e.op=false:=by simp [YH];omega
 refine ⟨FK hf ?_,?_,?_,GI hop (by rw [K8];exact ⟨by show e.op<=11;omega,hob⟩)⟩
 ·rw [fS]
  exact ⟨.inl ⟨by omega,by omega⟩,fun a ha=>by rw [Xx.1 ha];exact hv,fun h=>by omega,h7,h8,fun _=>⟨v,rfl⟩,fun h=>by omega,hn,by omega,by simp,fun h=>by omega,hb⟩
 ·rw [E2 (show YH (Z5.mk e.op e.num 0 [v] bs).op=false from hcb)];omega
 ·rw [TN,e.sz_eq]
  simp only [Y9,Z5.sz,YS,Xv]
  omega
theorem Sc {ds:List Zg} {op num:Int} {m k:Nat} (h:op=13):Q8 ds op num m k=m+k:=Ze h
theorem Zdh {ds:List Zg} {op num:Int} {m:Nat} (h:op≠13):Q8 ds op num m 0=m:=by simp [Q8,h]
theorem Sd {ds:List Zg} {op num:Int} {m k:Nat} (h:op≠13/\op≠8):Q8 ds op num m k=m:=by simp [Q8,h.1,h.2]
theorem Zdi {ds:List Zg} {op num x:Int} {m k j:Nat} (h:op=8) (hk:k=j+1) (hx:(Y1 ds num)[j]? = some x):Q8 ds op num m k=m+(ZX ds x).length:=by
 subst h;subst hk;rw [Nat.add_comm j 1];exact Dz hx
theorem M8 {ds:List Zg} {op num x:Int} {m j:Nat} (h:op=8) (hx:(Y1 ds num)[j]? = some x):UY ds op num m j=m+(ZX ds x).length:=by
 rw [UY,Ze h,Vh (i:=(j:Int)) (by simpa using hx)]
theorem M9 {ds:List Zg} {op num:Int} {m j:Nat} (h:op≠8):UY ds op num m j=m:=Z8 h
theorem Bj {xs:List Z2} {k:Nat} {e:Z2} (h:xs[k]? = some e):XB (xs.take (k+1))=XB (xs.take k)+e.sz:=by rw [Vc h,E5,XB,XB];rfl
theorem At {xs:List Z2} (k:Nat):XB (xs.take k)<=XB xs:=by
 have h:=Yr XB (Uu k xs)
 rw [E5] at h;omega
theorem Od {xs:List Z2} {a b:Z2} (ha:xs[0]? = some a) (hb:xs[1]? = some b):a.sz+b.sz<=XB xs:=by
 have h1:XB (xs.take 1)=XB (xs.take 0)+a.sz:=Bj ha
 have h2:XB (xs.take 2)=XB (xs.take 1)+b.sz:=Bj hb
 have h3:=At (xs:=xs) 2
 omega
theorem EW {us:LI} {v:Int} {d:Nat} (hu:∀a∈us,0<=a/\a<(q:Int)) (hv:0<=v/\v<(q+d:Nat)):∀a∈us++[v],0<=a/\a<((q+d:Nat):Int):=
 XF (fun a ha=>by have:=hu a ha;omega) hv
theorem Hm {us:LI} {d:Nat} (hu:∀a∈us,0<=a/\a<(q:Int)):∀a∈us,0<=a/\a<((q+d:Nat):Int):=fun a ha=>by have:=hu a ha;omega
theorem Zgk {us ns:LI} {d mf:Nat} (hu:∀a∈us,0<=a/\a<(q:Int)) (hn:∀i∈ns,((q+d:Nat):Int)<=i/\i<((q+d:Nat):Int)+mf):∀a∈us++ns,0<=a/\a<((q+d+mf:Nat):Int):=fun a ha=>by
 rcases X6.1 ha with h|h
 ·have:=hu a h;omega
 ·have:=hn a h;omega
theorem Fi:∀bs:List Z7,bs.length<=Xa bs
 | []=>X5 _
 | b::r=>by have:=Fi r;have:=b.sz_pos;rw [Xa,YS];omega
end
end Go.Abs
namespace Go.Abs
structure RF (ds:List Zg) (nf q:Nat) (p:Int->Prop) (r:Yb):Prop where
 sig:(r.params,r.result)∈JG
 lent:r.lent.length<=3/\∀i∈r.lent,0<=i/\i<r.params.length
 body:fB ds nf r.params.length r.body/\r.body.sz<=q
 op:Vv p r.body
structure FO (n:Zi) (q:Nat) (p:Int->Prop):Prop where
 fn:FN n q
 op:∀r∈n.routines,Vv p r.body
theorem FO.rf {n:Zi} {q:Nat} {p:Int->Prop} (h:FO n q p) {r:Yb} (hr:r∈n.routines):RF n.decls n.routines.length q p r:=⟨h.fn.sigs r hr,h.fn.lent r hr,h.fn.body r hr,h.op r hr⟩
theorem FO.all {n:Zi} {q:Nat} {p:Int->Prop} (hd:GD n.decls) (hl:1<=n.routines.length/\n.routines.length<=4) (h:∀r∈n.routines,RF n.decls n.routines.length q p r):FO n q p:=
 ⟨⟨hd,hl,fun r hr=>(h r hr).sig,fun r hr=>(h r hr).lent,fun r hr=>(h r hr).body⟩,fun r hr=>(h r hr).op⟩
structure RN (ds:List Zg) (nf:Nat) (r:Yb):Prop where
 sig:(r.params,r.result)∈JG
 lent:r.lent=[]
 body:fB ds nf r.params.length r.body/\r.body.sz<=181
 op:Vv WV r.body
theorem RN.all {n:Zi} {q:Nat} (hd:GD n.decls) (hl:1<=n.routines.length/\n.routines.length<=4) (h:∀r∈n.routines,RN n.decls n.routines.length r) (hq:181<=q):FO n q WV:=
 FO.all hd hl fun r hr=>⟨(h r hr).sig,by rw [(h r hr).lent];exact ⟨by simp,fun i hi=>by cases hi⟩,⟨(h r hr).body.1,VQ (h r hr).body.2 hq⟩,(h r hr).op⟩
end Go.Abs
namespace Go.Abs
theorem RN.of {ds:List Zg} {nf:Nat} {ps:LI} {rt:Int} {b:Z7} {e:Z2} (hs:(ps,rt)∈JG) (h:LB ds nf ps.length e b) (he:e.sz<=30):RN ds nf ⟨ps,[],rt,Z7.mk b.steps b.result⟩:=by
 have e1:Z7.mk b.steps b.result=b:=by cases b;rfl
 rw [e1]
 exact ⟨hs,rfl,⟨h.fb,by have:=h.sz;show b.sz<=181;omega⟩,h.op⟩
end Go.Abs
end
namespace Go.Abs
theorem Mp:∀{xs:List Z5} {s:Z5},s∈xs->s.sz<=Y9 xs
 | [],s,h=>by cases h
 | x::r,s,h=>by
  rw [Y9]
  rcases YF.1 h with rfl|h
  ·omega
  ·have:=Mp h;omega
theorem HT:∀{xs:List Z7} {b:Z7},b∈xs->b.sz<=Xa xs
 | [],b,h=>by cases h
 | x::r,b,h=>by
  rw [Xa]
  rcases YF.1 h with rfl|h
  ·omega
  ·have:=HT h;omega
structure LC (n:Zi) (k:Nat) (xs:List LI):Prop where
 len:xs.length=k
 ok:∀(i:Nat) (l:LI),xs[i]? = some l->l.length<=3/\∀r,n.routines[i]? = some r->∀v∈l,0<=v/\v<(r.params.length:Int)
theorem LC.nil {n:Zi}:LC n 0 []:=⟨rfl,fun i l h=>by simp at h⟩
theorem LC.snoc {n:Zi} {k:Nat} {xs:List LI} {l:LI} (h:LC n k xs) (hl:l.length<=3) (hv:∀r,n.routines[k]? = some r->∀v∈l,0<=v/\v<(r.params.length:Int)):LC n (k+1) (xs++[l]):=by
 refine ⟨by rw [Yx,h.len];rfl,fun i l' hi=>?_⟩
 by_cases hk:i<xs.length
 ·rw [CF hk] at hi
  exact h.ok i l' hi
 ·rw [CG om] at hi
  have h0:i-xs.length=0:=by
   cases e:i-xs.length with
   | zero=>rfl
   | succ q=>rw [e] at hi;simp at hi
  rw [h0] at hi
  cases hi
  have e:i=k:=by have:=h.len;omega
  subst e
  exact ⟨hl,hv⟩
def Ur:LI->Int->LI
 | [],y=>[y]
 | x::r,y=>if x>y then y::x::r else if x=y then x::r else x::Ur r y
def Ql (d:Bool) (xs:LI) (y:Int):LI:=if d=true then xs else Ur xs y
theorem Gh {xs:LI} {y:Int}:Ql true xs y=xs:=rfl
theorem Gg {xs:LI} {y:Int}:Ql false xs y=Ur xs y:=rfl
theorem Pd {xs acc r:LI} {y x:Int} {k:Nat} {d:Bool} (hx:xs[k]? = some x) (hd:d=true) (h:acc++Ql d (xs.drop k) y=r):(acc++[x])++Ql d (xs.drop (k+1)) y=r:=by
 subst hd
 rw [Gh,Ya hx] at h
 rw [Gh,<-h];simp
theorem Z9d {xs acc r:LI} {y x:Int} {k:Nat} {d:Bool} (hx:xs[k]? = some x) (hd:¬d=true) (hl:¬x>=y) (h:acc++Ql d (xs.drop k) y=r):(acc++[x])++Ql d (xs.drop (k+1)) y=r:=by
 have hd:=Jk.2 hd
 subst hd
 rw [Gg,Ya hx,Ur,Z8 om,Z8 om] at h
 rw [Gg,<-h];simp
theorem Z9e {xs acc r:LI} {y x:Int} {k:Nat} {d:Bool} (hx:xs[k]? = some x) (hd:¬d=true) (hl:x>y) (h:acc++Ql d (xs.drop k) y=r):((acc++[y])++[x])++Ql true (xs.drop (k+1)) y=r:=by
 have hd:=Jk.2 hd
 subst hd
 rw [Gg,Ya hx,Ur,Ze hl] at h
 rw [Gh,<-h];simp
theorem Z9f {xs acc r:LI} {y x:Int} {k:Nat} {d:Bool} (hx:xs[k]? = some x) (hd:¬d=true) (hl:x=y) (h:acc++Ql d (xs.drop k) y=r):(acc++[x])++Ql true (xs.drop (k+1)) y=r:=by
 have hd:=Jk.2 hd
 subst hd
 rw [Gg,Ya hx,Ur,Z8 om,Ze hl] at h
 rw [Gh,<-h];simp
theorem Z9c {xs acc acc2 r:LI} {y x:Int} {k:Nat} {d d2:Bool} (hx:xs[k]? = some x) (h:acc++Ql d (xs.drop k) y=r)
  (hc:(acc2=acc/\d2=d/\(d=true∨¬x>=y))∨(acc2=acc++[y]/\d2=true/\¬d=true/\x>y)∨(acc2=acc/\d2=true/\¬d=true/\x=y)):(acc2++[x])++Ql d2 (xs.drop (k+1)) y=r:=by
 rcases hc with ⟨rfl,rfl,h3⟩|⟨rfl,rfl,h3,h4⟩|⟨rfl,rfl,h3,h4⟩
 ·rcases h3 with h3|h3
  ·exact Pd hx h3 h
  ·by_cases q:d2=true
   ·exact Pd hx q h
   ·exact Z9d hx q h3 h
 ·exact Z9e hx h3 h4 h
 ·exact Z9f hx h3 h4 h
theorem Z9b {xs acc r:LI} {y:Int} {k:Nat} {d:Bool} (hk:xs.length<=k) (h:acc++Ql d (xs.drop k) y=r):(if d=true then acc else acc++[y])=r:=by
 rw [Xn hk] at h
 by_cases q:d=true
 ·rw [Ql,Ze q,A6] at h;rw [Ze q];exact h
 ·rw [Ql,Z8 q,Ur] at h;rw [Z8 q];exact h
theorem Dh:∀(xs:LI) (y:Int),(Ur xs y).length<=xs.length+1
 | [],y=>X5 _
 | x::r,y=>by
  have:=Dh r y
  rw [Ur]
  split
  ·simp
  ·split
   ·simp
   ·simp only [YS];omega
theorem Em:∀{xs:LI} {y z:Int},z∈Ur xs y↔z∈xs∨z=y
 | [],y,z=>by simp [Ur]
 | x::r,y,z=>by
  rw [Ur]
  split
  ·simp only [YF];exact ⟨fun h=>h.elim .inr .inl,fun h=>h.elim .inr .inl⟩
  ·split
   ·rename_i h;subst h;simp only [YF];exact ⟨fun h=>.inl h,fun h=>h.elim id .inl⟩
   ·simp only [YF,Em (xs:=r)];exact ⟨fun h=>by rcases h with h|h|h<;>simp [h],fun h=>by rcases h with (h|h)|h<;>simp [h]⟩
def C0 (xs:LI):Prop:=xs.Pairwise (·<·)
theorem Pc:∀{xs:LI} {y:Int},C0 xs->C0 (Ur xs y)
 | [],y,_=>by simp [Ur,C0]
 | x::r,y,h=>by
  obtain ⟨h1,h2⟩:=WU.1 h
  rw [Ur]
  split
  ·rename_i q
   refine WU.2 ⟨fun z hz=>?_,h⟩
   rcases YF.1 hz with rfl|hz
   ·omega
   ·have:=h1 z hz;omega
  ·split
   ·exact h
   ·refine WU.2 ⟨fun z hz=>?_,Pc h2⟩
    rcases Em.1 hz with hz|rfl
    ·exact h1 z hz
    ·omega
def Q5:LI->Int->LI
 | [],_=>[]
 | x::r,y=>if x=y then Q5 r y else x::Q5 r y
theorem ED:∀(xs:LI) (y:Int),(Q5 xs y).length<=xs.length
 | [],y=>X5 _
 | x::r,y=>by
  have:=ED r y
  rw [Q5]
  split
  ·rw [YS];omega
  ·rw [YS,YS];omega
theorem Dt:∀{xs:LI} {y z:Int},z∈Q5 xs y->z∈xs
 | [],y,z,h=>by rw [Q5] at h;exact h
 | x::r,y,z,h=>by
  rw [Q5] at h
  split at h
  ·exact XE _ (Dt h)
  ·rcases YF.1 h with rfl|h
   ·exact Xl ..
   ·exact XE _ (Dt h)
theorem Zby {xs acc r:LI} {y x:Int} {k:Nat} (hx:xs[k]? = some x) (h:acc++Q5 (xs.drop k) y=r):(if x≠y then acc++[x] else acc)++Q5 (xs.drop (k+1)) y=r:=by
 rw [Ya hx,Q5] at h
 by_cases q:x=y
 ·rw [Ze q] at h;rw [Z8 (fun z=>z q)];exact h
 ·rw [Z8 q] at h;rw [Ze q,<-h];simp
theorem Zbx {xs acc r:LI} {y:Int} {k:Nat} (hk:xs.length<=k) (h:acc++Q5 (xs.drop k) y=r):acc=r:=by
 rw [Xn hk,Q5,A6] at h;exact h
def T1 (n:Int) (xs:LI) (a:Int):LI:=if 0<=a/\a<n then Ur xs a else xs
def QG (n:Int):LI->LI->LI
 | [],xs=>xs
 | a::r,xs=>QG n r (T1 n xs a)
mutual
def JA (n:Int):Z5->LI->LI
 | .mk op _ _ args kids,xs=>if YH op=true then xs else Je n kids (QG n args xs)
def Je (n:Int):List Z7->LI->LI
 | [],xs=>xs
 | b::r,xs=>Je n r (Te n b xs)
def Tf (n:Int):List Z5->LI->LI
 | [],xs=>xs
 | s::r,xs=>Tf n r (JA n s xs)
def Te (n:Int):Z7->LI->LI
 | .mk steps result,xs=>T1 n (Tf n steps xs) result
end
section
variable {n:Int}
theorem Z0p (s:Z5) (xs:LI):JA n s xs=if YH s.op=true then xs else Je n s.kids (QG n s.args xs):=by cases s;rw [JA];rfl
theorem Z0n (b:Z7) (xs:LI):Te n b xs=T1 n (Tf n b.steps xs) b.result:=by cases b;rw [Te];rfl
theorem Hl (xs:LI) (a:Int):(T1 n xs a).length<=xs.length+1:=by
 rw [T1];split
 ·exact Dh xs a
 ·omega
theorem Z0m:∀(as1 xs:LI),(QG n as1 xs).length<=xs.length+as1.length
 | [],xs=>X5 _
 | a::r,xs=>by
  have h1:=Z0m r (T1 n xs a)
  have h2:=Hl (n:=n) xs a
  rw [QG,YS];omega
mutual
theorem Z0q:∀(s:Z5) (xs:LI),(JA n s xs).length<=xs.length+s.sz
 | .mk op num into args kids,xs=>by
  have h1:=Z0o kids (QG n args xs)
  have h2:=Z0m (n:=n) args xs
  rw [JA,Z5.sz];split<;>omega
theorem Z0o:∀(bs:List Z7) (xs:LI),(Je n bs xs).length<=xs.length+Xa bs
 | [],xs=>X5 _
 | b::r,xs=>by
  have h1:=Z0o r (Te n b xs)
  have h2:=Hk b xs
  rw [Je,Xa];omega
theorem MH:∀(bs:List Z5) (xs:LI),(Tf n bs xs).length<=xs.length+Y9 bs
 | [],xs=>X5 _
 | b::r,xs=>by
  have h1:=MH r (JA n b xs)
  have h2:=Z0q b xs
  rw [Tf,Y9];omega
theorem Hk:∀(b:Z7) (xs:LI),(Te n b xs).length<=xs.length+b.sz
 | .mk steps result,xs=>by
  have h1:=MH steps xs
  have h2:=Hl (n:=n) (Tf n steps xs) result
  rw [Te,Z7.sz];omega
end
theorem Zgf {as1 ys r:LI} {k:Nat} {a:Int} (h:as1[k]? = some a) (ha:QG n (as1.drop k) ys=r):QG n (as1.drop (k+1)) (T1 n ys a)=r:=by
 rw [Ya h,QG] at ha;exact ha
theorem Zgh {bs:List Z7} {ys r:LI} {k:Nat} {b:Z7} (h:bs[k]? = some b) (ha:Je n (bs.drop k) ys=r):Je n (bs.drop (k+1)) (Te n b ys)=r:=by
 rw [Ya h,Je] at ha;exact ha
theorem Zgj {bs:List Z5} {ys r:LI} {k:Nat} {b:Z5} (h:bs[k]? = some b) (ha:Tf n (bs.drop k) ys=r):Tf n (bs.drop (k+1)) (JA n b ys)=r:=by
 rw [Ya h,Tf] at ha;exact ha
theorem Zge {as1 ys r:LI} {k:Nat} (h:as1.length<=k) (ha:QG n (as1.drop k) ys=r):ys=r:=by rw [Xn h,QG] at ha;exact ha
theorem Zgg {bs:List Z7} {ys r:LI} {k:Nat} (h:bs.length<=k) (ha:Je n (bs.drop k) ys=r):ys=r:=by rw [Xn h,Je] at ha;exact ha
theorem Zgi {bs:List Z5} {ys r:LI} {k:Nat} (h:bs.length<=k) (ha:Tf n (bs.drop k) ys=r):ys=r:=by rw [Xn h,Tf] at ha;exact ha
end
theorem MS {s:Z5} (h:Cn s):∃a,s.args=[a]:=⟨gI s.args 0,by have:=Yr Z5.args h;exact this⟩
section
variable {xs:LI} {v:Int} {lo hi:Nat}
end
section
variable {m:Int} {xs du dr:List Z5} {lf:LI} {d:Bool} {k:Nat} {s:Z5} {W:List Z5 × List Z5 × LI}
end
def YY:List Z5->Nat
 | []=>0
 | s::r=>if YH s.op=true then YY r+1 else 0
def We (op x:Int):List Z5->Int->Int
 | [],_=>-1
 | s::r,k=>if s.op=op/\gI s.args 0=x then k else We op x r (k+1)
def Ku (many:Nat) (s:Z5):Prop:=(s.op=6/\s.into=0)/\s.args.length=many
instance (many:Nat) (s:Z5):Decidable (Ku many s):=by unfold Ku;infer_instance
def Wz (many:Nat):List Z5->Int->Int
 | [],_=>-1
 | s::r,k=>if Ku many s then k else Wz many r (k+1)
def Bm (xs:List Z5) (i:Int):Z5:=xs[i.toNat]?.getD (Zz 0 0)
def Qx (v:Int) (s:Z5):Z5:=.mk s.op s.num v s.args s.kids
def VC (xs:List Z5) (x:Int):Int:=We 16 x (xs.take (YY xs)) 0
def WO (xs:List Z5) (many:Nat):Int:=Wz many (xs.drop (YY xs)) (YY xs)
def Ut (xs:List Z5) (x:Int) (many:Nat):List Z5:=
 if VC xs x<0∨WO xs many<0 then xs else (xs.set (VC xs x).toNat (Zz 17 x)).set (WO xs many).toNat (Qx (1+x) (Bm xs (WO xs many)))
def Ug (b:Z7) (x:Int) (many:Nat):Z7:=.mk (Ut b.steps x many) b.result
mutual
def Qo (ds:List Zg) (kept:LI):Z5->Z5
 | .mk op num into args kids=>.mk op num into args (UJ ds kept op num args kids 0)
def UJ (ds:List Zg) (kept:LI) (op num:Int) (args:LI):List Z7->Nat->List Z7
 | [],_=>[]
 | b::r,k=>(if op=8/\¬gI args 0∈kept then Ug (WG ds (if VC b.steps (gI args 0)<0∨WO b.steps (Ta ds num k).length<0 then kept else gI args 0::kept) b) (gI args 0) (Ta ds num k).length else WG ds kept b)::UJ ds kept op num args r (k+1)
def UX (ds:List Zg) (kept:LI):List Z5->List Z5
 | []=>[]
 | s::r=>Qo ds kept s::UX ds kept r
def WG (ds:List Zg) (kept:LI):Z7->Z7
 | .mk steps result=>.mk (UX ds kept steps) result
end
def Gm (ds:List Zg) (kept:LI) (num:Int) (args:LI) (k:Nat) (b:Z7):LI:=if VC b.steps (gI args 0)<0∨WO b.steps (Ta ds num k).length<0 then kept else gI args 0::kept
def Q7 (ds:List Zg) (kept:LI) (op num:Int) (args:LI) (k:Nat) (b:Z7):Z7:=if op=8/\¬gI args 0∈kept then Ug (WG ds (Gm ds kept num args k b) b) (gI args 0) (Ta ds num k).length else WG ds kept b
theorem BE (ds:List Zg) (kept:LI) (s:Z5):Qo ds kept s=.mk s.op s.num s.into s.args (UJ ds kept s.op s.num s.args s.kids 0):=by cases s;rw [Qo];rfl
theorem GQ (ds:List Zg) (kept:LI) (b:Z7):WG ds kept b=.mk (UX ds kept b.steps) b.result:=by cases b;rw [WG];rfl
theorem GS (ds:List Zg) (kept:LI):∀xs:List Z5,UX ds kept xs=xs.map (Qo ds kept)
 | []=>rfl
 | s::r=>by rw [UX,GS ds kept r];rfl
section
variable {ds:List Zg} {kept:LI}
theorem Zd4 {xs acc r:List Z5} {k:Nat} {s:Z5} (h:xs[k]? = some s) (ha:acc++UX ds kept (xs.drop k)=r) :
  (acc++[.mk s.op s.num s.into s.args (UJ ds kept s.op s.num s.args s.kids 0)])++UX ds kept (xs.drop (k+1))=r:=by
 rw [Ya h,UX,BE] at ha
 rw [<-ha];simp
theorem Zd3 {xs acc r:List Z5} {k:Nat} (h:xs.length<=k) (ha:acc++UX ds kept (xs.drop k)=r):acc=r:=by
 rw [Xn h,UX,A6] at ha;exact ha
theorem Zcy {op num:Int} {args:LI} {bs acc r:List Z7} {k:Nat} {b:Z7} (h:bs[k]? = some b) (ha:acc++UJ ds kept op num args (bs.drop k) k=r) :
  (acc++[Q7 ds kept op num args k b])++UJ ds kept op num args (bs.drop (k+1)) (k+1)=r:=by
 rw [Ya h,UJ] at ha
 rw [<-ha,Q7,Gm];simp
theorem Zcx {op num:Int} {args:LI} {bs acc r:List Z7} {k j:Nat} (h:bs.length<=k) (ha:acc++UJ ds kept op num args (bs.drop k) j=r):acc=r:=by
 rw [Xn h,UJ,A6] at ha;exact ha
end
section
variable {ds:List Zg}
mutual
theorem Zd1:∀(s:Z5) {K K':LI},(∀z,z∈K↔z∈K')->Qo ds K s=Qo ds K' s
 | .mk op num into args kids,K,K',h=>by rw [Qo,Qo,S2 kids h]
theorem S2:∀(bs:List Z7) {K K':LI} {op num:Int} {args:LI} {k:Nat},(∀z,z∈K↔z∈K')->UJ ds K op num args bs k=UJ ds K' op num args bs k
 | [],_,_,_,_,_,_,_=>by rw [UJ,UJ]
 | b::r,K,K',op,num,args,k,h=>by
  have h1:=S2 r (op:=op) (num:=num) (args:=args) (k:=k+1) h
  have h2:=M1 b h
  have h3:∀z,z∈(gI args 0::K)↔z∈(gI args 0::K'):=fun z=>by rw [YF,YF,h z]
  have h4:=M1 b h3
  rw [UJ,UJ,h1,h2]
  congr 1
  by_cases hq:op=8/\¬gI args 0∈K
  ·have hq':op=8/\¬gI args 0∈K':=⟨hq.1,fun z=>hq.2 ((h _).2 z)⟩
   rw [Ze hq,Ze hq']
   congr 1
   split
   ·exact h2
   ·exact h4
  ·have hq':¬(op=8/\¬gI args 0∈K'):=fun z=>hq ⟨z.1,fun y=>z.2 ((h _).1 y)⟩
   rw [Z8 hq,Z8 hq']
theorem S4:∀(xs:List Z5) {K K':LI},(∀z,z∈K↔z∈K')->UX ds K xs=UX ds K' xs
 | [],_,_,_=>by rw [UX,UX]
 | s::r,K,K',h=>by rw [UX,UX,Zd1 s h,S4 r h]
theorem M1:∀(b:Z7) {K K':LI},(∀z,z∈K↔z∈K')->WG ds K b=WG ds K' b
 | .mk steps result,K,K',h=>by rw [WG,WG,S4 steps h]
end
end
theorem Er:∀xs:List Z5,YY xs<=xs.length
 | []=>X5 _
 | s::r=>by have:=Er r;rw [YY];split<;>simp<;>omega
section
variable {f:Z5->Z5} (hop:∀s,(f s).op=s.op) (hin:∀s,(f s).into=s.into) (har:∀s,(f s).args=s.args)
include hop
theorem Li:∀xs:List Z5,YY (xs.map f)=YY xs
 | []=>rfl
 | s::r=>by rw [UE,YY,YY,hop,Li r]
include har
theorem Nj {op x:Int}:∀(xs:List Z5) (k:Int),We op x (xs.map f) k=We op x xs k
 | [],_=>rfl
 | s::r,k=>by rw [UE,We,We,hop,har,Nj r]
theorem Zbr (xs:List Z5) (x:Int):VC (xs.map f) x=VC xs x:=by rw [VC,Li hop,<-List.map_take,Nj hop har,VC]
include hin
theorem NP {many:Nat}:∀(xs:List Z5) (k:Int),Wz many (xs.map f) k=Wz many xs k
 | [],_=>rfl
 | s::r,k=>by
  have e:Ku many (f s)↔Ku many s:=by rw [Ku,Ku,hop,hin,har]
  rw [UE,Wz,Wz,NP r]
  by_cases h:Ku many s
  ·rw [Ze h,Ze (e.2 h)]
  ·rw [Z8 h,Z8 (fun z=>h (e.1 z))]
theorem Z3j (xs:List Z5) (many:Nat):WO (xs.map f) many=WO xs many:=by rw [WO,Li hop,<-List.map_drop,NP hop hin har,WO]
end
theorem Ni {op x:Int}:∀{xs:List Z5} {k:Int},¬We op x xs k<0->0<=k->k<=We op x xs k/\We op x xs k<k+xs.length/\∃s,xs[(We op x xs k-k).toNat]? = some s/\s.op=op/\gI s.args 0=x
 | [],k,h,_=>by simp [We] at h
 | s::r,k,h,hk=>by
  rw [We] at h ⊢
  split
  ·rename_i q
   refine ⟨Int.le_refl _,by rw [YS];omega,s,?_,q⟩
   rw [Int.sub_self];rfl
  ·rename_i q
   rw [Z8 q] at h
   obtain ⟨h1,h2,t,h3,h4⟩:=Ni (xs:=r) (k:=k+1) h om
   refine ⟨by omega,by rw [YS];omega,t,?_,h4⟩
   rw [show (We op x r (k+1)-k).toNat=(We op x r (k+1)-(k+1)).toNat+1 by omega,List.getElem?_cons_succ]
   exact h3
theorem NO {many:Nat}:∀{xs:List Z5} {k:Int},¬Wz many xs k<0->0<=k->k<=Wz many xs k/\Wz many xs k<k+xs.length/\∃s,xs[(Wz many xs k-k).toNat]? = some s/\Ku many s
 | [],k,h,_=>by simp [Wz] at h
 | s::r,k,h,hk=>by
  rw [Wz] at h ⊢
  split
  ·rename_i q
   refine ⟨Int.le_refl _,by rw [YS];omega,s,?_,q⟩
   rw [Int.sub_self];rfl
  ·rename_i q
   rw [Z8 q] at h
   obtain ⟨h1,h2,t,h3,h4⟩:=NO (xs:=r) (k:=k+1) h om
   refine ⟨by omega,by rw [YS];omega,t,?_,h4⟩
   rw [show (Wz many r (k+1)-k).toNat=(Wz many r (k+1)-(k+1)).toNat+1 by omega,List.getElem?_cons_succ]
   exact h3
theorem EC {xs:List Z5} {x:Int} (h:¬VC xs x<0):0<=VC xs x/\VC xs x<YY xs/\∃s,xs[(VC xs x).toNat]? = some s/\s.op=16/\gI s.args 0=x:=by
 obtain ⟨h1,h2,s,h3,h4⟩:=Ni h (Int.le_refl 0)
 have hl:=Er xs
 rw [WH,VG hl] at h2
 have h2':VC xs x<YY xs:=by unfold VC;omega
 have h1':0<=VC xs x:=h1
 refine ⟨h1',h2',s,?_,h4⟩
 rw [Int.sub_zero] at h3
 have h5:(VC xs x).toNat<YY xs:=by omega
 rwa [show We 16 x (xs.take (YY xs)) 0=VC xs x from rfl,List.getElem?_take_of_lt h5] at h3
theorem Al {xs:List Z5} {many:Nat} (h:¬WO xs many<0):(YY xs:Int)<=WO xs many/\WO xs many<xs.length/\∃s,xs[(WO xs many).toNat]? = some s/\Ku many s/\Bm xs (WO xs many)=s:=by
 obtain ⟨h1,h2,s,h3,h4⟩:=NO h om
 have hl:=Er xs
 rw [A7] at h2
 have h1':(YY xs:Int)<=WO xs many:=h1
 have h2':WO xs many<xs.length:=by unfold WO;omega
 rw [BR,show Wz many (xs.drop (YY xs)) (YY xs)=WO xs many from rfl,show YY xs+(WO xs many-(YY xs:Int)).toNat=(WO xs many).toNat by omega] at h3
 exact ⟨h1',h2',s,h3,h4,by rw [Bm,h3];rfl⟩
theorem Zcf {f:Z5->Z5} (hop:∀s,(f s).op=s.op) (hin:∀s,(f s).into=s.into) (har:∀s,(f s).args=s.args) (hc:∀x,f (Zz 17 x)=Zz 17 x) (hi:∀v s,f (Qx v s)=Qx v (f s)) (xs:List Z5) (x:Int) (many:Nat) :
  Ut (xs.map f) x many=(Ut xs x many).map f:=by
 rw [Ut,Zbr hop har,Z3j hop hin har,Ut]
 split
 ·rfl
 ·rename_i hq
  obtain ⟨_,_,s,h3,_,h5⟩:=Al (fun z=>hq (.inr z))
  have e:Bm (xs.map f) (WO xs many)=f (Bm xs (WO xs many)):=by rw [Bm,Tg,h3,h5];rfl
  rw [e,List.map_set,List.map_set,hc,hi]
theorem S0 {ds:List Zg} {K:LI} {b:Z7} {x:Int} {many:Nat}:WG ds K (Ug b x many)=Ug (WG ds K b) x many:=by
 rw [Ug,WG,Ug,GQ,GS,GS]
 show Z7.mk _ _=Z7.mk (Ut (b.steps.map (Qo ds K)) x many) b.result
 rw [Zcf (f:=Qo ds K) (fun s=>by rw [BE];rfl) (fun s=>by rw [BE];rfl) (fun s=>by rw [BE];rfl) (fun x=>by rw [BE];rfl) (fun v s=>by rw [BE,BE];rfl)]
structure CB (c:LI) (q:Int):Prop where
 len:c.length=4
 bd:∀x∈c,0<=x/\x<=q
mutual
def Cs:Z5->Prop
 | .mk op _ _ _ kids=>op≠17/\Bu kids
def Bu:List Z7->Prop
 | []=>True
 | b::r=>K6 b/\Bu r
def Bv:List Z5->Prop
 | []=>True
 | s::r=>Cs s/\Bv r
def K6:Z7->Prop
 | .mk steps _=>Bv steps
end
theorem Dr (s:Z5):Cs s↔s.op≠17/\Bu s.kids:=by cases s;rw [Cs];rfl
theorem Ex (b:Z7):K6 b↔Bv b.steps:=by cases b;rw [K6];rfl
theorem Ey:∀{xs:List Z5},Bv xs↔∀s∈xs,Cs s
 | []=>by simp [Bv]
 | s::r=>by rw [Bv,Ey];simp
theorem Gz:∀{xs:List Z7},Bu xs↔∀s∈xs,K6 s
 | []=>by simp [Bu]
 | s::r=>by rw [Bu,Gz];simp
theorem Ha:∀{xs:List Z5} {i:Nat} {s:Z5} (t:Z5),xs[i]? = some s->Y9 (xs.set i t)+s.sz=Y9 xs+t.sz
 | [],_,_,_,h=>by simp at h
 | x::r,0,s,t,h=>by simp at h;subst h;rw [List.set_cons_zero,Y9,Y9];omega
 | x::r,i+1,s,t,h=>by
  have:=Ha (xs:=r) (i:=i) t (by simpa using h)
  rw [List.set_cons_succ,Y9,Y9];omega
theorem Z9l (v:Int) (s:Z5):(Qx v s).sz=s.sz:=by cases s;rw [Qx,Z5.sz,Z5.sz];rfl
theorem NQ {xs:List Z5} {x:Int} {many:Nat} (h:¬(VC xs x<0∨WO xs many<0)):(VC xs x).toNat<(WO xs many).toNat:=by
 obtain ⟨h1,h2,_⟩:=EC (fun z=>h (.inl z))
 obtain ⟨h3,h4,_⟩:=Al (fun z=>h (.inr z))
 omega
theorem GO {xs:List Z5} {x:Int} {many:Nat} (h:¬(VC xs x<0∨WO xs many<0)) {t:Z5} {s:Z5} (hs:xs[(WO xs many).toNat]? = some s):(xs.set (VC xs x).toNat t)[(WO xs many).toNat]? = some s:=by
 have:=NQ h
 rw [List.getElem?_set_ne om];exact hs
theorem RP {xs:List Z5} {x:Int} {many:Nat} (h:∀s∈xs,YH s.op=true->2<=s.sz):Y9 (Ut xs x many)<=Y9 xs:=by
 rw [Ut]
 split
 ·exact X5 _
 ·rename_i hq
  obtain ⟨_,_,s,h3,h4,_⟩:=EC (fun z=>hq (.inl z))
  obtain ⟨_,_,t,h5,_,h6⟩:=Al (fun z=>hq (.inr z))
  have e1:=Ha (Zz 17 x) h3
  have e2:=Ha (Qx (1+x) (Bm xs (WO xs many))) (GO hq (t:=Zz 17 x) h5)
  have h7:=h s (ZY h3) (by rw [h4];rfl)
  rw [Fp] at e1
  rw [Z9l,h6] at e2
  rw [h6]
  omega
section
variable {ds:List Zg}
theorem Zh1 {v:Int} {s:Z5} (h:wS ds s) (h6:s.op=6):wS ds (Qx v s):=by
 obtain ⟨h1,h2,h3,h4⟩:=(JB s).1 h
 exact (JB _).2 ⟨h1,fun hc=>absurd hc (by show ¬YH s.op=true;rw [h6];decide),h3,h4⟩
theorem Zgy {v:Int}:wS ds (Zz 17 v):=(JB _).2 ⟨rfl,fun _=>⟨rfl,rfl,rfl,v,rfl⟩,fun e=>absurd e (show (17:Int)≠8 by decide),True.intro⟩
theorem Zgx {xs:List Z5} {x:Int} {many:Nat} (h:Kh ds xs):Kh ds (Ut xs x many):=by
 rw [Ut]
 split
 ·exact h
 ·rename_i hq
  obtain ⟨_,_,t,h5,h7,h6⟩:=Al (fun z=>hq (.inr z))
  rw [AW]
  intro s hs
  rcases List.mem_or_eq_of_mem_set hs with hs|rfl
  ·rcases List.mem_or_eq_of_mem_set hs with hs|rfl
   ·exact AW.1 h s hs
   ·exact Zgy
  ·rw [h6];exact Zh1 (AW.1 h t (ZY h5)) h7.1.1
theorem Zgw {b:Z7} {x:Int} {many:Nat} (h:wB ds b):wB ds (Ug b x many):=by rw [Ug,Jj];exact Zgx ((Jj b).1 h)
variable (hd:Wu ds)
mutual
theorem Zd2:∀(s:Z5) {K:LI},wS ds s->(Qo ds K s).sz<=s.sz
 | .mk op num into args kids,K,h=>by
  have:=S3 kids (K:=K) (op:=op) (num:=num) (args:=args) (k:=0) h.2.2.2
  rw [Qo,Z5.sz,Z5.sz];omega
theorem S3:∀(bs:List Z7) {K:LI} {op num:Int} {args:LI} {k:Nat},AU ds bs->Xa (UJ ds K op num args bs k)<=Xa bs
 | [],_,_,_,_,_,_=>X5 _
 | b::r,K,op,num,args,k,h=>by
  have h2:=S3 r (K:=K) (op:=op) (num:=num) (args:=args) (k:=k+1) h.2
  have key:∀K2:LI,(Ug (WG ds K2 b) (gI args 0) (Ta ds num k).length).sz<=b.sz:=fun K2=>by
   have h1:=M3 b (K:=K2) h.1
   have h3:=RP (xs:=(WG ds K2 b).steps) (x:=gI args 0) (many:=(Ta ds num k).length) (by
    rw [GQ,GS]
    intro s hs hc
    obtain ⟨t,ht,rfl⟩:=Wc.1 hs
    rw [BE] at hc ⊢
    obtain ⟨_,_,a,ha⟩:=Hp (AW.1 ((Jj b).1 h.1) t ht) hc
    rw [Z5.sz,ha];simp)
   rw [Ug,Z7.sz]
   rw [Z7.sz_eq] at h1
   omega
  rw [UJ,Xa,Xa]
  split
  ·have:=key (if VC b.steps (gI args 0)<0∨WO b.steps (Ta ds num k).length<0 then K else gI args 0::K)
   omega
  ·have:=M3 b (K:=K) h.1
   omega
theorem S5:∀(xs:List Z5) {K:LI},Kh ds xs->Y9 (UX ds K xs)<=Y9 xs
 | [],_,_=>X5 _
 | s::r,K,h=>by
  have h1:=Zd2 s (K:=K) h.1
  have h2:=S5 r (K:=K) h.2
  rw [UX,Y9,Y9];omega
theorem M3:∀(b:Z7) {K:LI},wB ds b->(WG ds K b).sz<=b.sz
 | .mk steps result,K,h=>by
  have:=S5 steps (K:=K) h
  rw [WG,Z7.sz,Z7.sz];omega
end
end
theorem Lj:∀{xs:List Z5} {i:Nat} {s t:Z5},xs[i]? = some s->YH t.op=YH s.op->YY (xs.set i t)=YY xs
 | [],_,_,_,h,_=>by simp at h
 | x::r,0,s,t,h,e=>by simp at h;subst h;rw [List.set_cons_zero,YY,YY,e]
 | x::r,i+1,s,t,h,e=>by
  rw [List.set_cons_succ,YY,YY,Lj (xs:=r) (i:=i) (by simpa using h) e]
theorem Zag {xs:List Z5} {x:Int} {many:Nat}:YY (Ut xs x many)=YY xs:=by
 rw [Ut]
 split
 ·rfl
 ·rename_i hq
  obtain ⟨_,_,s,h3,h4,_⟩:=EC (fun z=>hq (.inl z))
  obtain ⟨_,_,t,h5,_,h6⟩:=Al (fun z=>hq (.inr z))
  rw [Lj (GO hq (t:=Zz 17 x) h5) (by rw [h6];rfl),Lj h3 (by rw [h4];rfl)]
theorem Nl {op x:Int}:∀{xs:List Z5} {k:Int},(∀s∈xs,s.op≠op)->We op x xs k=-1
 | [],_,_=>rfl
 | s::r,k,h=>by
  rw [We,Z8 (fun z=>h s (Xl ..) z.1)]
  exact Nl fun t ht=>h t (XE _ ht)
theorem Nm {op x:Int}:∀{xs:List Z5} {k:Int},0<=k->(∃s∈xs,s.op=op/\gI s.args 0=x)->0<=We op x xs k
 | [],_,_,h=>by obtain ⟨s,hs,_⟩:=h;cases hs
 | s::r,k,hk,h=>by
  rw [We]
  split
  ·exact hk
  ·rename_i q
   obtain ⟨t,ht,h1⟩:=h
   rcases YF.1 ht with rfl|ht
   ·exact absurd h1 q
   ·exact Nm om ⟨t,ht,h1⟩
theorem Z0d {xs:List Z5} {x:Int} {many:Nat} (hn:Bv xs):0<=We 17 x ((Ut xs x many).take (YY (Ut xs x many))) 0↔¬(VC xs x<0∨WO xs many<0):=by
 rw [Zag]
 constructor
 ·intro h hq
  rw [Ut,Ze hq,Nl (fun s hs=>((Dr s).1 (Ey.1 hn s (TO hs))).1)] at h
  omega
 ·intro hq
  obtain ⟨h1,h2,s,h3,h4,_⟩:=EC (fun z=>hq (.inl z))
  have hap:=NQ hq
  refine Nm (Int.le_refl 0) ⟨Zz 17 x,?_,rfl,rfl⟩
  rw [Ut,Z8 hq]
  refine ZY (i:=(VC xs x).toNat) ?_
  rw [List.getElem?_take_of_lt om,List.getElem?_set_ne om,List.getElem?_set_self (Xi.1 h3).1]
def Bw (b:Z7):Prop:=∀s∈b.steps,Bu s.kids
theorem Cr {b:Z7} (h:K6 b):Bw b:=fun s hs=>((Dr s).1 (Ey.1 ((Ex b).1 h) s hs)).2
theorem Zb6 {b:Z7} {k j:Nat} {s:Z5} {c:Z7} (h:Bw b) (hs:b.steps[k]? = some s) (hc:s.kids[j]? = some c):K6 c:=Gz.1 (h s (ZY hs)) c (ZY hc)
theorem R8 {b:Z7} {x:Int} {many:Nat} (h:K6 b):Bw (Ug b x many):=by
 intro s hs
 have hs:s∈Ut b.steps x many:=hs
 rw [Ut] at hs
 split at hs
 ·exact Cr h s hs
 ·rename_i hq
  obtain ⟨_,_,t,h5,_,h6⟩:=Al (fun z=>hq (.inr z))
  rcases List.mem_or_eq_of_mem_set hs with hs|rfl
  ·rcases List.mem_or_eq_of_mem_set hs with hs|rfl
   ·exact Cr h s hs
   ·exact True.intro
  ·rw [h6];exact Cr h t (ZY h5)
theorem Zce {ds:List Zg} {b:Z7} {x:Int} {many:Nat} (h:wB ds b):(Ug b x many).sz<=b.sz:=by
 have:=RP (xs:=b.steps) (x:=x) (many:=many) fun s hs hc=>by
  have h7:=HA ((Jj b).1 h) s hs hc
  rw [h7,Fp];omega
 rw [Ug,Z7.sz,b.sz_eq];omega
def BD (ds:List Zg) (r:Yb):Yb:=⟨r.params,r.lent,r.result,WG ds [] r.body⟩
def GR (n:Zi):Zi:=⟨n.decls,n.routines.map (BD n.decls)⟩
end Go.Abs
