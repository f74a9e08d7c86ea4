/-
  A part of the proof of FnUnlendUptoSaid (see the last file): no condition.
-/
import Derived.Test.YtjmahledcmocoaaGreatUnlA
import Derived.Test.YtjmahledcmocoaaGreatRows
import Derived.Deep.Slices
import Derived.ChangeArms
set_option linter.all false
set_option linter.unusedVariables false
set_option linter.unusedSimpArgs false
set_option linter.unusedSectionVars false
set_option maxRecDepth 10000
set_option maxHeartbeats 4000000
namespace Go.Abs
theorem KW.mono {w:World} {G G':Ye} {v:Value} {k:Nat} {ls:List AV} (hA:Vu G w w G') (h:KW w G v k ls):KW w G' v k ls:=by
 rcases h with ⟨rfl,h0⟩|⟨g,len,cap,cur,el,rfl,h1,h2,h3,h4,h5⟩
 ·exact .inl ⟨rfl,h0⟩
 ·exact .inr ⟨g,len,cap,cur,el,rfl,h1,h2,h3,h4,h5.mono hA⟩
theorem TI.same {w:World} {G G':Ye} {r:Res} (hA:Vu G w w G') (h:TI w G r):TI w G' r:=by
 cases r with
 | obj b ls=>obtain ⟨cs,e,h1,h2⟩:=h;exact ⟨cs,e,h1,h2.mono hA⟩
 | tail v k=>exact h
 | ge s=>exact h
 | vec v ls=>
  rcases h with ⟨rfl,h0⟩|⟨g,cap,cur,el,rfl,h1,h2,h3,h4⟩
  ·exact .inl ⟨rfl,h0⟩
  ·exact .inr ⟨g,cap,cur,el,rfl,h1,h2,h3,h4.mono hA⟩
 | many ts=>exact h
 | own B m=>exact h
 | row v k ls=>exact h.mono hA
theorem YA.alloc_rrow {w:World} {G:Ye} {h:List Res} (hh:YA w G h) (cs:Array Value) (t:TypeId) {ls:List AV} {len cap k:Nat} (hcap:len<=cap) (Xv:cs.size=cap*k) (hl:ls.length=len*k)
  (hls:YR w G ls (cs.toList.take (len*k))) :
  YA (w.alloc (.cells cs t)) G (.row (.slice (some ⟨w.heap.size,0,none⟩) len cap) k ls::h)/\YY w G h (w.alloc (.cells cs t)) G (.row (.slice (some ⟨w.heap.size,0,none⟩) len cap) k ls::h):=by
 have hA:Vu G w (w.alloc (.cells cs t)) G:=⟨fun b j hg=>CU w _ (hh.lt b j hg),fun _ _ h=>h⟩
 refine hh.alloc (.cells cs t) (h':=[.row (.slice (some ⟨w.heap.size,0,none⟩) len cap) k ls]) (fun _ _ h=>h) (fun _ _ h=>.inl h) ?_ ?_ (CK _ _) ?_
 ·intro r hr
  rw [W2.1 hr]
  exact .inr ⟨_,len,cap,cs,t,rfl,EW w _,hcap,Xv,hl,hls.mono hA⟩
 ·intro r hr b j hf
  rw [W2.1 hr] at hf
  exact hf
 ·intro r hr b j hf hg
  rw [W2.1 hr] at hf
  have:=hh.lt b j hg
  have:b=w.heap.size:=hf
  omega
theorem YA.rwrite {w:World} {G:Ye} {h2:List Res} {g len cap k:Nat} {ls ls':List AV} (hh:YA w G (.row (.slice (some ⟨g,0,none⟩) len cap) k ls::h2)) {cs cs':Array Value} {e:TypeId}
  (hb:w.heap[g]? = some (.cells cs e (0,0))) (Xv:cs'.size=cs.size) (hle:len<=cap) (hcap:cs.size=cap*k) (hl:ls'.length=len*k) (hls:YR w G ls' (cs'.toList.take (len*k))) :
  YA (w.setRow g cs') G (.row (.slice (some ⟨g,0,none⟩) len cap) k ls'::h2) /\
   YY w G (.row (.slice (some ⟨g,0,none⟩) len cap) k ls::h2) (w.setRow g cs') G (.row (.slice (some ⟨g,0,none⟩) len cap) k ls'::h2):=by
 have hmem:Res.row (.slice (some ⟨g,0,none⟩) len cap) k ls∈Res.row (.slice (some ⟨g,0,none⟩) len cap) k ls::h2:=Xh ..
 have hA:Vu G w (w.setRow g cs') G:=⟨fun c j hg=>by
  have hne:c≠g:=fun he=>hh.prot _ hmem c j he hg
  simp [World.cell?,Vt w g c cs' hne],fun _ _ h=>h⟩
 have hpw:=WG.1 hh.apart
 have hother:∀r∈h2,∀c j,r.fp c j->c≠g:=fun r hr c j hf hc=>hpw.1 r hr c j hc hf
 have e1:YY w G [.row (.slice (some ⟨g,0,none⟩) len cap) k ls] (w.setRow g cs') G [.row (.slice (some ⟨g,0,none⟩) len cap) k ls']:=by
  refine ⟨rfl,rfl,rfl,by simp [World.setRow],fun _ _ h=>h,?_,fun _ _ _ h=>.inl h,?_⟩
  ·intro c hc
   by_cases hcb:c=g
   ·subst hcb
    exact .inr ⟨cs,cs',e,(0,0),hb,setRow_heap w c cs cs' e (0,0) hb,Xv,fun j hj=>absurd ⟨_,Xh ..,rfl⟩ hj⟩
   ·exact .inl (Vt w g c cs' hcb)
  ·rintro c j _ ⟨r,hr,hf⟩
   rw [W2.1 hr] at hf
   exact ⟨_,Xh ..,hf⟩
 have e2:YA (w.setRow g cs') G [.row (.slice (some ⟨g,0,none⟩) len cap) k ls']:=by
  refine ⟨fun r hr=>?_,CK _ _,fun r hr c j hf hg=>?_,fun c j hg=>?_⟩
  ·rw [W2.1 hr]
   exact .inr ⟨g,len,cap,cs',e,rfl,setRow_heap w g cs cs' e (0,0) hb,hle,Xv.trans hcap,hl,hls.mono hA⟩
  ·rw [W2.1 hr] at hf
   exact hh.prot _ hmem c j hf hg
  ·have:=hh.lt c j hg
   simpa [World.setRow] using this
 exact YA.frame (h:=[.row (.slice (some ⟨g,0,none⟩) len cap) k ls]) (k:=h2) hh e1 e2
theorem Z94 {w:World} {G:Ye} {h:List Res} {k:Nat} (hh:YA w G h):YA w G (.row (.slice none 0 0) k []::h)/\YY w G h w G (.row (.slice none 0 0) k []::h):=
 ⟨⟨fun r hr=>by
   rcases YH.1 hr with rfl|hr
   ·exact .inl ⟨rfl,rfl⟩
   ·exact hh.ok r hr,WG.2 ⟨fun _ _ _ _ hf=>hf.elim,hh.apart⟩,fun r hr b o hf hg=>by
   rcases YH.1 hr with rfl|hr
   ·exact hf.elim
   ·exact hh.prot r hr b o hf hg,hh.lt⟩,
  ⟨rfl,rfl,rfl,X9 _,fun _ _ h=>h,fun _ _=>.inl rfl,fun _ _ _ h=>.inl h,fun b o _ ⟨r,hr,hf⟩=>by
   rcases YH.1 hr with rfl|hr
   ·exact hf.elim
   ·exact ⟨r,hr,hf⟩⟩⟩
theorem KW.form {w:World} {G:Ye} {v:Value} {k:Nat} {ls:List AV} (h:KW w G v k ls):∃a len cap,v=.slice a len cap/\ls.length=len*k:=by
 rcases h with ⟨rfl,rfl⟩|⟨g,len,cap,cur,e,rfl,_,_,_,h4,_⟩
 ·exact ⟨none,0,0,rfl,by simp⟩
 ·exact ⟨_,len,cap,rfl,h4⟩
theorem BD {w:World} {G:Ye} {v:Value} {k:Nat} {es:List AV} {h2:List Res} (hh:YA w G (.row v k (Zb es)::h2)) (hes:∀y∈es,y.leaves.length=k) (hk:0<k) :
  ∃G',YA w G' (.tail v k::h2)/\YY w G (.row v k (Zb es)::h2) w G' (.tail v k::h2)/\RV w G' (.sl es (some v)) v:=by
 have hpw:=WG.1 hh.apart
 have hfl:=U5 es hes
 rcases hh.ok _ (Xh ..) with ⟨rfl,h0⟩|⟨g,len,cap,cur,e,rfl,h1,h3,h4,h5,h6⟩
 ·have hes0:es=[]:=by
   cases es with
   | nil=>rfl
   | cons y r=>
    have h7:0<(r.length+1)*k:=Nat.mul_pos om hk
    rw [h0,YV] at hfl
    rw [<-hfl] at h7
    simp at h7
  subst hes0
  obtain ⟨k1,k2⟩:=IH (sz:=k) (hh.sub (Af _ _))
  refine ⟨G,k1,⟨rfl,rfl,rfl,X9 _,fun _ _ h=>h,fun _ _=>.inl rfl,fun _ _ _ h=>.inl h,?_⟩,.nil (by simp)⟩
  rintro b o _ ⟨r,hr,hf⟩
  rcases YH.1 hr with rfl|hr
  ·exact hf.elim
  ·exact ⟨r,XC _ hr,hf⟩
 ·have hlen:len=es.length:=Gh hk (h5.symm.trans hfl)
  subst hlen
  let G':Ye:=fun b o=>G b o∨(b=g/\o<es.length*k)
  have hA:Vu G w w G':=⟨fun _ _ _=>rfl,fun _ _ h=>.inl h⟩
  have hmem:Res.row (.slice (some ⟨g,0,none⟩) es.length cap) k (Zb es)∈Res.row (.slice (some ⟨g,0,none⟩) es.length cap) k (Zb es)::h2:=Xh ..
  refine ⟨G',⟨fun r hr=>?_,WG.2 ⟨fun r hr b o f1 f2=>hpw.1 r hr b o f1.1 f2,hpw.2⟩,fun r hr b o hf hg=>?_,fun b o hg=>?_⟩,
   ⟨rfl,rfl,rfl,X9 _,fun _ _ h=>.inl h,fun _ _=>.inl rfl,fun b o _ hg=>hg.imp id fun ⟨e1,_⟩=>⟨_,hmem,e1⟩,?_⟩,?_⟩
  ·rcases YH.1 hr with rfl|hr
   ·exact .inr ⟨g,es.length,cap,cur,e,rfl,h1,h3,h4⟩
   ·exact (hh.ok r (XC _ hr)).same hA
  ·rcases YH.1 hr with rfl|hr2
   ·obtain ⟨hbg,hf2⟩:=hf
    rcases hg with hg|⟨_,hg⟩
    ·exact hh.prot _ hmem b o hbg hg
    ·omega
   ·rcases hg with hg|⟨hbg,_⟩
    ·exact hh.prot r (XC _ hr2) b o hf hg
    ·exact hpw.1 r hr2 b o hbg hf
  ·rcases hg with hg|⟨rfl,_⟩
   ·exact hh.lt b o hg
   ·exact (Uy.1 h1).1
  ·rintro b o _ ⟨r,hr,hf⟩
   rcases YH.1 hr with rfl|hr
   ·exact ⟨_,hmem,hf.1⟩
   ·exact ⟨r,XC _ hr,hf⟩
  ·refine .sl (k:=k) (fun x hx=>by cases hx;rfl) h3 (WR.of_flat es hes (Wi.of_cells (h6.mono hA) fun j u hj=>?_))
   have hjl:j<es.length*k:=by
    have:=(XS.1 hj).1
    have h7:=h6.length
    omega
   rw [QG,Zj hjl] at hj
   refine ⟨?_,.inr ⟨rfl,by omega⟩⟩
   rw [V0,cell_of_row w g j cur e (0,0) h1]
   simpa using hj
section
variable {P:Program} {n:Nat} {ops:Array Oper} {B:Fr->List Res->Prop} {k:Nat} {F:Fr} {h h2:List Res}
theorem FZ {k:Nat}:UJ h (.row (.slice none 0 0) k []::h):=fun _ _ hh=>let ⟨a,b⟩:=Z94 hh;⟨_,a,b⟩
theorem Zbv (j:Nat) {v:Value} {kk m:Nat} {ls:List AV} (hl:Cp P ops F k=some (.val v)) (hj:h[j]? = some (.row v kk ls)) (hm:ls.length=m*kk) (hk:0<kk):XE P (ZB ops k) F h [] (.val (.int .i64 m)):=by
 unfold Cp at hl
 generalize hoo:ZB ops k=o at hl
 obtain ⟨dst,op,type,pos,after,guard⟩:=o
 cases op<;>simp only at hl<;>try (cases hl)
 rename_i c
 obtain ⟨callee,args,tys⟩:=c
 simp only at hl
 split at hl
 ·rename_i x t hargs htys
  split at hl
  ·rename_i el hu
   simp only [Wa] at hl
   intro n w G a hF hh
   have hv:=hF.ev x
   rw [hl] at hv
   have hv:=hv.val_inv
   obtain ⟨ad,len,cap,rfl,hlen⟩:=KW.form (hh.ok _ (Y1 hj))
   have:len=m:=Gh hk (hlen.symm.trans hm)
   subst this
   have e1:args=#[x]:=by rw [<-VZ (xs:=args),hargs]
   have e2:tys=#[t]:=by rw [<-VZ (xs:=tys),htys]
   subst e1;subst e2
   exact ⟨_,.val,fun w' _ _=>by simp [execOp,resolve,invoke,builtin,hv,Builtin.len_,Vy hu,goInt]⟩
  ·cases hl
 ·cases hl
def HW (ops:Array Oper) (F:Fr) (k:Nat):Option (TypeId × AV):=
 match (ZB ops k).op with
 | .load t x=>some (t,F.ev x)
 | _=>none
theorem Zbw (j:Nat) {g len cap kk o:Nat} {ls zs:List AV} {t:TypeId} {y:AV} (hl:HW ops F k=some (t,.val (.pointer (some ⟨g,o,none⟩)))) (hj:h[j]? = some (.row (.slice (some ⟨g,0,none⟩) len cap) kk ls))
  (hz:(ls.drop o).take zs.length=zs) (hy:A1 P t zs=some y):XE P (ZB ops k) F h [g] y:=by
 unfold HW at hl
 generalize hoo:ZB ops k=q at hl
 obtain ⟨dst,op,type,pos,after,guard⟩:=q
 cases op<;>simp only at hl<;>try (cases hl)
 rename_i t' x
 intro n w G a hF hh
 simp only [Wa,Prod.mk.injEq] at hl
 obtain ⟨rfl,hl⟩:=hl
 have hv:=hF.ev x
 rw [hl] at hv
 have hv:=hv.val_inv
 rcases hh.ok _ (Y1 hj) with ⟨h0,_⟩|⟨g',len',cap',cur,e,h0,h1,h2,h3,h4,h5⟩
 ·cases h0
 ·cases h0
  have hc:=(h5.drop o).take zs.length
  rw [hz] at hc
  obtain ⟨v,j1,j2⟩:=FG (P:=P) (b:=g) (o:=o) hy hc
  refine ⟨v,j1,fun w' _ hw=>?_⟩
  have hrow:=hw g (by simp)
  rw [h1] at hrow
  simp only [execOp,hv]
  refine V6 ?_
  simp only [Instr.loadAt,Instr.sureAddr,Sem.run_bind,Sem.run_pure,Result.andThen_ok]
  refine j2 w' fun j u hj=>?_
  rw [cell_of_row w' g (o+j) cur e (0,0) hrow]
  rw [QG] at hj
  split at hj
  ·rw [IV,QG] at hj
   split at hj
   ·simpa using hj
   ·cases hj
  ·cases hj
theorem O1 {K:Fr->List Res->Prop} {g len cap kk:Nat} {ls xs:List AV} {i:Nat} (hs:storeAt P ops F k=some (g,i,xs)) (hlt:i+xs.length<=ls.length)
  (hK:K F (.row (.slice (some ⟨g,0,none⟩) len cap) kk (ls.take i++xs++ls.drop (i+xs.length))::h2)):Wo P n (ZB ops k) F (.row (.slice (some ⟨g,0,none⟩) len cap) kk ls::h2) K:=by
 unfold storeAt at hs
 generalize hoo:ZB ops k=q at hs
 obtain ⟨dst,op,type,pos,after,guard⟩:=q
 cases op<;>simp only at hs<;>try (cases hs)
 rename_i t x z
 split at hs
 ·rename_i b' o' inf hx hi
  split at hs
  ·rename_i hc
   simp only [Xl] at hc
   simp only [Wa,Prod.mk.injEq] at hs
   obtain ⟨rfl,rfl,hz⟩:=hs
   intro Q w G a hF hh
   have hvx:=hF.ev x
   rw [hx] at hvx
   have hvx:=hvx.val_inv
   have hvy:=hF.ev z
   have hcs:=hvy.cells hc.2.1
   rw [hz] at hcs hc
   have hone:=hcs.one_cells hc.2.2
   have Xv:inf.size=xs.length:=Um hc.1
   have hlen:(a.eval z).cells.size=xs.length:=by have:=hcs.length;simpa using this
   rcases hh.ok (.row (.slice (some ⟨b',0,none⟩) len cap) kk ls) (Xh ..) with ⟨h0,_⟩|⟨g',len',cap',cur,e,h0,h1,h2',h3,h4,h5⟩
   ·cases h0
   ·cases h0
    have hlc:len*kk<=cap*kk:=Qk _ h2'
    have hst:=run_storeCells_at P b' o' e (a.eval z).cells.toList 0 cur w h1 (by simp [hlen];omega) hone
    simp only [BM,K1] at hst
    have hr:(execOp a.eval { dst:=none,op:=.store t x z,type:=type,pos:=pos,after:=after,guard:=guard }).run P w =
      .ok .skip (w.setRow b' (cur.toList.take o'++(a.eval z).cells.toList++cur.toList.drop (o'+(a.eval z).cells.size)).toArray):=by
     simp only [execOp,hvx]
     simp [Instr.storeAt,Instr.sureAddr,storeVar,Qb hi,hlen,Xv,hst]
    unfold Oper.wp
    rw [hr]
    have hcl:(a.eval z).cells.toList.length=xs.length:=by simpa using hlen
    obtain ⟨j1,j2⟩:=hh.rwrite (ls':=ls.take o'++xs++ls.drop (o'+xs.length)) (cs':=(cur.toList.take o'++(a.eval z).cells.toList++cur.toList.drop (o'+(a.eval z).cells.size)).toArray) h1
     (by simp [hlen];omega) h2' h3 (by simp;omega) (by
      rw [CN,hlen]
      have e1:(cur.toList.take o'++(a.eval z).cells.toList++cur.toList.drop (o'+xs.length)).take (len*kk) =
        (cur.toList.take (len*kk)).take o'++(a.eval z).cells.toList++(cur.toList.take (len*kk)).drop (o'+xs.length):=by
       have q1:(cur.toList.take o'++(a.eval z).cells.toList).length=o'+xs.length:=by simp [hlen];omega
       rw [List.take_append,q1,Wx om,List.take_take,Vn om,List.drop_take]
      rw [e1]
      exact ((h5.take o').append hcs).append (h5.drop _))
    refine ⟨F,_,G,hK,?_,j1,j2⟩
    have:=hF.mono (j2.agree hh)
    simpa [Act.put] using this
  ·cases hs
 ·cases hs
theorem Z7b {K:Fr->List Res->Prop} {sz:Nat} (hd:Vb n (ZB ops k)=true) (ha:Tb P ops F k=some ([],0,sz))
  (hK:∀g,K (F.put (ZB ops k).dst (.val (.slice (some ⟨g,0,none⟩) 0 0))) (.row (.slice (some ⟨g,0,none⟩) 0 0) sz []::h)):Wo P n (ZB ops k) F h K:=by
 unfold Tb at ha
 generalize hoo:ZB ops k=q at ha hd hK
 obtain ⟨dst,op,type,pos,after,guard⟩:=q
 cases op<;>simp only at ha<;>try (cases ha)
 rename_i t ln parts
 split at ha
 case h_2=>cases ha
 rename_i e ht
 split at ha
 case h_2=>cases ha
 rename_i i hi
 split at ha
 case h_2=>cases ha
 rename_i hc
 simp only [Xl] at hc
 split at ha
 case h_2=>cases ha
 rename_i ls' hf
 simp only [Wa,Prod.mk.injEq] at ha
 obtain ⟨rfl,rfl,Xv⟩:=ha
 intro Q w G a hF hh
 obtain ⟨cs,h1,h2⟩:=FF hF parts ht hi rfl hc.1 hc.2 hf
 have hr:(execOp a.eval { dst:=dst,op:=.buildSlice t 0 parts,type:=type,pos:=pos,after:=after,guard:=guard }).run P w =
   .ok (.value (.slice (some ⟨w.heap.size,0,none⟩) 0 0)) (w.alloc (.cells cs e)):=by
  simp only [execOp]
  exact V6 h2
 unfold Oper.wp
 rw [hr]
 have hlc:=h1.length
 simp only [K1] at hlc
 obtain ⟨j1,j2⟩:=hh.alloc_rrow cs e (ls:=[]) (len:=0) (cap:=0) (k:=sz) (X9 _) (by simpa using hlc) (by simp) (by simpa using YR.nil)
 exact ⟨_,_,G,hK _,(hF.mono (j2.agree hh)).put (UB hd) .val,j1,j2⟩
theorem Z79 {K:Fr->List Res->Prop} {g sz:Nat} {xs:List AV} {hx:Option Value} (hd:Vb n (ZB ops k)=true) (ha:Un P ops F k=some (.val (.slice (some ⟨g,0,none⟩) 0 0),.sl xs hx,sz))
  (hxs:∀y∈xs,y.leaves.length=sz) (hbound:xs.length<=4294967296)
  (hK:∀v:Hd,K (F.put (ZB ops k).dst (.val v.v)) (.row v.v sz (Zb xs)::h2)):Wo P n (ZB ops k) F (.row (.slice (some ⟨g,0,none⟩) 0 0) sz []::h2) K:=by
 unfold Un at ha
 generalize hoo:ZB ops k=o at ha hd hK
 obtain ⟨dst,op,type,pos,after,guard⟩:=o
 cases op<;>simp only at ha<;>try (cases ha)
 rename_i c
 obtain ⟨callee,args,tys⟩:=c
 simp only at ha
 split at ha
 case h_2=>cases ha
 rename_i s x t t' hargs htys
 split at ha
 case h_2=>cases ha
 rename_i e htt ht
 have:=Um htt
 subst this
 split at ha
 case h_2=>cases ha
 rename_i i hinfo
 split at ha
 case h_2=>cases ha
 rename_i z hz
 split at ha
 case h_2=>cases ha
 rename_i hb
 simp only [Xl] at hb
 simp only [Wa,Prod.mk.injEq] at ha
 obtain ⟨h3,h4,hk1⟩:=ha
 have e1:args=#[s,x]:=by rw [<-VZ (xs:=args),hargs]
 have e2:tys=#[t,t]:=by rw [<-VZ (xs:=tys),htys]
 subst e1;subst e2
 have hzs:z.cells.size=sz:=by rw [Um hb.1,hk1]
 have hby:=WQ hb.2
 intro Q w G a hF hh
 have v1:=hF.ev s
 have v2:=hF.ev x
 rw [h3] at v1
 rw [h4] at v2
 have v1:=v1.val_inv
 have v2:=v2.forget
 have finish:∀(v':Hd) w',(Builtin.append_ #[t,t] type #[.slice (some ⟨g,0,none⟩) 0 0,a.eval x]).run P w=.ok v'.v w'->YA w' G (.row v'.v sz (Zb xs)::h2) ->
   YY w G (.row (.slice (some ⟨g,0,none⟩) 0 0) sz []::h2) w' G (.row v'.v sz (Zb xs)::h2) ->
   ({ dst:=dst,op:=.call { callee:=.builtin .append,args:=#[s,x],argTypes:=#[t,t] },type:=type,pos:=pos,after:=after,guard:=guard }:Oper).wp P a w
    (fun a' w'=>∃F' h' G',K F' h'/\FR w' G' n F' a'/\YA w' G' h'/\YY w G (.row (.slice (some ⟨g,0,none⟩) 0 0) sz []::h2) w' G' h') Q:=by
  intro v' w' hr j1 j2
  have hrun:(execOp a.eval { dst:=dst,op:=.call { callee:=.builtin .append,args:=#[s,x],argTypes:=#[t,t] },type:=type,pos:=pos,after:=after,guard:=guard }).run P w=.ok (.value v'.v) w':=by
   simp only [execOp,resolve,invoke,builtin,Sem.run_bind,Sem.run_pure,Result.andThen_ok,BK,VM,B4,v1,hr]
  unfold Oper.wp
  rw [hrun]
  exact ⟨_,_,G,hK v',(hF.mono (j2.agree hh)).put (UB hd) .val,j1,j2⟩
 by_cases hxe:xs=[]
 ·subst hxe
  cases v2q:a.eval x with
  | slice ad' l' c'=>
   rw [v2q] at v2
   cases v2<;>exact finish ⟨some ⟨g,0,none⟩,0,0⟩ _ (by rw [v2q];exact CA ht hinfo (X9 _) w) hh (YY.refl w G _)
  | _=>rw [v2q] at v2;cases v2
 ·generalize hax:a.eval x=ax at v2 finish
  cases v2 with
  | nil _=>exact absurd rfl hxe
  | sl hq hcc hm=>
   rename_i b o' k' c
   have hpos:0<xs.length:=Gf.2 hxe
   have hfm:=hm.flat_mem
   obtain ⟨news,hn,hnc⟩:=hfm.cells
   have hfl:=U5 xs hxs
   have hnl:news.length=xs.length*i.size:=by rw [hn.length,hfl,hk1]
   have hnews:∀j u,news[j]? = some u->w.cell? ((⟨b,o',none⟩:Addr).add j)=some u:=fun j u hj=>by rw [K8];exact (hnc j u hj).1
   have hbb:(0+xs.length)*i.bytes<=140737488355328:=by
    have:=Nat.mul_le_mul hbound hby
    rw [V0]
    omega
   have hr:=run_append_grow (P:=P) w t type e i z ht hinfo hz ⟨g,0,none⟩ 0 0 [] (by simp) (fun j u hj=>by simp at hj) ⟨b,o',none⟩ xs.length c news hnl hnews om om (growslice_fits om hbb)
   simp only [V0] at hr
   have Xa:=grownCap_ge w xs.length 0 e
   obtain ⟨j1,j2⟩:=hh.drew.alloc_rrow ([].toArray++news.toArray++Builtin.zeroCells z.cells (grownCap w xs.length 0 e-xs.length)) e
    (ls:=Zb xs) (len:=xs.length) (cap:=grownCap w xs.length 0 e) (k:=sz) Xa
    (by
     have q2:(grownCap w xs.length 0 e-xs.length)*sz=grownCap w xs.length 0 e*sz-xs.length*sz:=Nat.sub_mul ..
     have q3:xs.length*sz<=grownCap w xs.length 0 e*sz:=Qk _ Xa
     simp only [Array.size_append,CM,size_zeroCells,hzs,Xn,V0,hnl,hk1]
     omega) hfl
    (by
     have q1:([].toArray++news.toArray++Builtin.zeroCells z.cells (grownCap w xs.length 0 e-xs.length)).toList.take (xs.length*sz)=news:=by
      simp only [CI,B5]
      rw [<-hk1,<-hnl]
      exact Ju
     rw [q1]
     exact hn.mono (Ao w G))
   have hs:List.Sublist (.row (.slice (some ⟨w.drew.heap.size,0,none⟩) xs.length (grownCap w xs.length 0 e)) sz (Zb xs)::h2)
     (.row (.slice (some ⟨w.drew.heap.size,0,none⟩) xs.length (grownCap w xs.length 0 e)) sz (Zb xs)::.row (.slice (some ⟨g,0,none⟩) 0 0) sz []::h2):=List.Sublist.cons_cons _ (Af _ _)
   exact finish ⟨some ⟨w.heap.size,0,none⟩,xs.length,grownCap w xs.length 0 e⟩ _ hr (j1.sub hs) ((YY.drew w G _).trans (j2.sub' hs))
theorem Ig {w:World} {G:Ye} {v:Hd} {kk m:Nat} {ls:List AV} (h:KW w G v.v kk ls) (hm:ls.length=m*kk) (hk:0<kk) (h0:0<m):∃g c,v=⟨some ⟨g,0,none⟩,m,c⟩:=by
 obtain ⟨a,l,c⟩:=v
 rcases h with ⟨h1,h2⟩|⟨g,len,cap,cur,e,h1,h2,h3,h4,h5,h6⟩
 ·subst h2
  have:=Nat.mul_pos h0 hk
  rw [Xn] at hm
  omega
 ·cases h1
  have:l=m:=Gh hk (h5.symm.trans hm)
  subst this
  exact ⟨g,c,rfl⟩
theorem Rq (j m:Nat) {v:Hd} {kk:Nat} {ls:List AV} {c:Code} {A:WH} (hj:h[j]? = some (.row v.v kk ls)) (hm:ls.length=m*kk) (hk:0<kk) (h0:0<m)
  (H:∀g c',v=⟨some ⟨g,0,none⟩,m,c'⟩->Yu P n c A F h):Yu P n c A F h:=by
 intro w G a hF hh
 obtain ⟨g,c',e⟩:=Ig (hh.ok _ (Y1 hj)) hm hk h0
 exact H g c' e w G a hF hh
theorem Rp (t j:Nat) {v:Hd} {kk:Nat} {es:List AV} {c:Code} {A:WH} (hF':F.get t=.h v) (hp:W9 [j] h=some [.row v.v kk (Zb es)]) (hes:∀y∈es,y.leaves.length=kk) (hk:0<kk)
  (H:Yu P n c A ((t,.sl es (some v.v))::F) (.tail v.v kk::XA [j] h)):Yu P n c A F h:=by
 intro w G a hF hh
 have hp':=U6 (Vg hp)
 obtain ⟨G',h1,h2',h3⟩:=BD (hh.perm hp') hes hk
 have e:=h2'.perm hp'.symm (TX _)
 have hF2:=hF.mono (e.agree hh)
 have hv:=hF2.get t
 rw [hF'] at hv
 have hv:=hv.val_inv
 refine wp_mono (H w G' a ⟨hF2.defers,hF2.size,fun s=>?_⟩ h1) fun e' a' w' hc=>hc.trans e
 show RV w G' (match Nat.beq t s with|true=>_|false=>Fr.get F s) _
 cases hb:Nat.beq t s with
 | true=>
  have:=Um hb
  subst this
  rw [hv]
  exact h3
 | false=>exact hF2.get s
theorem PR (j i p:Nat) {u v:Value} {kk kv:Nat} {es ls:List AV} (hp:W9 [j,i] h=some [.row u kk (Zb es),.row v kv ls]) (hes:∀y∈es,y.leaves.length=kk) (hk:0<kk) (hl:ls[p]? = some (.val u)) :
  UJ h (.row v kv (ls.set p (.sl es (some u)))::.tail u kk::XA [j,i] h):=by
 intro w G hh
 have hp':=U6 (Vg hp)
 have hh':=hh.perm hp'
 obtain ⟨G',h1,h2',h3⟩:=BD (h2:=.row v kv ls::XA [j,i] h) hh' hes hk
 have e:=h2'.perm hp'.symm (TX _)
 have h1:YA w G' (.tail u kk::.row v kv ls::XA [j,i] h):=h1
 have perm:(Res.tail u kk::.row v kv ls::XA [j,i] h).Perm (.row v kv ls::.tail u kk::XA [j,i] h):=List.Perm.swap ..
 have h4:=h1.perm perm
 have e4:=e.perm (TX _) perm
 have hset:∀{w:World} {G:Ye},RV w G (.sl es (some u)) u->KW w G v kv ls->KW w G v kv (ls.set p (.sl es (some u))):=by
  intro w G hu hr
  rcases hr with ⟨rfl,h0⟩|⟨g,len,cap,cur,el,rfl,k1,k2,k3,k4,k5⟩
  ·exact .inl ⟨rfl,by rw [h0];rfl⟩
  ·refine .inr ⟨g,len,cap,cur,el,rfl,k1,k2,k3,by rw [Tp];exact k4,?_⟩
   obtain ⟨c,c1,c2⟩:=k5.get p _ hl
   have:=c2.val_inv
   subst this
   have h6:=k5.set p hu
   rwa [show (cur.toList.take (len*kv)).set p c=cur.toList.take (len*kv) from by
    apply List.ext_getElem?
    intro q
    rw [List.getElem?_set]
    split
    ·rename_i hq;subst hq;split
     ·exact c1.symm
     ·rename_i hq2;rw [CJ om]
    ·rfl] at h6
 refine ⟨G',⟨fun r hr=>?_,?_,fun r hr=>?_,h4.lt⟩,⟨e4.os,e4.tape,e4.output,e4.size,e4.sub,e4.same,e4.newG,fun b o hb ⟨r,hr,hf⟩=>e4.newfp b o hb ?_⟩⟩
 ·rcases YH.1 hr with rfl|hr
  ·exact hset h3 (h4.ok _ (Xh ..))
  ·exact h4.ok r (XC _ hr)
 ·have:=WG.1 h4.apart
  refine WG.2 ⟨fun r hr b o f1 f2=>this.1 r hr b o ?_ f2,this.2⟩
  cases v with
  | slice a _ _=>cases a with
   | none=>exact f1.elim
   | some a=>exact f1
  | _=>exact f1.elim
 ·rcases YH.1 hr with rfl|hr
  ·intro b o f1 hg
   refine h4.prot (.row v kv ls) (Xh ..) b o ?_ hg
   cases v with
   | slice a _ _=>cases a with
    | none=>exact f1.elim
    | some a=>exact f1
   | _=>exact f1.elim
  ·exact h4.prot r (XC _ hr)
 ·rcases YH.1 hr with rfl|hr
  ·refine ⟨.row v kv ls,Xh ..,?_⟩
   cases v with
   | slice a _ _=>cases a with
    | none=>exact hf.elim
    | some a=>exact hf
   | _=>exact hf.elim
  ·exact ⟨r,XC _ hr,hf⟩
def Qo:List Res->Option (List (Value × Nat))
 | []=>some []
 | .tail v k::r=>(Qo r).map ((v,k)::·)
 | .many ts::r=>(Qo r).map (ts++·)
 | _=>none
theorem Be {b o:Nat}:∀{hs:List Res} {L:List (Value × Nat)},Qo hs=some L->((∃p∈L,DY p.1 p.2 b o)↔WL hs b o)
 | [],L,h=>by cases h;simp [WL]
 | .tail v k::r,L,h=>by
  rw [Qo] at h
  cases hr:Qo r with
  | none=>rw [hr] at h;cases h
  | some L'=>
   rw [hr] at h
   cases h
   have ih:=Be (b:=b) (o:=o) hr
   have ht:Res.fp (.tail v k) b o↔DY v k b o:=by
    cases v with
    | slice a _ _=>cases a<;>exact Iff.rfl
    | _=>exact Iff.rfl
   simp only [WL,YH,exists_eq_or_imp] at ih ⊢
   rw [ht,ih]
 | .many ts::r,L,h=>by
  rw [Qo] at h
  cases hr:Qo r with
  | none=>rw [hr] at h;cases h
  | some L'=>
   rw [hr] at h
   cases h
   have ih:=Be (b:=b) (o:=o) hr
   simp only [WL,YH,exists_eq_or_imp] at ih ⊢
   rw [<-ih]
   simp only [Xb,Res.fp]
   constructor
   ·rintro ⟨p,hp|hp,hf⟩
    ·exact .inl ⟨p,hp,hf⟩
    ·exact .inr ⟨p,hp,hf⟩
   ·rintro (⟨p,hp,hf⟩|⟨p,hp,hf⟩)
    ·exact ⟨p,.inl hp,hf⟩
    ·exact ⟨p,.inr hp,hf⟩
 | .obj _ _::_,_,h=>by cases h
 | .ge _::_,_,h=>by cases h
 | .vec _ _::_,_,h=>by cases h
 | .own _ _::_,_,h=>by cases h
 | .row _ _ _::_,_,h=>by cases h
theorem GF {w:World} {G:Ye}:∀{hs:List Res} {L:List (Value × Nat)},Qo hs=some L->(∀r∈hs,TI w G r)->hs.Pairwise Jy->TI w G (.many L)
 | [],L,h,_,_=>by cases h;exact ⟨by simp,.nil⟩
 | .tail v k::r,L,h,h1,h2=>by
  rw [Qo] at h
  cases hr:Qo r with
  | none=>rw [hr] at h;cases h
  | some L'=>
   rw [hr] at h
   cases h
   have hpw:=WG.1 h2
   obtain ⟨i1,i2⟩:=GF (w:=w) (G:=G) hr (fun q hq=>h1 q (XC _ hq)) hpw.2
   refine ⟨fun p hp=>?_,WG.2 ⟨fun p hp b o f1 f2=>?_,i2⟩⟩
   ·rcases YH.1 hp with rfl|hp
    ·exact h1 (.tail v k) (Xh ..)
    ·exact i1 p hp
   ·obtain ⟨q,hq,hf⟩:=(Be hr).1 ⟨p,hp,f2⟩
    refine hpw.1 q hq b o ?_ hf
    cases v with
    | slice a _ _=>cases a<;>exact f1
    | _=>exact f1
 | .many ts::r,L,h,h1,h2=>by
  rw [Qo] at h
  cases hr:Qo r with
  | none=>rw [hr] at h;cases h
  | some L'=>
   rw [hr] at h
   cases h
   have hpw:=WG.1 h2
   obtain ⟨i1,i2⟩:=GF (w:=w) (G:=G) hr (fun q hq=>h1 q (XC _ hq)) hpw.2
   obtain ⟨t1,t2⟩:=h1 (.many ts) (Xh ..)
   refine ⟨fun p hp=>?_,KV.2 ⟨t2,i2,fun p hp q hq b o f1 f2=>?_⟩⟩
   ·rcases Xb.1 hp with hp|hp
    ·exact t1 p hp
    ·exact i1 p hp
   ·obtain ⟨s,hs,hf⟩:=(Be hr).1 ⟨q,hq,f2⟩
    exact hpw.1 s hs b o ⟨p,hp,f1⟩ hf
 | .obj _ _::_,_,h,_,_=>by cases h
 | .ge _::_,_,h,_,_=>by cases h
 | .vec _ _::_,_,h,_,_=>by cases h
 | .own _ _::_,_,h,_,_=>by cases h
 | .row _ _ _::_,_,h,_,_=>by cases h
theorem Zcd (is:List Nat) {L:List (Value × Nat)} {hs:List Res} (hp:W9 is h=some hs) (hb:Qo hs=some L):UJ h (.many L::XA is h):=by
 intro w G hh
 have hp':=U6 (Vg hp)
 have hh':=hh.perm hp'
 have hpw:=KV.1 hh'.apart
 have hmany:=GF (w:=w) (G:=G) hb (fun r hr=>hh'.ok r (Xb.2 (.inl hr))) hpw.1
 refine ⟨G,⟨fun r hr=>?_,WG.2 ⟨fun r hr b o f1 f2=>?_,hpw.2.1⟩,fun r hr b o hf hg=>?_,hh'.lt⟩,
  ⟨rfl,rfl,rfl,X9 _,fun _ _ h=>h,fun _ _=>.inl rfl,fun _ _ _ h=>.inl h,fun b o _ ⟨r,hr,hf⟩=>?_⟩⟩
 ·rcases YH.1 hr with rfl|hr
  ·exact hmany
  ·exact hh'.ok r (Xb.2 (.inr hr))
 ·exact hh'.cross ((Be hb).1 f1) ⟨r,hr,f2⟩
 ·rcases YH.1 hr with rfl|hr
  ·obtain ⟨q,hq,hf⟩:=(Be hb).1 hf
   exact hh'.prot q (Xb.2 (.inl hq)) b o hf hg
  ·exact hh'.prot r (Xb.2 (.inr hr)) b o hf hg
 ·refine (Ay hp').2 ?_
  rcases YH.1 hr with rfl|hr
  ·exact Jf.2 (.inl ((Be hb).1 hf))
  ·exact Jf.2 (.inr ⟨r,hr,hf⟩)
end
end Go.Abs
section
namespace Go.Abs
structure V1 where
 fields:LI
 fv:Value
structure V2 where
 frm:Int
 to_:Int
 cons:List V1
 cv:Value
mutual
inductive B9 where
 | mk (op num into:Int) (args:LI) (av:Value) (kids:List Ak) (kv:Value)
inductive Ak where
 | mk (steps:List B9) (sv:Value) (result:Int)
end
namespace B9
end B9
namespace Ak
end Ak
structure Ec where
 params:LI
 pv:Value
 lent:LI
 lv:Value
 result:Int
 body:Ak
structure IZ where
 decls:List V2
 dv:Value
 routines:List Ec
 rv:Value
abbrev Ns (c:V1):List AV:=[ZY c.fields c.fv]
abbrev L4 (c:V1):AV:=.agg (Ns c)
def VR (cs:List V1):List AV:=cs.map L4
abbrev DD (xs:List V1) (v:Value):AV:=.sl (VR xs) (some v)
abbrev Nt (d:V2):List AV:=[.i d.frm,.i d.to_,DD d.cons d.cv]
abbrev L5 (d:V2):AV:=.agg (Nt d)
def WY (ds:List V2):List AV:=ds.map L5
abbrev Z6x (xs:List V2) (v:Value):AV:=.sl (WY xs) (some v)
@[simp] theorem Zdq (xs:List V1):(VR xs).length=xs.length:=by simp [VR]
theorem Z0e (xs ys:List V1):VR (xs++ys)=VR xs++VR ys:=by simp [VR]
theorem LU (xs:List V1):∀y∈VR xs,y.leaves.length=1:=by intro y hy;simp only [VR,XH] at hy;obtain ⟨x,_,rfl⟩:=hy;rfl
@[simp] theorem Zdr (xs:List V2):(WY xs).length=xs.length:=by simp [WY]
theorem Z0f (xs ys:List V2):WY (xs++ys)=WY xs++WY ys:=by simp [WY]
theorem LV (xs:List V2):∀y∈WY xs,y.leaves.length=3:=by intro y hy;simp only [WY,XH] at hy;obtain ⟨x,_,rfl⟩:=hy;rfl
def Dl (c:V1):List (Value × Nat):=[(c.fv,1)]
def TO (cs:List V1):List (Value × Nat):=cs.flatMap Dl
def Dm (d:V2):List (Value × Nat):=TO d.cons++[(d.cv,1)]
def Q5 (ds:List V2):List (Value × Nat):=ds.flatMap Dm
mutual
def Do:B9->List (Value × Nat)
 | .mk _ _ _ _ av kids kv=>(av,1)::(Qt kids++[(kv,2)])
def Ch:Ak->List (Value × Nat)
 | .mk steps sv _=>Qu steps++[(sv,5)]
def Qu:List B9->List (Value × Nat)
 | []=>[]
 | s::r=>Do s++Qu r
def Qt:List Ak->List (Value × Nat)
 | []=>[]
 | b::r=>Ch b++Qt r
end
def Dn (r:Ec):List (Value × Nat):=(r.pv,1)::(r.lv,1)::Ch r.body
def JY (rs:List Ec):List (Value × Nat):=rs.flatMap Dn
def ET (n:IZ):List (Value × Nat):=Q5 n.decls++((n.dv,3)::(JY n.routines++[(n.rv,5)]))
theorem Dp:∀(xs:List B9) (ys:List B9),Qu (xs++ys)=Qu xs++Qu ys
 | [],ys=>by simp [Qu]
 | x::r,ys=>by rw [Qj,Qu,Qu,Dp r ys,Ul]
theorem Dk:∀(xs:List Ak) (ys:List Ak),Qt (xs++ys)=Qt xs++Qt ys
 | [],ys=>by simp [Qt]
 | x::r,ys=>by rw [Qj,Qt,Qt,Dk r ys,Ul]
theorem EV:Qu []=[]:=by rw [Qu]
theorem EQ:Qt []=[]:=by rw [Qt]
theorem ER (xs ys:List V1):TO (xs++ys)=TO xs++TO ys:=by simp [TO]
theorem ES (xs ys:List V2):Q5 (xs++ys)=Q5 xs++Q5 ys:=by simp [Q5]
theorem EU (xs ys:List Ec):JY (xs++ys)=JY xs++JY ys:=by simp [JY]
def V1.er (c:V1):Y8:=⟨c.fields⟩
def V2.er (d:V2):Ze:=⟨d.frm,d.to_,d.cons.map V1.er⟩
inductive Tf:List AV->List AV->Prop
 | nil:Tf [] []
 | cons {x y:AV} {xs ys:List AV} (hl:x.leaves.length=y.leaves.length) (h:Vj x.leaves y.leaves) (t:Tf xs ys):Tf (x::xs) (y::ys)
theorem Tf.length:∀{xs ys:List AV},Tf xs ys->xs.length=ys.length
 | _,_,.nil=>rfl
 | _,_,.cons _ _ t=>by simp [t.length]
theorem Tf.els {w:World} {G:Ye} {k b:Nat}:∀{o:Nat} {xs ys:List AV},Tf xs ys->WR w G k b o xs->WR w G k b o ys
 | _,_,_,.nil,_=>.nil
 | _,_,_,.cons hl h t,.cons hk hm r=>.cons (hl▸hk) (h.mem hm) (t.els r)
theorem Zc.els {es es':List AV} (hv:Option Value) (h:Tf es es'):Zc (.sl es hv) (.sl es' none):=by
 intro w G v hr
 cases hr with
 | nil _=>cases h;exact .nil (by simp)
 | sl _ hc hm=>rw [h.length] at hc ⊢;exact .sl (by simp) hc (h.els hm)
theorem Tf.map {α β:Type} {f:α->AV} {g:β->AV} {e:α->β} (h:∀x,(f x).leaves.length=(g (e x)).leaves.length/\Vj (f x).leaves (g (e x)).leaves):∀xs:List α,Tf (xs.map f) ((xs.map e).map g)
 | []=>.nil
 | x::r=>.cons (h x).1 (h x).2 (Tf.map h r)
theorem Z6f (c:V1):Vj (Ns c) (Co c.er):=.cons (Zc.forget _ _) .nil
theorem Z0v (cs:List V1):Tf (VR cs) (XF (cs.map V1.er)):=Tf.map (f:=L4) (g:=BP) (e:=V1.er) (fun c=>⟨rfl,Z6f c⟩) cs
theorem Z6g (d:V2):Vj (Nt d) (Ta d.er):=.cons (Zc.refl _) (.cons (Zc.refl _) (.cons (Zc.els _ (Z0v _)) .nil))
theorem Z0w (ds:List V2):Tf (WY ds) (Yz (ds.map V2.er)):=Tf.map (f:=L5) (g:=Jz) (e:=V2.er) (fun c=>⟨rfl,Z6g c⟩) ds
theorem Ty {es:List AV} {k:Nat} (h:es.all (fun y=>Nat.beq y.leaves.length k)=true):∀y∈es,y.leaves.length=k:=fun y hy=>Um (KR.1 h y hy)
abbrev rK (g:Hd) (k:Nat) (ls:List AV):Res:=.row g.v k ls
section
variable {P:Program} {n:Nat} {c:Code} {A:WH} {F:Fr} {h:List Res} {ops:Array Oper} {B:Fr->List Res->Prop} {k:Nat}
variable {T:List (Nat × List Nat)} {fuel:Nat} {done:List Nat}
theorem tB (is:List Nat) (hs:List Res) (L' L:List (Value × Nat)) (e:L'=L) (hp:W9 is h=some hs:=by kernel_rfl) (hb:Qo hs=some L':=by kernel_rfl):UJ h (.many L::XA is h):=e▸Zcd is hp hb
theorem rr {v:Value} {q:Nat} {ls ls':List AV} {t t':List Res} (h:ls=ls') (e:t=t'):Res.row v q ls::t=.row v q ls'::t':=h▸e▸rfl
theorem Na (j m:Nat) (v:Hd) (kk:Nat) (ls:List AV) (hm:ls.length=m*kk) (hk:0<kk:=by omega) (hl:Cp P ops F k=some (.h v):=by kernel_rfl) (hj:h[j]? = some (rK v kk ls):=by kernel_rfl):XE P (ZB ops k) F h [] (.i m):=
 Zbv j hl hj hm hk
theorem XV (b l c' q sz:Nat) (j:Int) (hq:j=(q:Int)/\q<l:=by omega) (hi:AF P ops F k=some (.val (.slice (some ⟨b,0,none⟩) l c'),j,sz):=by kernel_rfl):XE P (ZB ops k) F h [] (.val (.pointer (some ⟨b,q*sz,none⟩))):=by
 have:=PD (P:=P) (F:=F) (h:=h) hi om om
 rw [hq.1,U9,V0] at this
 exact this
theorem WX (j g len cap kk o:Nat) (ls zs:List AV) (t:TypeId) (y:AV) (hz:(ls.drop o).take zs.length=zs) (hl:HW ops F k=some (t,.val (.pointer (some ⟨g,o,none⟩))):=by kernel_rfl) (hj:h[j]? = some (.row (.slice (some ⟨g,0,none⟩) len cap) kk ls):=by kernel_rfl)
  (hy:A1 P t zs=some y:=by kernel_rfl):XE P (ZB ops k) F h [g] y:=Zbw j hl hj hz hy
theorem Bs (j g len cap kk o:Nat) (xs ls:List AV) (ls':List AV) (hlt:o+xs.length<=ls.length) (he:ls.take o++xs++ls.drop (o+xs.length)=ls') (H:SI P n ops B (k+1) F (.row (.slice (some ⟨g,0,none⟩) len cap) kk ls'::XA [j] h)) (hk:X6 n ops F k=true:=by kernel_rfl)
  (hs:storeAt P ops F k=some (g,o,xs):=by kernel_rfl) (hp:W9 [j] h=some [.row (.slice (some ⟨g,0,none⟩) len cap) kk ls]:=by kernel_rfl):SI P n ops B k F h:=
 Tw hk (Wo.perm (U6 (Vg hp)) (O1 hs hlt (by rw [he];exact H)))
theorem Au (i j:Nat) (js bs:List Nat) (g len cap kk o:Nat) (xs ls:List AV) (ls':List AV) (hlt:o+xs.length<=ls.length) (he:ls.take o++xs++ls.drop (o+xs.length)=ls')
  (H:YW P n ops B (T.filter fun t=>!WK ops i t.1) fuel (done++[i]) F (.row (.slice (some ⟨g,0,none⟩) len cap) kk ls'::XA [j] h)) (hk:X6 n ops F i=true:=by kernel_rfl)
  (hs:storeAt P ops F i=some (g,o,xs):=by kernel_rfl) (hp:W9 [j] h=some [.row (.slice (some ⟨g,0,none⟩) len cap) kk ls]:=by kernel_rfl) (ho:VI ops i T=bs:=by kernel_rfl)
  (hj:js.map (fun q=>(Wv (XA [j] h))[q]?)=bs.map some:=by kernel_rfl):Va P n ops B T fuel done F h i:=
 QO [j] js bs hk (Vg hp) ho hj (O1 (h2:=[]) hs hlt (by rw [he];exact H))
theorem Cj (sz:Nat) (hK:∀g,SI P n ops B (k+1) (F.put (ZB ops k).dst (.val (.slice (some ⟨g,0,none⟩) 0 0))) (.row (.slice (some ⟨g,0,none⟩) 0 0) sz []::h)) (hk:X6 n ops F k=true:=by kernel_rfl)
  (ha:Tb P ops F k=some ([],0,sz):=by kernel_rfl):SI P n ops B k F h:=Tw hk (Z7b (Vx hk).2.1 ha hK)
theorem HA (j g sz:Nat) (xs:List AV) (hx:Option Value) (hxs:∀y∈xs,y.leaves.length=sz) (hbound:xs.length<=4294967296) (hK:∀v:Hd,SI P n ops B (k+1) (F.put (ZB ops k).dst (.h v)) (rK v sz (Zb xs)::XA [j] h))
  (hk:X6 n ops F k=true:=by kernel_rfl) (ha:Un P ops F k=some (.val (.slice (some ⟨g,0,none⟩) 0 0),.sl xs hx,sz):=by kernel_rfl) (hp:W9 [j] h=some [.row (.slice (some ⟨g,0,none⟩) 0 0) sz []]:=by kernel_rfl):SI P n ops B k F h:=
 Tw hk (Wo.perm (U6 (Vg hp)) (Z79 (Vx hk).2.1 ha hxs hbound hK))
theorem N7 (j m:Nat) {v:Hd} {kk:Nat} {ls:List AV} (hm:ls.length=m*kk) (h0:0<m) (H:∀g c',v=⟨some ⟨g,0,none⟩,m,c'⟩->Yu P n c A F h) (hk:0<kk:=by omega) (hj:h[j]? = some (rK v kk ls):=by kernel_rfl):Yu P n c A F h:=
 Rq j m hj hm hk h0 H
theorem N9 (t j:Nat) {v:Hd} {kk:Nat} (es:List AV) (hes:∀y∈es,y.leaves.length=kk) (H:Yu P n c A ((t,.sl es (some v.v))::F) (.tail v.v kk::XA [j] h)) (hk:0<kk:=by omega) (hF':F.get t=.h v:=by kernel_rfl)
  (hp:W9 [j] h=some [rK v kk (Zb es)]:=by kernel_rfl):Yu P n c A F h:=Rp t j hF' hp hes hk H
theorem Zcc (j i p:Nat) (u v:Value) (kk kv:Nat) (es ls:List AV) (hes:∀y∈es,y.leaves.length=kk) (hl:ls[p]? = some (.val u)) (hk:0<kk:=by omega) (hp:W9 [j,i] h=some [.row u kk (Zb es),.row v kv ls]:=by kernel_rfl) :
  UJ h (.row v kv (ls.set p (.sl es (some u)))::.tail u kk::XA [j,i] h):=PR j i p hp hes hk hl
theorem Cz {A xs ys B:List AV} {o:Nat} (hA:A.length=o) (hl:xs.length=ys.length):(A++(xs++B)).take o++ys++(A++(xs++B)).drop (o+ys.length)=A++(ys++B):=by
 subst hA
 rw [Ju,<-hl,<-List.drop_drop,List.drop_left,List.drop_left,Ul]
theorem Ih {A xs B:List AV} {o:Nat} (hA:A.length=o):((A++(xs++B)).drop o).take xs.length=xs:=by
 subst hA
 rw [List.drop_left,Ju]
theorem Vv (xs ys:List AV):Zb (xs++ys)=Zb xs++Zb ys:=by simp [Zb]
theorem Z1d:Zb []=[]:=rfl
theorem CG (j:Nat) (v:Value) (q:Nat) (ls ls':List AV) (e:ls=ls') (hp:W9 [j] h=some [.row v q ls]:=by kernel_rfl):UJ h (.row v q ls'::XA [j] h):=by
 subst e
 intro w G hh
 have hp':=U6 (Vg hp)
 exact ⟨G,hh.perm hp',(YY.refl w G h).perm (TX _) hp'⟩
end
end Go.Abs
end
section
namespace Go.Abs
theorem YA.rgrow {w:World} {G:Ye} {h2:List Res} {g len len' cap k:Nat} {ls ls':List AV} (hh:YA w G (.row (.slice (some ⟨g,0,none⟩) len cap) k ls::h2)) {cs cs':Array Value} {e:TypeId}
  (hb:w.heap[g]? = some (.cells cs e (0,0))) (Xv:cs'.size=cs.size) (hle:len'<=cap) (hcap:cs.size=cap*k) (hl:ls'.length=len'*k) (hls:YR w G ls' (cs'.toList.take (len'*k))) :
  YA (w.setRow g cs') G (.row (.slice (some ⟨g,0,none⟩) len' cap) k ls'::h2) /\
   YY w G (.row (.slice (some ⟨g,0,none⟩) len cap) k ls::h2) (w.setRow g cs') G (.row (.slice (some ⟨g,0,none⟩) len' cap) k ls'::h2):=by
 have hmem:Res.row (.slice (some ⟨g,0,none⟩) len cap) k ls∈Res.row (.slice (some ⟨g,0,none⟩) len cap) k ls::h2:=Xh ..
 have hA:Vu G w (w.setRow g cs') G:=⟨fun c j hg=>by
  have hne:c≠g:=fun he=>hh.prot _ hmem c j he hg
  simp [World.cell?,Vt w g c cs' hne],fun _ _ h=>h⟩
 have e1:YY w G [.row (.slice (some ⟨g,0,none⟩) len cap) k ls] (w.setRow g cs') G [.row (.slice (some ⟨g,0,none⟩) len' cap) k ls']:=by
  refine ⟨rfl,rfl,rfl,by simp [World.setRow],fun _ _ h=>h,?_,fun _ _ _ h=>.inl h,?_⟩
  ·intro c hc
   by_cases hcb:c=g
   ·subst hcb
    exact .inr ⟨cs,cs',e,(0,0),hb,setRow_heap w c cs cs' e (0,0) hb,Xv,fun j hj=>absurd ⟨_,Xh ..,rfl⟩ hj⟩
   ·exact .inl (Vt w g c cs' hcb)
  ·rintro c j _ ⟨r,hr,hf⟩
   rw [W2.1 hr] at hf
   exact ⟨_,Xh ..,hf⟩
 have e2:YA (w.setRow g cs') G [.row (.slice (some ⟨g,0,none⟩) len' cap) k ls']:=by
  refine ⟨fun r hr=>?_,CK _ _,fun r hr c j hf hg=>?_,fun c j hg=>?_⟩
  ·rw [W2.1 hr]
   exact .inr ⟨g,len',cap,cs',e,rfl,setRow_heap w g cs cs' e (0,0) hb,hle,Xv.trans hcap,hl,hls.mono hA⟩
  ·rw [W2.1 hr] at hf
   exact hh.prot _ hmem c j hf hg
  ·have:=hh.lt c j hg
   simpa [World.setRow] using this
 exact YA.frame (h:=[.row (.slice (some ⟨g,0,none⟩) len cap) k ls]) (k:=h2) hh e1 e2
section
variable {P:Program} {n:Nat} {ops:Array Oper} {k:Nat} {F:Fr} {h2:List Res}
theorem NZ {K:Fr->List Res->Prop} {v:Hd} {sz m:Nat} {ls xs:List AV} {hx:Option Value} (hd:Vb n (ZB ops k)=true) (ha:Un P ops F k=some (.val v.v,.sl xs hx,sz))
  (hxs:∀y∈xs,y.leaves.length=sz) (hone:(Zb xs).all AV.one=true) (hm0:ls.length=m*sz) (hk0:0<sz) (hne:xs≠[]) (hbound:m+xs.length<=4294967296)
  (hK:∀v':Hd,K (F.put (ZB ops k).dst (.val v'.v)) (.row v'.v sz (ls++Zb xs)::h2)):Wo P n (ZB ops k) F (.row v.v sz ls::h2) K:=by
 unfold Un at ha
 generalize hoo:ZB ops k=o at ha hd hK
 obtain ⟨dst,op,type,pos,after,guard⟩:=o
 cases op<;>simp only at ha<;>try (cases ha)
 rename_i c
 obtain ⟨callee,args,tys⟩:=c
 simp only at ha
 split at ha
 case h_2=>cases ha
 rename_i s x t t' hargs htys
 split at ha
 case h_2=>cases ha
 rename_i e htt ht
 have:=Um htt
 subst this
 split at ha
 case h_2=>cases ha
 rename_i i hinfo
 split at ha
 case h_2=>cases ha
 rename_i z hz
 split at ha
 case h_2=>cases ha
 rename_i hb
 simp only [Xl] at hb
 simp only [Wa,Prod.mk.injEq] at ha
 obtain ⟨h3,h4,hk1⟩:=ha
 have e1:args=#[s,x]:=by rw [<-VZ (xs:=args),hargs]
 have e2:tys=#[t,t]:=by rw [<-VZ (xs:=tys),htys]
 subst e1;subst e2
 have hzs:z.cells.size=sz:=by rw [Um hb.1,hk1]
 have hby:=WQ hb.2
 have hfl:=U5 xs hxs
 intro Q w G a hF hh
 have v1:=hF.ev s
 have v2:=hF.ev x
 rw [h3] at v1
 rw [h4] at v2
 have v1:=v1.val_inv
 have v2:=v2.forget
 have finish:∀(v':Hd) w',(Builtin.append_ #[t,t] type #[v.v,a.eval x]).run P w=.ok v'.v w'->YA w' G (.row v'.v sz (ls++Zb xs)::h2)->YY w G (.row v.v sz ls::h2) w' G (.row v'.v sz (ls++Zb xs)::h2) ->
   ({ dst:=dst,op:=.call { callee:=.builtin .append,args:=#[s,x],argTypes:=#[t,t] },type:=type,pos:=pos,after:=after,guard:=guard }:Oper).wp P a w
    (fun a' w'=>∃F' h' G',K F' h'/\FR w' G' n F' a'/\YA w' G' h'/\YY w G (.row v.v sz ls::h2) w' G' h') Q:=by
  intro v' w' hr j1 j2
  have hrun:(execOp a.eval { dst:=dst,op:=.call { callee:=.builtin .append,args:=#[s,x],argTypes:=#[t,t] },type:=type,pos:=pos,after:=after,guard:=guard }).run P w=.ok (.value v'.v) w':=by
   simp only [execOp,resolve,invoke,builtin,Sem.run_bind,Sem.run_pure,Result.andThen_ok,BK,VM,B4,v1,hr]
  unfold Oper.wp
  rw [hrun]
  exact ⟨_,_,G,hK v',(hF.mono (j2.agree hh)).put (UB hd) .val,j1,j2⟩
 have hrow0:=hh.ok (.row v.v sz ls) (Xh ..)
 have hsub2:∀r:Res,List.Sublist (r::h2) (r::.row v.v sz ls::h2):=fun r=>List.Sublist.cons_cons _ (Af _ _)
 have grown:∀(olds news:List Value) (old:Nat),YR w G ls olds->YR w G (Zb xs) news ->
   YA (w.drew.alloc (.cells (olds.toArray++news.toArray++Builtin.zeroCells z.cells (grownCap w (m+xs.length) old e-(m+xs.length))) e)) G
    (.row (.slice (some ⟨w.heap.size,0,none⟩) (m+xs.length) (grownCap w (m+xs.length) old e)) sz (ls++Zb xs)::h2) /\
   YY w G (.row v.v sz ls::h2) (w.drew.alloc (.cells (olds.toArray++news.toArray++Builtin.zeroCells z.cells (grownCap w (m+xs.length) old e-(m+xs.length))) e)) G
    (.row (.slice (some ⟨w.heap.size,0,none⟩) (m+xs.length) (grownCap w (m+xs.length) old e)) sz (ls++Zb xs)::h2):=by
  intro olds news old ho hn
  have Xa:=grownCap_ge w (m+xs.length) old e
  have hol:=ho.length
  have hnl:=hn.length
  have hlen:(ls++Zb xs).length=(m+xs.length)*sz:=by rw [Yx,hm0,hfl,Q0]
  obtain ⟨j1,j2⟩:=hh.drew.alloc_rrow (olds.toArray++news.toArray++Builtin.zeroCells z.cells (grownCap w (m+xs.length) old e-(m+xs.length))) e
   (ls:=ls++Zb xs) (len:=m+xs.length) (cap:=grownCap w (m+xs.length) old e) (k:=sz) Xa
   (by
    have q2:(grownCap w (m+xs.length) old e-(m+xs.length))*sz=grownCap w (m+xs.length) old e*sz-(m+xs.length)*sz:=Nat.sub_mul ..
    have q3:(m+xs.length)*sz<=grownCap w (m+xs.length) old e*sz:=Qk _ Xa
    have q4:(m+xs.length)*sz=m*sz+xs.length*sz:=Q0 ..
    simp only [Array.size_append,CM,size_zeroCells,hzs,hol,hnl,hm0,hfl]
    omega) hlen
   (by
    have:(olds.toArray++news.toArray++Builtin.zeroCells z.cells (grownCap w (m+xs.length) old e-(m+xs.length))).toList.take ((m+xs.length)*sz)=olds++news:=by
     simp only [CI]
     rw [<-hlen,Yx,<-hol,<-hnl,<-Yx]
     exact Ju
    rw [this]
    exact (ho.append hn).mono (Ao w G))
  exact ⟨j1.sub (hsub2 _),(YY.drew w G _).trans (j2.sub' (hsub2 _))⟩
 generalize hax:a.eval x=ax at v2 finish
 cases v2 with
 | nil _=>exact absurd rfl hne
 | sl hq hcc hm=>
  rename_i b o' k' c
  have hpos:0<xs.length:=Gf.2 hne
  have hfm:=hm.flat_mem
  obtain ⟨news,hn,hnc⟩:=hfm.cells
  have hnl:news.length=xs.length*i.size:=by rw [hn.length,hfl,hk1]
  have hone':=hn.one_cells hone
  have hnews:∀j u,news[j]? = some u->w.cell? ((⟨b,o',none⟩:Addr).add j)=some u:=fun j u hj=>by rw [K8];exact (hnc j u hj).1
  have hbb:(m+xs.length)*i.bytes<=140737488355328:=by
   have:=Nat.mul_le_mul hbound hby
   omega
  rcases hrow0 with ⟨hv0,hl0⟩|⟨g,len,cap,cur,el,hv0,hrow,hlc,hcur,hll,hcells⟩
  ·subst hl0
   have hm1:m=0:=by
    have:m*sz=0:=by simpa using hm0.symm
    rcases Nat.mul_eq_zero.1 this with h|h
    ·exact h
    ·omega
   subst hm1
   rw [hv0] at finish hh ⊢
   have hr:=run_append_nil (P:=P) w t type e i z ht hinfo hz ⟨b,o',none⟩ xs.length c news hnl hnews hpos om (by simp only [V0] at hbb;omega)
   obtain ⟨j1,j2⟩:=grown [] news 0 .nil hn
   simp only [V0,Array.empty_append,B5] at j1 j2
   rw [hv0] at j2
   exact finish ⟨some ⟨w.heap.size,0,none⟩,xs.length,grownCap w xs.length 0 e⟩ _ hr (by simpa using j1) (by simpa using j2)
  ·have hlm:len=m:=Gh hk0 (hll.symm.trans hm0)
   subst hlm
   rw [hv0] at finish hh ⊢
   have q5:len*sz<=cap*sz:=Qk _ hlc
   have h1:(cur.toList.take (len*sz)).length=len*sz:=by rw [Wr,K1,hcur,Vn q5]
   have hcl:cur.toList.length=cap*sz:=by rw [K1,hcur]
   by_cases hroom:len+xs.length<=cap
   ·have q1:(len+xs.length)*sz<=cap*sz:=Qk _ hroom
    have q2:(len+xs.length)*sz=len*sz+xs.length*sz:=Q0 ..
    have hfit:len*i.size+news.length<=cur.size:=by rw [hnl,hcur,hk1];omega
    have hr:=FE (P:=P) w t type e el i ht hinfo g len cap cur hrow ⟨b,o',none⟩ xs.length c news hnl hnews hone' hroom hfit
    rw [hk1] at hr
    have hnl':news.length=xs.length*sz:=by rw [hnl,hk1]
    obtain ⟨j1,j2⟩:=hh.rgrow (ls':=ls++Zb xs) (len':=len+xs.length) (cs':=(cur.toList.take (len*sz)++news++cur.toList.drop (len*sz+news.length)).toArray) hrow
     (by simp only [CM,Yx,h1,hnl',KU,hcl,hcur];omega) hroom hcur (by rw [Yx,hll,hfl,q2]) (by
      have:(cur.toList.take (len*sz)++news++cur.toList.drop (len*sz+news.length)).toArray.toList.take ((len+xs.length)*sz)=cur.toList.take (len*sz)++news:=by
       rw [CN,q2,<-hnl']
       conv=>lhs;arg 1;rw [show len*sz+news.length=(cur.toList.take (len*sz)++news).length from by rw [Yx,h1]]
       exact Ju
      rw [this]
      exact hcells.append hn)
    exact finish ⟨some ⟨g,0,none⟩,len+xs.length,cap⟩ _ hr j1 j2
   ·have hr:=run_append_grow (P:=P) w t type e i z ht hinfo hz ⟨g,0,none⟩ len cap (cur.toList.take (len*sz)) (by rw [hk1];exact h1) (fun j u hj=>by
     rw [K8,cell_of_row w g _ cur el (0,0) hrow]
     rw [QG] at hj
     split at hj
     ·simpa using hj
     ·cases hj) ⟨b,o',none⟩ xs.length c news hnl hnews om om (growslice_fits om hbb)
    obtain ⟨j1,j2⟩:=grown (cur.toList.take (len*sz)) news cap hcells hn
    rw [hv0] at j2
    exact finish ⟨some ⟨w.heap.size,0,none⟩,len+xs.length,grownCap w (len+xs.length) cap e⟩ _ hr j1 j2
end
section
variable {P:Program} {n:Nat} {ops:Array Oper} {B:Fr->List Res->Prop} {k:Nat} {F:Fr} {h:List Res}
theorem F3 (j m:Nat) (v:Hd) (sz:Nat) (ls xs:List AV) (hx:Option Value) (hm0:ls.length=m*sz) (hxs:∀y∈xs,y.leaves.length=sz) (hone:(Zb xs).all AV.one=true) (hne:xs≠[]) (hbound:m+xs.length<=4294967296)
  (hK:∀v':Hd,SI P n ops B (k+1) (F.put (ZB ops k).dst (.h v')) (rK v' sz (ls++Zb xs)::XA [j] h)) (hk0:0<sz:=by omega)
  (hk:X6 n ops F k=true:=by kernel_rfl) (ha:Un P ops F k=some (.h v,.sl xs hx,sz):=by kernel_rfl) (hp:W9 [j] h=some [rK v sz ls]:=by kernel_rfl):SI P n ops B k F h:=
 Tw hk (Wo.perm (U6 (Vg hp)) (NZ (Vx hk).2.1 ha hxs hone hm0 hk0 hne hbound hK))
end
end Go.Abs
namespace Go.Abs
section
variable {P:Program} {n:Nat} {ops:Array Oper} {B:Fr->List Res->Prop} {T:List (Nat × List Nat)} {fuel:Nat} {done:List Nat} {F:Fr} {h:List Res}
theorem Et (i j m:Nat) (js bs:List Nat) (v:Hd) (sz:Nat) (ls xs:List AV) (hx:Option Value) (hm0:ls.length=m*sz) (hxs:∀y∈xs,y.leaves.length=sz) (hone:(Zb xs).all AV.one=true) (hne:xs≠[]) (hbound:m+xs.length<=4294967296)
  (hK:∀v':Hd,YW P n ops B (T.filter fun t=>!WK ops i t.1) fuel (done++[i]) (F.put (ZB ops i).dst (.h v')) (rK v' sz (ls++Zb xs)::XA [j] h)) (hk0:0<sz:=by omega) (hk:X6 n ops F i=true:=by kernel_rfl)
  (ha:Un P ops F i=some (.h v,.sl xs hx,sz):=by kernel_rfl) (hp:W9 [j] h=some [rK v sz ls]:=by kernel_rfl) (ho:VI ops i T=bs:=by kernel_rfl)
  (hj:js.map (fun q=>(Wv (XA [j] h))[q]?)=bs.map some:=by kernel_rfl):Va P n ops B T fuel done F h i:=
 QO [j] js bs hk (Vg hp) ho hj (NZ (h2:=[]) (Vx hk).2.1 ha hxs hone hm0 hk0 hne hbound hK)
end
theorem Wg.form {P:Program} {f:FuncId} {as1:List AV} {h0:List Res} {T:Hd->AV} {kk m:Nat} {ls:List AV} {hs:List Res} (H:Wg P f as1 h0 (fun r h=>∃v:Hd,r=T v/\h=rK v kk ls::hs)) (hm:ls.length=m*kk) (hk:0<kk) (h1:0<m) :
  Wg P f as1 h0 (fun r h=>∃(g c:Nat),r=T ⟨some ⟨g,0,none⟩,m,c⟩/\h=rK ⟨some ⟨g,0,none⟩,m,c⟩ kk ls::hs):=by
 intro w G vs hv hh
 refine (H w G vs hv hh).mono ?_
 rintro e w' ⟨u,r,h',G',he,⟨v,rfl,rfl⟩,hr,hh',hx⟩
 obtain ⟨g,c,rfl⟩:=Ig (hh'.ok _ (Xh ..)) hm hk h1
 exact ⟨u,_,_,G',he,⟨g,c,rfl,rfl⟩,hr,hh',hx⟩
end Go.Abs
namespace Go.Abs
section
variable {h:List Res}
theorem Zce (j i p:Nat) {u:Value} {kk b:Nat} {es ls:List AV} (hp:W9 [j,i] h=some [.row u kk (Zb es),.obj b ls]) (hes:∀y∈es,y.leaves.length=kk) (hk:0<kk) (hl:ls[p]? = some (.val u)) :
  UJ h (.obj b (ls.set p (.sl es (some u)))::.tail u kk::XA [j,i] h):=by
 intro w G hh
 have hp':=U6 (Vg hp)
 have hh':=hh.perm hp'
 obtain ⟨G',h1,h2',h3⟩:=BD (h2:=.obj b ls::XA [j,i] h) hh' hes hk
 have e:=h2'.perm hp'.symm (TX _)
 have h1:YA w G' (.tail u kk::.obj b ls::XA [j,i] h):=h1
 have perm:(Res.tail u kk::.obj b ls::XA [j,i] h).Perm (.obj b ls::.tail u kk::XA [j,i] h):=List.Perm.swap ..
 have h4:=h1.perm perm
 have e4:=e.perm (TX _) perm
 have hset:∀{w:World} {G:Ye},RV w G (.sl es (some u)) u->TI w G (.obj b ls)->TI w G (.obj b (ls.set p (.sl es (some u)))):=by
  intro w G hu hr
  obtain ⟨cs,el,k1,k5⟩:=hr
  refine ⟨cs,el,k1,?_⟩
  obtain ⟨c,c1,c2⟩:=k5.get p _ hl
  have:=c2.val_inv
  subst this
  have h6:=k5.set p hu
  rwa [show cs.toList.set p c=cs.toList from by
   apply List.ext_getElem?
   intro q
   rw [List.getElem?_set]
   split
   ·rename_i hq;subst hq;split
    ·exact c1.symm
    ·rename_i hq2;rw [CJ om]
   ·rfl] at h6
 refine ⟨G',⟨fun r hr=>?_,?_,fun r hr=>?_,h4.lt⟩,⟨e4.os,e4.tape,e4.output,e4.size,e4.sub,e4.same,e4.newG,fun b' o hb ⟨r,hr,hf⟩=>e4.newfp b' o hb ?_⟩⟩
 ·rcases YH.1 hr with rfl|hr
  ·exact hset h3 (h4.ok _ (Xh ..))
  ·exact h4.ok r (XC _ hr)
 ·have:=WG.1 h4.apart
  exact WG.2 ⟨fun r hr b' o f1 f2=>this.1 r hr b' o f1 f2,this.2⟩
 ·rcases YH.1 hr with rfl|hr
  ·exact fun b' o f1 hg=>h4.prot (.obj b ls) (Xh ..) b' o f1 hg
  ·exact h4.prot r (XC _ hr)
 ·rcases YH.1 hr with rfl|hr
  ·exact ⟨.obj b ls,Xh ..,hf⟩
  ·exact ⟨r,XC _ hr,hf⟩
theorem T0 (j i p:Nat) (u:Value) (kk b:Nat) (es ls:List AV) (hes:∀y∈es,y.leaves.length=kk) (hl:ls[p]? = some (.val u)) (hk:0<kk:=by omega) (hp:W9 [j,i] h=some [.row u kk (Zb es),.obj b ls]:=by kernel_rfl) :
  UJ h (.obj b (ls.set p (.sl es (some u)))::.tail u kk::XA [j,i] h):=Zce j i p hp hes hk hl
end
end Go.Abs
namespace Go.Abs
section
variable {P:Program} {n:Nat} {ops:Array Oper} {k:Nat} {F:Fr} {h:List Res}
theorem Zbx (j:Nat) {g l c m kk:Nat} {ls:List AV} (hi:CE P ops F k=some (.val (.slice (some ⟨g,0,none⟩) l c),(m:Int))) (hj:h[j]? = some (.row (.slice (some ⟨g,0,none⟩) l c) kk ls)) (hle:m<=l) :
  XE P (ZB ops k) F h [] (.val (.slice (some ⟨g,0,none⟩) m c)):=by
 unfold CE at hi
 generalize hoo:ZB ops k=o at hi
 obtain ⟨dst,op,type,pos,after,guard⟩:=o
 cases op<;>simp only at hi<;>try (cases hi)
 rename_i t x lo hi' mx
 cases lo with
 | some _=>simp at hi
 | none=>
  cases hi' with
  | none=>simp at hi
  | some y=>
   cases mx with
   | some _=>simp at hi
   | none=>
    simp only at hi
    split at hi
    ·rename_i e ht
     split at hi
     ·rename_i inf hinf
      split at hi
      ·rename_i ik m' hm
       simp only [Wa,Prod.mk.injEq] at hi
       obtain ⟨hx,rfl⟩:=hi
       intro n w G a hF hh
       have v1:=hF.ev x
       rw [hx] at v1
       have v1:=v1.val_inv
       have v2:=hF.ev y
       rw [hm] at v2
       have v2:=v2.val_inv
       have hcap:l<=c:=by
        rcases hh.ok _ (Y1 hj) with ⟨h0,_⟩|⟨g',l',c',cur,el,h0,_,hc,_⟩
        ·cases h0
        ·cases h0;exact hc
       refine ⟨_,.val,fun w' _ _=>?_⟩
       simp only [execOp,v1,v2,B6,Option.map_none]
       refine V6 ?_
       simp only [Instr.sliceAt,Sem.run_bind,Vy ht,Result.andThen_ok,Instr.slice]
       have hmm:(Instr.sliceBounds true l c none (some (.int ik (m:Int))) none).run P w'=.ok (0,m,c) w':=by
        have ZC:=fun q=>CC (P:=P) (c:=q) (v:=.int ik (m:Int)) (y:=c) rfl om om w'
        simp [Instr.sliceBounds,ZC]
       rw [hmm]
       have hz:∀a:Addr,a.add 0=a:=fun a=>by simp [Addr.add]
       simp only [Result.andThen_ok,Qb hinf,Nat.zero_mul,hz]
       by_cases h0:c=0<;>simp [h0]
      ·cases hi
     ·cases hi
    ·cases hi
theorem HH (j g l c m kk:Nat) (ls:List AV) (hle:m<=l:=by omega) (hi:CE P ops F k=some (.val (.slice (some ⟨g,0,none⟩) l c),(m:Int)):=by kernel_rfl) (hj:h[j]? = some (.row (.slice (some ⟨g,0,none⟩) l c) kk ls):=by kernel_rfl) :
  XE P (ZB ops k) F h [] (.val (.slice (some ⟨g,0,none⟩) m c)):=Zbx j hi hj hle
variable {B:Fr->List Res->Prop}
end
end Go.Abs
end
namespace Go.Abs
theorem Y9 {α:Type} {xs:List α} {k:Nat} {x:α} (h:xs[k]? = some x):xs.drop k=x::xs.drop (k+1):=by
 have hk:=(XS.1 h).1
 rw [Rd hk]
 congr 1
 rw [B3 hk] at h
 exact Ah h
theorem Xf {α:Type} {xs:List α} {k:Nat} (h:xs.length<=k):xs.drop k=[]:=Gd h
theorem Ww {α:Type} {xs:List α} {k:Nat} {x:α} (h:xs[k]? = some x):xs.take (k+1)=xs.take k++[x]:=by
 rw [List.take_add_one,h];rfl
def YL:List Ze->Nat
 | []=>0
 | d::ds=>d.cons.length+YL ds
theorem CW (xs ys:List Ze):YL (xs++ys)=YL xs+YL ys:=by
 induction xs with
 | nil=>simp [YL]
 | cons d ds ih=>simp [YL,ih];omega
structure Wb (ds:List Ze):Prop where
 len:ds.length<=4
 cons:∀d∈ds,d.cons.length<=3
 fields:∀d∈ds,∀c∈d.cons,c.fields.length<=3
theorem Sr {ds:List Ze} {m:Nat} (h:∀d∈ds,d.cons.length<=m):YL ds<=ds.length*m:=by
 induction ds with
 | nil=>simp [YL]
 | cons d ds ih=>
  have h1:=h d (by simp)
  have h2:=ih (fun x hx=>h x (by simp [hx]))
  simp only [YL,YV,Q0];omega
theorem Wb.sum {ds:List Ze} (h:Wb ds):YL ds<=12:=by
 have:=Sr h.cons
 have:=h.len
 have:ds.length*3<=4*3:=Qk 3 h.len
 omega
theorem Wb.take {ds:List Ze} (h:Wb ds) (k:Nat):Wb (ds.take k):=
 ⟨by have:=h.len;simp;omega,fun d hd=>h.cons d (TZ hd),fun d hd=>h.fields d (TZ hd)⟩
theorem Wb.cons_at {ds:List Ze} (h:Wb ds) {k:Nat} {d:Ze} (hd:ds[k]? = some d):d.cons.length<=3:=h.cons d (Y1 hd)
theorem Wb.fields_at {ds:List Ze} (h:Wb ds) {k j:Nat} {d:Ze} {c:Y8} (hd:ds[k]? = some d) (hc:d.cons[j]? = some c):c.fields.length<=3:=
 h.fields d (Y1 hd) c (Y1 hc)
def UM (c:Int):List Ze->Nat->Nat->Int × LI
 | [],_,_=>(-1,[])
 | d::ds,i,first=>
  if (first:Int)<=c/\c<=((first+d.cons.length:Nat):Int)-1 then ((i:Int)+1,(d.cons[(c-first).toNat]?.map (·.fields)).getD []) else UM c ds (i+1) (first+d.cons.length)
def W3 (ds:List Ze) (c:Int):Int:=(UM c ds 0 0).1
def ZX (ds:List Ze) (c:Int):LI:=(UM c ds 0 0).2
theorem GJ {c:Int}:∀{ds:List Ze} {i first:Nat},(UM c ds i first=(-1,[]) ∨
  ∃k d x,ds[k]? = some d/\(first+YL (ds.take k):Int)<=c/\c<first+YL (ds.take k)+d.cons.length/\d.cons[(c-(first+YL (ds.take k))).toNat]? = some x/\UM c ds i first=((i:Int)+k+1,x.fields))
 | [],_,_=>.inl rfl
 | d::ds,i,first=>by
  rw [UM]
  split
  ·rename_i h
   have hlt:(c-first).toNat<d.cons.length:=by omega
   refine .inr ⟨0,d,d.cons[(c-first).toNat],rfl,by simp [YL];omega,by simp [YL];omega,?_,?_⟩
   ·simp [YL]
   ·rw [B3 hlt];simp
  ·rcases GJ (c:=c) (ds:=ds) (i:=i+1) (first:=first+d.cons.length) with h|⟨k,e,x,h1,h2,h3,h4,h5⟩
   ·exact .inl h
   ·refine .inr ⟨k+1,e,x,by simpa using h1,by simp [YL];omega,by simp [YL];omega,?_,?_⟩
    ·rw [<-h4];congr 3;simp [YL];omega
    ·rw [h5];congr 1;omega
theorem GK {ds:List Ze} {c:Int} (h:¬W3 ds c<1) :
  ∃k d x,ds[k]? = some d/\(YL (ds.take k):Int)<=c/\d.cons[(c-YL (ds.take k)).toNat]? = some x/\W3 ds c=(k:Int)+1/\ZX ds c=x.fields:=by
 rcases GJ (c:=c) (ds:=ds) (i:=0) (first:=0) with h1|⟨k,d,x,h1,h2,_,h4,h5⟩
 ·simp [W3,h1] at h
 ·exact ⟨k,d,x,h1,by simpa using h2,by simpa using h4,by simp [W3,h5],by simp [ZX,h5]⟩
theorem Er {ds:List Ze} {c:Int} (h:W3 ds c<1):ZX ds c=[]/\W3 ds c=-1:=by
 rcases GJ (c:=c) (ds:=ds) (i:=0) (first:=0) with h1|⟨k,d,x,h1,h2,_,h4,h5⟩
 ·simp [ZX,W3,h1]
 ·simp [W3,h5] at h;omega
def Ve (first:Int):Nat->LI
 | 0=>[]
 | n+1=>first::Ve (first+1) n
theorem NO (first:Int) (n:Nat):Ve first (n+1)=Ve first n++[first+n]:=by
 induction n generalizing first with
 | zero=>simp [Ve]
 | succ n ih=>rw [Ve,ih (first+1),Ve];simp;omega
@[simp] theorem Z6w (first:Int) (n:Nat):(Ve first n).length=n:=by
 induction n generalizing first with
 | zero=>rfl
 | succ n ih=>simp [Ve,ih]
def ZW (ds:List Ze) (t:Int):LI:=
 if 1<=t/\t<=ds.length then Ve (YL (ds.take (t-1).toNat)) (((ds[(t-1).toNat]?).map (·.cons.length)).getD 0) else []
def QJ (frm to_:Int):List Ze->Nat->Int
 | [],_=>-1
 | d::ds,i=>if d.cons.length=0/\d.frm=frm/\d.to_=to_ then (i:Int)+1 else QJ frm to_ ds (i+1)
def U0 (ds:List Ze) (frm to_:Int):Int:=QJ frm to_ ds 0
def XQ (ds:List Ze) (t:Int):Bool:=decide (1<=t/\t<=ds.length)&&((ds[(t-1).toNat]?).map fun d=>decide (d.cons.length=0)).getD false
theorem F9 {ds:List Ze} {t:Int} {x:Ze} (h:1<=t/\t<=ds.length) (hx:ds[(t-1).toNat]? = some x):((x.cons.length:Int)==0)=XQ ds t:=by
 rw [XQ,hx,Xr];simp [h]
theorem HC {ds:List Ze} {t:Int} (h:¬(1<=t/\t<=ds.length)):false=XQ ds t:=by
 rw [XQ,Xr];simp only [Bool.false_eq_true,Xl,decide_eq_true_eq,h,false_and]
def W7 (m:Nat) (xs:LI):Bool:=xs.all fun t=>decide (0<=t/\t<=m)
end Go.Abs
section
namespace Go.Abs
section
variable {h:List Res}
end
end Go.Abs
namespace Go.Abs
section
variable {P:Program} {ops:Array Oper} {k:Nat} {F:Fr} {h:List Res}
end
end Go.Abs
end
namespace Go.Abs
section
variable {P:Program} {n:Nat} {ops:Array Oper} {B:Fr->List Res->Prop} {k:Nat} {F:Fr} {h:List Res} {T:List (Nat × List Nat)} {fuel:Nat} {done:List Nat}
theorem O0 {K:Fr->List Res->Prop} {ls:List AV} {len sz:Nat} (hd:Vb n (ZB ops k)=true) (ha:Tb P ops F k=some (ls,len,sz)) (hlen:ls.length=len*sz)
  (hK:∀g,K (F.put (ZB ops k).dst (.val (.slice (some ⟨g,0,none⟩) len len))) (.row (.slice (some ⟨g,0,none⟩) len len) sz ls::h)):Wo P n (ZB ops k) F h K:=by
 unfold Tb at ha
 generalize hoo:ZB ops k=q at ha hd hK
 obtain ⟨dst,op,type,pos,after,guard⟩:=q
 cases op<;>simp only at ha<;>try (cases ha)
 rename_i t ln parts
 split at ha
 case h_2=>cases ha
 rename_i e ht
 split at ha
 case h_2=>cases ha
 rename_i i hi
 split at ha
 case h_2=>cases ha
 rename_i hc
 simp only [Xl] at hc
 split at ha
 case h_2=>cases ha
 rename_i ls' hf
 simp only [Wa,Prod.mk.injEq] at ha
 obtain ⟨rfl,rfl,Xv⟩:=ha
 intro Q w G a hF hh
 obtain ⟨cs,h1,h2⟩:=FF hF parts ht hi rfl hc.1 hc.2 hf
 have hr:(execOp a.eval { dst:=dst,op:=.buildSlice t ln parts,type:=type,pos:=pos,after:=after,guard:=guard }).run P w =
   .ok (.value (.slice (some ⟨w.heap.size,0,none⟩) ln ln)) (w.alloc (.cells cs e)):=by
  simp only [execOp]
  exact V6 h2
 unfold Oper.wp
 rw [hr]
 have hlc:=h1.length
 simp only [K1] at hlc
 obtain ⟨j1,j2⟩:=hh.alloc_rrow cs e (ls:=ls') (len:=ln) (cap:=ln) (k:=sz) (X9 _) (by rw [hlc];exact hlen) hlen (by rw [<-hlen,<-hlc];simpa [Wx] using h1)
 exact ⟨_,_,G,hK _,(hF.mono (j2.agree hh)).put (UB hd) .val,j1,j2⟩
theorem Ur (es es':List AV) (he:es=es') (len sz:Nat) (hK:∀v,SI P n ops B (k+1) (F.put (ZB ops k).dst (.sl es' (some v))) (.tail v sz::h)) (hk:X6 n ops F k=true:=by kernel_rfl)
  (ha:Tb P ops F k=some (Zb es,len,sz):=by kernel_rfl) (hlen:es.length=len:=by kernel_rfl) (hall:JB es sz=true:=by kernel_rfl):SI P n ops B k F h:=by
 subst he;exact iL es len sz hK hk ha hlen hall
theorem Wt (i:Nat) (js bs:List Nat) (es es':List AV) (he:es=es') (len sz:Nat) (hK:∀v,YW P n ops B (T.filter fun t=>!WK ops i t.1) fuel (done++[i]) (F.put (ZB ops i).dst (.sl es' (some v))) (.tail v sz::h))
  (hk:X6 n ops F i=true:=by kernel_rfl) (ha:Tb P ops F i=some (Zb es,len,sz):=by kernel_rfl) (hlen:es.length=len:=by kernel_rfl) (hall:JB es sz=true:=by kernel_rfl)
  (ho:VI ops i T=bs:=by kernel_rfl) (hj:js.map (fun j=>(Wv h)[j]?)=bs.map some:=by kernel_rfl):Va P n ops B T fuel done F h i:=by
 subst he;exact dL i js bs es len sz hK hk ha hlen hall ho hj
theorem iKN (ls:List AV) (len sz:Nat) (hK:∀g,SI P n ops B (k+1) (F.put (ZB ops k).dst (.val (.slice (some ⟨g,0,none⟩) len len))) (.row (.slice (some ⟨g,0,none⟩) len len) sz ls::h)) (hlen:ls.length=len*sz:=by rfl) (hk:X6 n ops F k=true:=by kernel_rfl)
  (ha:Tb P ops F k=some (ls,len,sz):=by kernel_rfl):SI P n ops B k F h:=Tw hk (O0 (Vx hk).2.1 ha hlen hK)
theorem SB (i:Nat) (js bs:List Nat) (ls:List AV) (len sz:Nat) (hK:∀g,YW P n ops B (T.filter fun t=>!WK ops i t.1) fuel (done++[i]) (F.put (ZB ops i).dst (.val (.slice (some ⟨g,0,none⟩) len len))) (.row (.slice (some ⟨g,0,none⟩) len len) sz ls::h)) (hlen:ls.length=len*sz:=by rfl)
  (hk:X6 n ops F i=true:=by kernel_rfl) (ha:Tb P ops F i=some (ls,len,sz):=by kernel_rfl) (ho:VI ops i T=bs:=by kernel_rfl) (hj:js.map (fun j=>(Wv h)[j]?)=bs.map some:=by kernel_rfl):Va P n ops B T fuel done F h i:=
 QO (h1:=[]) (h2:=h) [] js bs hk rfl ho hj (O0 (Vx hk).2.1 ha hlen hK)
end
theorem Wg.frz {P:Program} {f:FuncId} {as1:List AV} {h0:List Res} {E:Type} {kk:Nat} {es:E->List AV} {hs:E->List Res} {Q:E->Prop} (H:Wg P f as1 h0 (fun r h=>∃(e:E) (v:Hd),r=.h v/\h=rK v kk (Zb (es e))::hs e/\Q e)) (hes:∀e,∀y∈es e,y.leaves.length=kk) (hk:0<kk) :
  Wg P f as1 h0 (fun r h=>∃(e:E) (v:Value),r=.sl (es e) (some v)/\h=.tail v kk::hs e/\Q e):=by
 intro w G vs hv hh
 refine (H w G vs hv hh).mono ?_
 rintro e w' ⟨u,r,h',G',he,⟨x,v,rfl,rfl,hq⟩,hr,hh',hx⟩
 obtain ⟨G2,h1,h2,h3⟩:=BD hh' (hes x) hk
 have hrv:=hr.val_inv
 subst hrv
 exact ⟨_,_,_,G2,he,⟨x,v.v,rfl,rfl,hq⟩,h3,h1,hx.trans h2⟩
theorem EK {es:List AV} {sz k:Nat} {y:AV} (h:∀x∈es,x.leaves.length=sz) (hy:y.leaves.length=sz) (hk:k<es.length):(Zb es).take (k*sz)++y.leaves++(Zb es).drop (k*sz+y.leaves.length)=Zb (es.set k y):=by
 obtain ⟨x,hx⟩:=Jh (xs:=es) (j:=k) hk
 have hxl:=h x (Y1 hx)
 have e1:es=es.take k++(x::es.drop (k+1)):=by rw [<-Y9 hx,T1]
 have e2:es.set k y=es.take k++(y::es.drop (k+1)):=by rw [E8,Zj hk]
 have hl:(Zb (es.take k)).length=k*sz:=by rw [U5 (k:=sz) _ (fun z hz=>h z (TZ hz)),Wr,Vn om]
 have e3:Zb es=Zb (es.take k)++(x.leaves++Zb (es.drop (k+1))):=by
  conv=>lhs;rw [e1,Vv]
  simp [Zb]
 rw [e2,Vv,e3,Cz hl (by rw [hxl,hy])]
 simp [Zb]
theorem Z0b (ds:List Ze) (k:Nat) (d:Ze):Yz (ds.set k d)=(Yz ds).set k (Jz d):=by simp [Yz,List.map_set]
theorem Bk (xs:List Ze):(Zb (Yz xs)).length=xs.length*3:=by rw [U5 (k:=3) _ (QP xs)];simp
theorem EH {ds:List Ze} {k:Nat} (d:Ze) (hk:k<ds.length):(Zb (Yz ds)).take (k*3)++Ta d++(Zb (Yz ds)).drop (k*3+3)=Zb (Yz (ds.set k d)):=by
 rw [Z0b];exact EK (y:=Jz d) (QP ds) rfl (by simpa using hk)
theorem Ha (xs ys:List Ze):Zb (Yz xs)++Zb (Yz ys)=Zb (Yz (xs++ys)):=by rw [Z09,Vv]
section
variable {P:Program} {n:Nat} {ops:Array Oper} {B:Fr->List Res->Prop} {k:Nat} {F:Fr} {h:List Res}
theorem Dq (j m:Nat) {v:Hd} {kk:Nat} {ls:List AV} (hm:ls.length=m*kk) (h0:0<m) (H:∀g c',v=⟨some ⟨g,0,none⟩,m,c'⟩->SI P n ops B k F h) (hk:0<kk:=by omega) (hj:h[j]? = some (rK v kk ls):=by kernel_rfl):SI P n ops B k F h:=by
 intro Q w G a hF hh hq
 obtain ⟨g,c',e⟩:=Ig (hh.ok _ (Y1 hj)) hm hk h0
 exact H g c' e Q w G a hF hh hq
end
section
variable {P:Program} {n:Nat} {ops:Array Oper} {B:Fr->List Res->Prop} {k:Nat} {F:Fr} {h:List Res}
def GM (P:Program) (ops:Array Oper) (F:Fr) (k:Nat):Option (IntKind × Int):=
 match (ZB ops k).op with
 | .convert s d x=>match P.underlying s,P.underlying d,F.ev x with
  | some (.int _),some (.int q),.val (.int _ z)=>some (q,z)
  | _,_,_=>none
 | _=>none
theorem kCv (q:IntKind) (z z':Int) (e:q.wrap z=z') (hc:GM P ops F k=some (q,z):=by kernel_rfl):XE P (ZB ops k) F h [] (.val (.int q z')):=by
 unfold GM at hc
 generalize hoo:ZB ops k=o at hc
 obtain ⟨dst,op,type,pos,after,guard⟩:=o
 cases op<;>simp only at hc<;>try (cases hc)
 rename_i s d x
 split at hc
 ·rename_i q1 q2 q3 z2 h1 h2 h3
  cases hc
  intro n w G ac hF hh
  have v1:=hF.ev x
  rw [h3] at v1
  have v1:=v1.val_inv
  refine ⟨_,.val,fun w' _ _=>?_⟩
  simp only [execOp,v1]
  refine V6 ?_
  simp [convert,Vy h1,Vy h2,Conv.intToInt,e]
 ·cases hc
theorem IU {z:Int} (h:0<=z/\z<=9223372036854775807):IntKind.i64.wrap z=z:=IntWalk.i64_in _ om
theorem Cm (z:Int) (hz:0<=z/\z<=255) (hc:GM P ops F k=some (.i64,z):=by kernel_rfl):XE P (ZB ops k) F h [] (.i z):=kCv .i64 z z (IU om) hc
def Ar (ops:Array Oper) (F:Fr) (k:Nat) (b:BinOp):Option (Int × Int):=
 match (ZB ops k).op with
 | .binOp c _ x y _=>if c==b then match F.ev x,F.ev y with
  | .val (.int .i64 z),.val (.int .i64 u)=>some (z,u)
  | _,_=>none else none
 | _=>none
theorem HI (a b:Int) (hb:0<b) (ha:0<=a/\a<=9223372036854775807) (hc:Ar ops F k .quo=some (a,b):=by kernel_rfl):XE P (ZB ops k) F h [] (.i (a / b)):=by
 unfold Ar at hc
 generalize hoo:ZB ops k=o at hc
 obtain ⟨dst,op,type,pos,after,guard⟩:=o
 cases op<;>simp only at hc<;>try (cases hc)
 rename_i bop t x y yt
 cases bop<;>simp only [Zs,reduceCtorEq,if_false,if_true] at hc<;>try (cases hc)
 split at hc
 ·rename_i z yk h1 h2
  cases hc
  intro n' w G ac hF hh
  have v1:=hF.ev x
  have v2:=hF.ev y
  rw [h1] at v1
  rw [h2] at v2
  have v1:=v1.val_inv
  have v2:=v2.val_inv
  refine ⟨_,.val,fun w' _ _=>?_⟩
  simp only [execOp,v1,v2]
  refine V6 ?_
  have e1:a.tdiv b=a / b:=Int.tdiv_eq_ediv_of_nonneg ha.1
  have e2:IntKind.i64.wrap (a / b)=a / b:=IU ⟨Int.ediv_nonneg ha.1 om,Int.le_trans (Int.ediv_le_self b ha.1) ha.2⟩
  have e3:b≠0:=by omega
  simp [eqGuard,binOp,Op.intDiv,e1,e2,e3]
 ·cases hc
theorem Dv (a b:Int) (hb:0<b) (ha:0<=a) (hc:Ar ops F k .rem=some (a,b):=by kernel_rfl):XE P (ZB ops k) F h [] (.i (a % b)):=by
 unfold Ar at hc
 generalize hoo:ZB ops k=o at hc
 obtain ⟨dst,op,type,pos,after,guard⟩:=o
 cases op<;>simp only at hc<;>try (cases hc)
 rename_i bop t x y yt
 cases bop<;>simp only [Zs,reduceCtorEq,if_false,if_true] at hc<;>try (cases hc)
 split at hc
 ·rename_i z yk h1 h2
  cases hc
  intro n' w G ac hF hh
  have v1:=hF.ev x
  have v2:=hF.ev y
  rw [h1] at v1
  rw [h2] at v2
  have v1:=v1.val_inv
  have v2:=v2.val_inv
  refine ⟨_,.val,fun w' _ _=>?_⟩
  simp only [execOp,v1,v2]
  refine V6 ?_
  have e1:a.tmod b=a % b:=Int.tmod_eq_emod_of_nonneg ha
  have e3:b≠0:=by omega
  simp [eqGuard,binOp,Op.intDiv,e1,e3]
 ·cases hc
theorem Bu (a b:Nat) (hb:0<b) (ha:a<=9223372036854775807) (hc:Ar ops F k .quo=some ((a:Int),(b:Int)):=by kernel_rfl):XE P (ZB ops k) F h [] (.i (a / b:Nat)):=by
 rw [Int.natCast_ediv];exact HI a b om om hc
theorem Fa (a b:Nat) (hb:0<b) (_ha:a<=9223372036854775807) (hc:Ar ops F k .rem=some ((a:Int),(b:Int)):=by kernel_rfl):XE P (ZB ops k) F h [] (.i (a % b:Nat)):=by
 rw [Int.natCast_emod];exact Dv a b om om hc
def Ad (a b:Int):Int:=IntKind.i64.wrap ((BitVec.ofInt 64 a ^^^ BitVec.ofInt 64 b).toNat:Int)
theorem G9 {a b:Int} (ha:0<=a/\a<4611686018427387904) (hb:0<=b/\b<4611686018427387904):0<=Ad a b/\Ad a b<4611686018427387904:=by
 obtain ⟨x,rfl⟩:=Int.eq_ofNat_of_zero_le ha.1
 obtain ⟨y,rfl⟩:=Int.eq_ofNat_of_zero_le hb.1
 have h1:(BitVec.ofInt 64 (x:Int) ^^^ BitVec.ofInt 64 (y:Int)).toNat=x ^^^ y:=by
  rw [BitVec.toNat_xor,BitVec.toNat_ofInt,BitVec.toNat_ofInt]
  have e1:((x:Int) % ((2 ^ 64:Nat):Int)).toNat=x:=by omega
  have e2:((y:Int) % ((2 ^ 64:Nat):Int)).toNat=y:=by omega
  rw [e1,e2]
 have h2:x ^^^ y<2 ^ 62:=Nat.xor_lt_two_pow om om
 rw [Ad,h1,IU om]
 omega
theorem Nb (a b:Int) (hc:Ar ops F k .xor=some (a,b):=by kernel_rfl):XE P (ZB ops k) F h [] (.i (Ad a b)):=by
 unfold Ar at hc
 generalize hoo:ZB ops k=o at hc
 obtain ⟨dst,op,type,pos,after,guard⟩:=o
 cases op<;>simp only at hc<;>try (cases hc)
 rename_i bop t x y yt
 cases bop<;>simp only [Zs,reduceCtorEq,if_false,if_true] at hc<;>try (cases hc)
 split at hc
 ·rename_i z yk h1 h2
  cases hc
  intro n' w G ac hF hh
  have v1:=hF.ev x
  have v2:=hF.ev y
  rw [h1] at v1
  rw [h2] at v2
  have v1:=v1.val_inv
  have v2:=v2.val_inv
  refine ⟨_,.val,fun w' _ _=>?_⟩
  simp only [execOp,v1,v2]
  refine V6 ?_
  simp [eqGuard,binOp,Op.intBits,IntKind.bits]
  exact Yp (fun z:Nat=>IntKind.i64.wrap (z:Int)) (by rw [BitVec.toNat_xor,BitVec.toNat_ofInt,BitVec.toNat_ofInt];rfl)
 ·cases hc
end
end Go.Abs
section
namespace Go.Abs
inductive Z1 where
 | mk (op num:Int) (kids:List Z1)
namespace Z1
def op:Z1->Int|.mk a _ _=>a
def num:Z1->Int|.mk _ a _=>a
def kids:Z1->List Z1|.mk _ _ a=>a
end Z1
structure Func where
 params:LI
 result:Int
 body:Z1
structure XZ where
 decls:List Ze
 funcs:List Func
instance:Inhabited Z1:=⟨.mk 0 0 []⟩
mutual
def H1:Z1->AV
 | .mk op num kids=>.agg [.i op,.i num,.sl (Ys kids) none]
def Ys:List Z1->List AV
 | []=>[]
 | e::r=>H1 e::Ys r
end
abbrev Y2 (e:Z1):AV:=.agg [.i e.op,.i e.num,.sl (Ys e.kids) none]
abbrev YU (e:Z1):List AV:=[.i e.op,.i e.num,.sl (Ys e.kids) none]
abbrev Xt (xs:List Z1):AV:=.sl (Ys xs) none
abbrev Q9 (xs:List Z1) (v:Value):AV:=.sl (Ys xs) (some v)
abbrev CQ (f:Func):AV:=.agg [Z6 f.params,.i f.result,.i f.body.op,.i f.body.num,Xt f.body.kids]
abbrev Fe (f:Func):List AV:=[Z6 f.params,.i f.result,.i f.body.op,.i f.body.num,Xt f.body.kids]
def Xj (xs:List Func):List AV:=xs.map CQ
abbrev Fo (xs:List Func):AV:=.sl (Xj xs) none
abbrev JA (p:XZ):AV:=.agg [Ya p.decls,Fo p.funcs]
abbrev HN (p:XZ):List AV:=[Ya p.decls,Fo p.funcs]
abbrev Gn (z:Int):AV:=.val (.int .u8 z)
def Tt (xs:LI):List AV:=xs.map Gn
abbrev VV (xs:LI):AV:=.sl (Tt xs) none
theorem Z0c (e:Z1):H1 e=Y2 e:=by cases e;rw [H1];rfl
theorem XJ:∀xs:List Z1,Ys xs=xs.map Y2
 | []=>by rw [Ys];rfl
 | s::ss=>by rw [Ys,XJ ss,Z0c];rfl
theorem C3 {xs:List Z1} {j:Nat} {x:Z1} (h:xs[j]? = some x):(Ys xs)[j]? = some (Y2 x):=by simp [XJ,h]
theorem Ey {xs:List Func} {j:Nat} {x:Func} (h:xs[j]? = some x):(Xj xs)[j]? = some (CQ x):=by simp [Xj,h]
theorem C0 {xs:LI} {j:Nat} {x:Int} (h:xs[j]? = some x):(Tt xs)[j]? = some (Gn x):=by simp [Tt,h]
@[simp] theorem H2 (xs:List Z1):(Ys xs).length=xs.length:=by simp [XJ]
@[simp] theorem C4 (xs:List Func):(Xj xs).length=xs.length:=by simp [Xj]
@[simp] theorem Kb (xs:LI):(Tt xs).length=xs.length:=by simp [Tt]
theorem J7 (xs ys:List Z1):Ys (xs++ys)=Ys xs++Ys ys:=by simp [XJ]
theorem Z0d (xs ys:List Func):Xj (xs++ys)=Xj xs++Xj ys:=by simp [Xj]
theorem GY (xs:LI) (n:Nat):(Tt xs).take n=Tt (xs.take n):=by simp [Tt]
theorem GX (xs:LI) (n:Nat):(Tt xs).drop n=Tt (xs.drop n):=by simp [Tt]
theorem UO (xs:List Z1):∀y∈Ys xs,y.leaves.length=3:=by intro y hy;simp only [XJ,XH] at hy;obtain ⟨x,_,rfl⟩:=hy;rfl
theorem Ez (xs:List Func):∀y∈Xj xs,y.leaves.length=5:=by intro y hy;simp only [Xj,XH] at hy;obtain ⟨x,_,rfl⟩:=hy;rfl
theorem Z06 (xs:LI):∀y∈Tt xs,y.leaves.length=1:=by intro y hy;simp only [Tt,XH] at hy;obtain ⟨x,_,rfl⟩:=hy;rfl
theorem J8 (xs:List Z1):(Zb (Ys xs)).all AV.one=true:=Je fun y hy=>by simp only [XJ,XH] at hy;obtain ⟨x,_,rfl⟩:=hy;rfl
end Go.Abs
end
section
namespace Go.Abs
open Go.Proofs Go.Proofs.YtjmahledcmocoaaGreat
section
variable {H:Type} {enc:TypeId × Value->H} {w:World}
def GA (w:World):Ye:=fun b _=>b<w.heap.size
abbrev Tr (enc:TypeId × Value->H) (w:World) (n:Nat) (t:TypeId) (cs:List Value) (x:DataW H × List MemPlace):Prop:=DataW.trod enc Tryz.prog w 0 (fun _=>true) true n t cs=some x
theorem NC {w:World} {a:Addr} {v:Value} (h:w.cell? a=some v):a.block<w.heap.size/\a.spot=none:=by
 unfold World.cell? at h
 split at h
 ·rename_i c e fr hb
  split at h
  ·cases h
  ·rename_i hs
   exact ⟨(Uy.1 hb).1,by simpa using hs⟩
 ·cases h
theorem Ly {α:Type} {c:α->Nat}:∀{xs:List α} {ds:List (DataW H)},xs.length=ds.length->(∀(i:Nat) a d,xs[i]? = some a->ds[i]? = some d->c a+1<=Rows.uptoBulk d)->(xs.map fun a=>c a+1).sum<=Rows.uptoBulkAll ds
 | [],[],_,_=>X9 _
 | a::r,d::ds,hl,h=>by
  have h0:=h 0 a d rfl rfl
  have h1:=Ly (c:=c) (xs:=r) (ds:=ds) (by simpa using hl) fun i a d ha hd=>h (i+1) a d (by simpa using ha) (by simpa using hd)
  rw [VM,List.sum_cons,Rows.uptoBulkAll]
  omega
theorem OC {α:Type} {f:α->AV} {G:Ye} {k b:Nat} (hf:∀x,(f x).leaves.length=k):∀{xs:List α} {o:Nat},(∀(i:Nat) a,xs[i]? = some a->Wi w G b (o+i*k) (f a).leaves)->WR w G k b o (xs.map f)
 | [],_,_=>.nil
 | x::r,o,h=>by
  refine .cons (hf x) (by have:=h 0 x rfl;simpa using this) (OC hf fun i a ha=>?_)
  have:=h (i+1) a (by simpa using ha)
  rw [show o+(i+1)*k=o+k+i*k by rw [Q0];omega] at this
  exact this
theorem Z8f {α:Type} [Inhabited α] {t e k:Nat} (ht:Tryz.prog.underlying t=some (.slice e)) (hk:Tryz.prog.cellsOf e=k) (h0:0<k) (f:α->AV) (hf:∀x,(f x).leaves.length=k) (c:α->Nat) (Q:α->Prop) {n:Nat} {cs:List Value} {x:DataW H × List MemPlace}
  (h:Tr enc w n t cs x) (el:∀m cs y,m<n->Tr enc w m e cs y->∃a:α,YR w (GA w) (f a).leaves cs/\c a+1<=Rows.uptoBulk y.1/\Q a) :
  ∃(v:Value) (xs:List α),cs=[v]/\RV w (GA w) (.sl (xs.map f) none) v/\(xs.map fun a=>c a+1).sum+1<=Rows.uptoBulk x.1/\∀a∈xs,Q a:=by
 rcases DataW.trod_slice ht h with ⟨rfl,rfl⟩|⟨a,len,cap,elems,rest,m,rfl,rfl,rfl,_,hlc,_,hlen,hel,_,_⟩
 ·exact ⟨_,[],rfl,.nil (by simp),by simp [Rows.uptoBulk],by simp⟩
 ·rw [hk] at hel
  have hone:∀i,i<len->∃z:α,∃cs' y,w.cells? 0 (a.add (i*k)) k=some cs'/\elems[i]? = some y/\YR w (GA w) (f z).leaves cs'/\c z+1<=Rows.uptoBulk y.1/\Q z:=by
   intro i hi
   have h1:=hel i hi
   rw [B3 om] at h1
   obtain ⟨cs',h2,h3⟩:=Option.bind_eq_some_iff.1 h1
   obtain ⟨z,hz1,hz2,hz3⟩:=el m cs' _ om h3
   exact ⟨z,cs',_,h2,B3 om,hz1,hz2,hz3⟩
  obtain ⟨V,hV⟩:=Go.Deep.choose_lt hone
  refine ⟨_,(List.range len).map V,rfl,?_,?_,?_⟩
  ·cases hl0:len with
   | zero=>exact .nil (by simp)
   | succ q=>
    have hsp:a.spot=none:=by
     obtain ⟨cs',y,g1,_⟩:=hV 0 om
     obtain ⟨_,g2,g3⟩:=World.cells?_some g1
     have g4:=g3 0 h0
     rw [B3 om] at g4
     have g5:=(NC g4).2
     simpa [Addr.add] using g5
    obtain ⟨b,o,sp⟩:=a
    simp only at hsp
    subst hsp
    rw [<-hl0]
    have hll:(((List.range len).map V).map f).length=len:=by simp
    have:=RV.sl (w:=w) (G:=GA w) (es:=((List.range len).map V).map f) (hv:=none) (b:=b) (o:=o) (k:=k) (cap:=cap) (by simp) (by rw [hll];exact hlc) (OC hf fun i z hz=>by
     have hi:i<len:=by have:=(XS.1 hz).1;simpa using this
     have hz':V i=z:=by simpa [hi] using hz
     obtain ⟨cs',y,g1,_,g2,_⟩:=hV i hi
     rw [hz'] at g2
     obtain ⟨_,g3,g4⟩:=World.cells?_some g1
     refine Wi.of_cells g2 fun j u hj=>?_
     have hjl:j<k:=by have:=(XS.1 hj).1;omega
     have g5:=(g4 j hjl).trans hj
     rw [Addr.add_lit,Addr.add_lit] at g5
     exact ⟨g5,(NC g5).1⟩)
    rw [hll] at this
    exact this
  ·have:=Ly (c:=c) (xs:=(List.range len).map V) (ds:=elems.map (·.1)) (by simp [hlen]) fun i z d hz hd=>by
    have hi:i<len:=by have:=(XS.1 hz).1;simpa using this
    have hz':V i=z:=by simpa [hi] using hz
    obtain ⟨cs',y,_,g1,_,g2,_⟩:=hV i hi
    rw [Kv,g1] at hd
    simp only [B6,Wa] at hd
    rw [<-hd,<-hz']
    exact g2
   simp only [Rows.uptoBulk]
   omega
  ·intro z hz
   obtain ⟨i,hi,rfl⟩:=XH.1 hz
   obtain ⟨_,_,_,_,_,_,g⟩:=hV i (List.mem_range.1 hi)
   exact g
theorem Z8d {n:Nat} {cs:List Value} {x:DataW H × List MemPlace} (h:Tr enc w n 5 cs x):∃z:Int,cs=[.int .u8 z]/\Rows.uptoBulk x.1=1/\0<=z/\z<=255:=by
 obtain ⟨z,rfl,rfl,hw⟩:=DataW.trod_int Tryz.underlying5 h
 refine ⟨z,rfl,rfl,?_⟩
 simpa [Lit.wf,IntKind.min,IntKind.max,IntKind.signed,IntKind.bits] using hw
theorem Z8e {n:Nat} {cs:List Value} {x:DataW H × List MemPlace} (h:Tr enc w n 22 cs x):∃(v:Value) (xs:LI),cs=[v]/\RV w (GA w) (VV xs) v/\∀z∈xs,0<=z/\z<=255:=by
 obtain ⟨v,xs,h1,h2,h3,h4⟩:=Z8f Tryz.underlying22 (k:=1) kr om (fun z:Int=>Gn z) (fun _=>rfl) (fun _=>0) (fun z=>0<=z/\z<=255) h fun m cs y _ hy=>by
  obtain ⟨z,rfl,hb,hz⟩:=Z8d hy
  exact ⟨z,.cons .val .nil,Nat.le_of_eq hb.symm,hz⟩
 exact ⟨v,xs,h1,h2,h4⟩
end
end Go.Abs
end
namespace Go.Abs
structure Sg where
 params:LI
 result:Int
abbrev L6 (f:Sg):AV:=.agg [.sl (Z7 f.params) none,.i f.result,.i 0,.i 0,.sl [] none]
def U4 (fs:List Sg):List AV:=fs.map L6
theorem H3 {xs:List Sg} {j:Nat} {x:Sg} (h:xs[j]? = some x):(U4 xs)[j]? = some (L6 x):=by simp [U4,h]
@[simp] theorem LZ (xs:List Sg):(U4 xs).length=xs.length:=by simp [U4]
theorem LY (xs:List Sg):∀y∈U4 xs,y.leaves.length=5:=by intro y hy;simp only [U4,XH] at hy;obtain ⟨x,_,rfl⟩:=hy;rfl
theorem Z0l (xs:List Sg):(Zb (U4 xs)).all AV.one=true:=Je fun y hy=>by simp only [U4,XH] at hy;obtain ⟨x,_,rfl⟩:=hy;rfl
mutual
def Z4.sz:Z4->Nat
 | .mk _ _ _ args kids=>1+args.length+X1 kids
def Z5.sz:Z5->Nat
 | .mk steps _=>1+Yw steps
def Yw:List Z4->Nat
 | []=>0
 | s::r=>s.sz+Yw r
def X1:List Z5->Nat
 | []=>0
 | b::r=>b.sz+X1 r
end
theorem Z4.sz_pos (s:Z4):1<=s.sz:=by cases s;rw [Z4.sz];omega
theorem Z5.sz_pos (b:Z5):1<=b.sz:=by cases b;rw [Z5.sz];omega
theorem KL (l:List Z4):l.length<=Yw l:=by
 induction l with
 | nil=>simp
 | cons s r ih=>have:=s.sz_pos;simp only [YV,Yw];omega
theorem Lv (l:List Z5):l.length<=X1 l:=by
 induction l with
 | nil=>simp
 | cons s r ih=>have:=s.sz_pos;simp only [YV,X1];omega
theorem Zbh {l:List Z4} {k:Nat} {s:Z4} (h:l[k]? = some s):s.sz<=Yw l:=by
 induction l generalizing k with
 | nil=>simp at h
 | cons t r ih=>
  cases k with
  | zero=>simp at h;subst h;simp only [Yw];omega
  | succ k=>have:=ih (k:=k) (by simpa using h);simp only [Yw];omega
theorem RW {l:List Z5} {k:Nat} {s:Z5} (h:l[k]? = some s):s.sz<=X1 l:=by
 induction l generalizing k with
 | nil=>simp at h
 | cons t r ih=>
  cases k with
  | zero=>simp at h;subst h;simp only [X1];omega
  | succ k=>have:=ih (k:=k) (by simpa using h);simp only [X1];omega
theorem Z4.sz_eq (s:Z4):s.sz=1+s.args.length+X1 s.kids:=by cases s;rw [Z4.sz];rfl
theorem Z5.sz_eq (b:Z5):b.sz=1+Yw b.steps:=by cases b;rw [Z5.sz];rfl
theorem Qf {b:Z5} {k:Nat} {s:Z4} (h:b.steps[k]? = some s):s.sz<b.sz:=by have:=Zbh h;have:=b.sz_eq;omega
theorem Us {s:Z4} {k:Nat} {b:Z5} (h:s.kids[k]? = some b):b.sz<s.sz:=by have:=RW h;have:=s.sz_eq;omega
theorem TJ (s:Z4):s.args.length<s.sz:=by have:=s.sz_eq;omega
theorem Ut (s:Z4):s.kids.length<s.sz:=by have:=s.sz_eq;have:=Lv s.kids;omega
theorem V7 (b:Z5):b.steps.length<b.sz:=by have:=b.sz_eq;have:=KL b.steps;omega
structure QH (ds:List Ze):Prop where
 len:ds.length<=4194304
 cons:∀d∈ds,d.cons.length<=4194304
 fields:∀d∈ds,∀c∈d.cons,c.fields.length<=4194304
theorem QH.cons_at {ds:List Ze} (h:QH ds) {k:Nat} {d:Ze} (hd:ds[k]? = some d):d.cons.length<=4194304:=h.cons d (Y1 hd)
theorem QH.fields_at {ds:List Ze} (h:QH ds) {k j:Nat} {d:Ze} {c:Y8} (hd:ds[k]? = some d) (hc:d.cons[j]? = some c):c.fields.length<=4194304:=
 h.fields d (Y1 hd) c (Y1 hc)
def Kz (m:Nat) (c:Y8):Bool:=decide (c.fields.length<=3)&&W7 m c.fields
def Qp (d:Ze):List Ze->Bool
 | []=>false
 | e::r=>if e.cons.length=0/\e.frm=d.frm/\e.to_=d.to_ then true else Qp d r
def Tg (m:Nat):List Y8->Bool
 | []=>true
 | c::r=>if Kz m c=true then Tg m r else false
def Up (ds:List Ze) (d:Ze) (i:Nat):Bool:=
 if 0<d.cons.length then (if d.cons.length<=3/\d.frm=0/\d.to_=0 then Tg ds.length d.cons else false)
 else if Qp d (ds.take i)=true then false else decide (0<=d.frm/\d.frm<=ds.length)&&decide (0<=d.to_/\d.to_<=ds.length)
def Bg (ds:List Ze) (i:Nat):Bool:=(ds[i]?.map fun d=>Up ds d i).getD false
theorem CX {ds:List Ze} {i:Nat} {d:Ze} (h:ds[i]? = some d):Bg ds i=Up ds d i:=by rw [Bg,h];rfl
def UN (ds:List Ze):List Ze->Nat->Bool
 | [],_=>true
 | _::r,i=>if Bg ds i=true then UN ds r (i+1) else false
def WF (ds:List Ze):Bool:=decide (ds.length<=4)&&UN ds ds 0
theorem LL {m:Nat} {cs:List Y8}:Tg m cs=true↔∀c∈cs,Kz m c=true:=by
 induction cs with
 | nil=>simp [Tg]
 | cons c r ih=>
  rw [Tg]
  split
  ·rename_i h;simp [ih,h]
  ·rename_i h;simp [h]
theorem GR {ds:List Ze}:∀{l:List Ze} {i:Nat},UN ds l i=true↔∀j<l.length,Bg ds (i+j)=true
 | [],i=>by simp [UN]
 | d::r,i=>by
  rw [UN]
  split
  ·rename_i h
   rw [GR (l:=r)]
   constructor
   ·intro hq j hj
    cases j with
    | zero=>exact h
    | succ j=>have:=hq j (by simpa using hj);rwa [show i+(j+1)=i+1+j by omega]
   ·intro hq j hj
    have:=hq (j+1) (by simpa using hj)
    rwa [show i+(j+1)=i+1+j by omega] at this
  ·rename_i h
   simp only [Bool.false_eq_true,false_iff]
   intro hq
   exact h (hq 0 (by simp))
theorem Zd3 {ds:List Ze} (h:WF ds=true):Wb ds:=by
 simp only [WF,Xl,decide_eq_true_eq] at h
 obtain ⟨h1,h2⟩:=h
 rw [GR] at h2
 have key:∀d∈ds,∃i,Up ds d i=true:=fun d hd=>by
  obtain ⟨i,hi⟩:=List.mem_iff_getElem?.1 hd
  have:=h2 i (XS.1 hi).1
  rw [V0,CX hi] at this
  exact ⟨i,this⟩
 have hc:∀d∈ds,0<d.cons.length->d.cons.length<=3/\Tg ds.length d.cons=true:=fun d hd hp=>by
  obtain ⟨i,hi⟩:=key d hd
  rw [Up,Zj hp] at hi
  split at hi
  ·rename_i h;exact ⟨h.1,hi⟩
  ·cases hi
 refine ⟨h1,fun d hd=>?_,fun d hd c hc'=>?_⟩
 ·by_cases hp:0<d.cons.length
  ·exact (hc d hd hp).1
  ·omega
 ·have:=LL.1 (hc d hd (List.length_pos_of_mem hc')).2 c hc'
  simp only [Kz,Xl,decide_eq_true_eq] at this
  exact this.1
def QU (m:Nat) (f:Sg):Bool:=decide (f.params.length<=3)&&(W7 m f.params&&decide (0<=f.result/\f.result<=m))
def Km (m:Nat):List Sg->Bool
 | []=>true
 | f::r=>if QU m f=true then Km m r else false
def EG:List Sg->Bool
 | []=>false
 | f::_=>decide (f.params.length=0)&&decide (f.result=0)
theorem Z11 {fs:List Sg} {x:Sg} (h:fs[0]? = some x):EG fs=(decide (x.params.length=0)&&decide (x.result=0)):=by
 cases fs with
 | nil=>simp at h
 | cons f r=>simp at h;subst h;rfl
def Qh (ds:List Ze) (fs:List Sg):Bool:=
 WF ds&&(decide (1<=fs.length/\fs.length<=4)&&(Km ds.length fs&&EG fs))
def Qx (ps:LI):LI->Option Int->Bool
 | [],_=>true
 | v::r,prev=>if (0<=v/\v<=(ps.length:Int)-1)/\ps[v.toNat]?≠some 0/\(∀p,prev=some p->p<v) then Qx ps r (some v) else false
theorem HT {ps r:LI} {v:Int} {prev:Option Int} (h:(0<=v/\v<=(ps.length:Int)-1)/\ps[v.toNat]?≠some 0/\(∀p,prev=some p->p<v)):Qx ps (v::r) prev=Qx ps r (some v):=by
 rw [Qx,Zj h]
theorem Fj {ps r:LI} {v:Int} {prev:Option Int} (h:¬((0<=v/\v<=(ps.length:Int)-1)/\ps[v.toNat]?≠some 0/\(∀p,prev=some p->p<v))):Qx ps (v::r) prev=false:=by
 rw [Qx,Z9 h]
def Kr (ps ls:LI):Bool:=Qx ps ls none
def Ki:List ZV->Bool
 | []=>true
 | r::rs=>if Kr r.params r.lent=true then Ki rs else false
def Vz (r:ZV):Sg:=⟨r.params,r.result⟩
def VW (n:Zq):Bool:=decide (n.routines.length<=4)&&(Qh n.decls (n.routines.map Vz)&&Ki n.routines)
end Go.Abs
section
namespace Go.Abs
def Xo {α:Type} (xs:List α) (i:Int):Option α:=if 0<=i/\i<=(xs.length:Int)-1 then xs[i.toNat]? else none
theorem Q2 {α:Type} {xs:List α} {i:Int} {x:α} (h:0<=i/\i<=(xs.length:Int)-1) (hx:xs[i.toNat]? = some x):Xo xs i=some x:=by rw [Xo,Zj h,hx]
theorem QK {α:Type} {xs:List α} {i:Int} (h:¬(0<=i/\i<=(xs.length:Int)-1)):Xo xs i=none:=by rw [Xo,Z9 h]
theorem Aq {α:Type} {xs:List α} {i:Int} {x:α} (h:Xo xs i=some x):(0<=i/\i<=(xs.length:Int)-1)/\xs[i.toNat]? = some x:=by
 rw [Xo] at h
 split at h
 ·rename_i h1;exact ⟨h1,h⟩
 ·cases h
def Te (vars:LI):LI->LI->Bool
 | [],[]=>true
 | a::as1,t::ts=>if Xo vars a=some t then Te vars as1 ts else false
 | _,_=>false
def XY (vars args types:LI):Bool:=Te vars args types
theorem PT {vars:LI}:∀{args types:LI},args.length≠types.length->Te vars args types=false
 | [],[],h=>absurd rfl h
 | [],_::_,_=>rfl
 | _::_,[],_=>rfl
 | a::as1,t::ts,h=>by
  rw [Te]
  split
  ·exact PT (by simpa using h)
  ·rfl
theorem Zci {vars args types:LI} {k:Nat} {a t:Int} (ha:args[k]? = some a) (ht:types[k]? = some t) (h:Xo vars a=some t) :
  Te vars (args.drop k) (types.drop k)=Te vars (args.drop (k+1)) (types.drop (k+1)):=by
 rw [Y9 ha,Y9 ht,Te,Zj h]
theorem PS {vars args types:LI} {k:Nat} {a t:Int} (ha:args[k]? = some a) (ht:types[k]? = some t) (h:Xo vars a≠some t) :
  Te vars (args.drop k) (types.drop k)=false:=by
 rw [Y9 ha,Y9 ht,Te,Z9 h]
theorem Zch {vars args types:LI} {k:Nat} (ha:args.length<=k) (ht:types.length<=k):Te vars (args.drop k) (types.drop k)=true:=by
 rw [Xf ha,Xf ht];rfl
def Vd (op:Int):Bool:=op==0||(op==6||(op==8||(op==9||op==10)))
def XT (op:Int):Bool:=decide (0<=op/\op<=11)
def Yo (op:Int):Bool:=decide (14<=op/\op<=17)
def Uk (vars:LI) (op into:Int):Bool:=
 if into=0 then true else if op=6 then ((Xo vars (into-1)).map fun t=>decide (0<t)).getD false else false
def Ka (ds:List Ze) (ps:LI) (res:Int):Int:=U0 ds (ps.getLast?.getD 0) res
def TT (ds:List Ze) (vars:LI) (op:Int) (args:LI) (r:ZV):Int:=
 if op=9 then (if XY vars args r.params=true then r.result else -1)
 else if r.params.length=0∨0<r.lent.length∨¬XY vars args (r.params.take (r.params.length-1))=true then -1
 else Ka ds r.params r.result
def Uf (n:Zq) (vars:LI) (op num:Int) (args:LI):Int:=
 match Xo n.routines num with
 | none=>-1
 | some r=>TT n.decls vars op args r
def Q3 (ds:List Ze) (vars:LI) (op:Int) (args:LI):Int:=
 match args with
 | [a]=>match Xo vars a with
  | some t=>if t=0 then -1 else if (op≠14/\op≠15)/\XQ ds t=true then -1 else 0
  | none=>-1
 | _=>-1
def Qm (ds:List Ze) (vars:LI) (args:LI):Int:=
 match args with
 | [a,b]=>match Xo vars a with
  | some t=>if XQ ds t=true then
    (match ds[(t-1).toNat]? with
     | some d=>if XY vars [b] [d.frm]=true then d.to_ else -1
     | none=>-1) else -1
  | none=>-1
 | _=>-1
def Xx (ds:List Ze) (op num:Int):List LI:=if op=7 then [[],[]] else (ZW ds num).map (ZX ds)
mutual
def Yj (n:Zq) (vars:LI):Z4->Int
 | .mk op num into args kids=>
  if (num≠0/\¬Vd op=true)∨¬Uk vars op into=true∨(0<kids.length/\op≠7/\op≠8) then -1
  else if op=0 then (if args.length=0/\(-999<=num/\num<=999) then 0 else -1)
  else if op=1∨op=2∨op=3∨op=4 then (if XY vars args [0,0]=true then 0 else -1)
  else if op=5 then (if XY vars args [0]=true then 0 else -1)
  else if op=6 then (if 0<W3 n.decls num/\XY vars args (ZX n.decls num)=true then W3 n.decls num else -1)
  else if op=7 then (if XY vars args [0]=true then (if (Xx n.decls op num).length=0∨kids.length≠(Xx n.decls op num).length then -1 else W1 n vars kids (Xx n.decls op num) true 0) else -1)
  else if op=8 then (if XY vars args [num]=true then (if (Xx n.decls op num).length=0∨kids.length≠(Xx n.decls op num).length then -1 else W1 n vars kids (Xx n.decls op num) true 0) else -1)
  else if op=9∨op=10 then Uf n vars op num args
  else if op=11 then Qm n.decls vars args
  else if op=14∨op=15∨op=16∨op=17 then Q3 n.decls vars op args
  else -1
def W1 (n:Zq) (vars:LI):List Z5->List LI->Bool->Int->Int
 | [],_,_,t=>t
 | b::bs,more,first,t=>
  match more with
  | []=>-1
  | m::ms=>if X7 n (vars++m) b<0∨(first=false/\X7 n (vars++m) b≠t) then -1 else W1 n vars bs ms false (X7 n (vars++m) b)
def WJ (n:Zq):List Z4->LI->Option LI
 | [],vars=>some vars
 | s::r,vars=>if Yj n vars s<0 then none else WJ n r (if XT s.op=true then vars++[Yj n vars s] else vars)
def X7 (n:Zq) (vars:LI):Z5->Int
 | .mk steps result=>match WJ n steps vars with
  | none=>-1
  | some vs=>(Xo vs result).getD (-1)
end
def T9 (n:Zq) (vars:LI) (op num:Int) (kids:List Z5):Int:=
 if (Xx n.decls op num).length=0∨kids.length≠(Xx n.decls op num).length then -1 else W1 n vars kids (Xx n.decls op num) true 0
mutual
def AG:Z4->Int->Int
 | .mk _ _ _ _ kids,left=>TS kids left
def WA:Z5->Int->Int
 | .mk steps _,left=>Tx steps left
def Tx:List Z4->Int->Int
 | [],left=>left
 | s::r,left=>if left<1 then -1 else if AG s (left-1)<0 then -1 else Tx r (AG s (left-1))
def TS:List Z5->Int->Int
 | [],left=>left
 | b::r,left=>if WA b left<0 then -1 else TS r (WA b left)
end
def Td (b:Z5):Int:=if WA b 600<0 then -1 else 600-WA b 600
def TC (n:Zq):List ZV->Bool
 | []=>true
 | r::rs=>if ¬Td r.body<0/\X7 n r.params r.body=r.result then TC n rs else false
def V8 (n:Zq):Bool:=VW n&&TC n n.routines
theorem HS:(∀(s:Z4) (l:Int),0<=l->AG s l<=l)/\(∀(b:Z5) (l:Int),0<=l->WA b l<=l):=by
 have key:∀m:Nat,(∀s:Z4,s.sz<=m->∀l:Int,0<=l->AG s l<=l)/\(∀b:Z5,b.sz<=m->∀l:Int,0<=l->WA b l<=l):=by
  intro m
  induction m with
  | zero=>exact ⟨fun s h=>by have:=s.sz_pos;omega,fun s h=>by have:=s.sz_pos;omega⟩
  | succ m ih=>
   refine ⟨fun s hs l hl=>?_,fun b hb l hl=>?_⟩
   ·cases s with
    | mk op num into args kids=>
     rw [AG]
     have hk:X1 kids<=m:=by rw [Z4.sz] at hs;omega
     clear hs
     induction kids generalizing l with
     | nil=>rw [TS];exact Int.le_refl _
     | cons b r ihr=>
      rw [X1] at hk
      have:=ih.2 b om l hl
      rw [TS]
      split
      ·omega
      ·have:=ihr (WA b l) om om;omega
   ·cases b with
    | mk steps res=>
     rw [WA]
     have hk:Yw steps<=m:=by rw [Z5.sz] at hb;omega
     clear hb
     induction steps generalizing l with
     | nil=>rw [Tx];exact Int.le_refl _
     | cons s r ihr=>
      rw [Yw] at hk
      rw [Tx]
      split
      ·omega
      ·have:=ih.1 s om (l-1) om
       split
       ·omega
       ·have:=ihr (AG s (l-1)) om om;omega
 exact ⟨fun s l hl=>(key s.sz).1 s (X9 _) l hl,fun b l hl=>(key b.sz).2 b (X9 _) l hl⟩
end Go.Abs
namespace Go.Abs
theorem Zbi {l:List Z4} {k:Nat} {s:Z4} (h:l[k]? = some s):k+s.sz<=Yw l:=by
 induction l generalizing k with
 | nil=>simp at h
 | cons t r ih=>
  cases k with
  | zero=>simp at h;subst h;simp only [Yw];omega
  | succ k=>have:=ih (k:=k) (by simpa using h);have:=t.sz_pos;simp only [Yw];omega
theorem BF {b:Z5} {k:Nat} {s:Z4} (h:b.steps[k]? = some s):k+s.sz<b.sz:=by have:=Zbi h;have:=b.sz_eq;omega
structure Xe (n:Zq):Prop where
 decls:Wb n.decls
 len:n.routines.length<=4
 params:∀r∈n.routines,r.params.length<=3
 lent:∀r∈n.routines,r.lent.length<=4194304
theorem Xe.params_at {n:Zq} (h:Xe n) {k:Nat} {r:ZV} (hr:n.routines[k]? = some r):r.params.length<=3:=h.params r (Y1 hr)
theorem Xe.lent_at {n:Zq} (h:Xe n) {k:Nat} {r:ZV} (hr:n.routines[k]? = some r):r.lent.length<=4194304:=h.lent r (Y1 hr)
theorem RP {ds:List Ze} {num:Int} {k:Nat} {x:Int} (h:(ZW ds num)[k]? = some x):(Xx ds 8 num)[k]? = some (ZX ds x):=by
 rw [Xx,Z9 om,Kv,h];rfl
end Go.Abs
namespace Go.Abs
theorem I0 {ds:List Ze} (hd:Wb ds) (t:Int):(ZW ds t).length<=3:=by
 rw [ZW]
 split
 ·rename_i h
  obtain ⟨d,hd1⟩:=Jh (xs:=ds) (j:=(t-1).toNat) om
  rw [hd1,Z6w]
  exact hd.cons_at hd1
 ·simp
theorem VP {ds:List Ze} (hd:Wb ds) (c:Int):(ZX ds c).length<=3:=by
 by_cases h:W3 ds c<1
 ·rw [(Er h).1];simp
 ·obtain ⟨k,d,x,h1,_,h3,_,h5⟩:=GK h
  rw [h5];exact hd.fields_at h1 h3
theorem Lg {ds:List Ze} (hd:Wb ds) {op num:Int} {k:Nat} {m:LI} (h:(Xx ds op num)[k]? = some m):m.length<=3:=by
 have hm:=Y1 h
 rw [Xx] at hm
 split at hm
 ·simp at hm;subst hm;simp
 ·obtain ⟨c,_,rfl⟩:=XH.1 hm;exact VP hd c
theorem K9 {α:Type} {xs:List α} {x:α} (h:xs.length=1) (hx:xs[0]? = some x):xs=[x]:=by
 cases xs with
 | nil=>simp at h
 | cons a r=>
  cases r with
  | nil=>simp at hx;rw [hx]
  | cons b r=>simp at h
theorem BX {ds:List Ze} {us args:LI} {op:Int} (h:args.length≠1):Q3 ds us op args=-1:=by
 cases args with
 | nil=>rfl
 | cons a r=>
  cases r with
  | nil=>simp at h
  | cons b r=>rfl
theorem BY {ds:List Ze} {us args:LI} {op a:Int} (h:args=[a]) (hi:¬(0<=a/\a<=(us.length:Int)-1)):Q3 ds us op args=-1:=by
 subst h;rw [Q3];simp only [QK hi]
theorem BW {ds:List Ze} {us args:LI} {op a t:Int} (h:args=[a]) (hi:0<=a/\a<=(us.length:Int)-1) (ht:us[a.toNat]? = some t) :
  Q3 ds us op args=if t=0 then -1 else if (op≠14/\op≠15)/\XQ ds t=true then -1 else 0:=by
 subst h;rw [Q3];simp only [Q2 hi ht]
theorem Z8t {n:Zq} {us args:LI} {op num:Int} {r:ZV} (hi:0<=num/\num<=(n.routines.length:Int)-1) (hr:n.routines[num.toNat]? = some r) :
  Uf n us op num args=TT n.decls us op args r:=by
 rw [Uf];simp only [Q2 hi hr]
theorem Z8u {n:Zq} {us args:LI} {op num:Int} (hi:¬(0<=num/\num<=(n.routines.length:Int)-1)):Uf n us op num args=-1:=by
 rw [Uf];simp only [QK hi]
theorem MM {xs:LI} {x:Int} (h:xs[xs.length-1]? = some x):xs.getLast?.getD 0=x:=by
 rw [List.getLast?_eq_getElem?,h];rfl
theorem Nq {n:Zq} {us:LI} {bs:List Z5} {ms:List LI} {b:Z5} {m:LI} {k:Nat} {t:Int} (hb:bs[k]? = some b) (hm:ms[k]? = some m)
  (h:¬(X7 n (us++m) b<0∨(k:Int)>0/\X7 n (us++m) b≠t)) :
  W1 n us (bs.drop k) (ms.drop k) (decide (k=0)) t=W1 n us (bs.drop (k+1)) (ms.drop (k+1)) (decide (k+1=0)) (X7 n (us++m) b):=by
 rw [Y9 hb,Y9 hm,W1,Z9]
 ·simp
 ·rintro (q|⟨q1,q2⟩)
  ·exact h (.inl q)
  ·exact h (.inr ⟨by simp at q1;omega,q2⟩)
theorem Nn {n:Zq} {us:LI} {bs:List Z5} {ms:List LI} {b:Z5} {m:LI} {k:Nat} {t:Int} (hb:bs[k]? = some b) (hm:ms[k]? = some m)
  (h:X7 n (us++m) b<0∨(k:Int)>0/\X7 n (us++m) b≠t) :
  W1 n us (bs.drop k) (ms.drop k) (decide (k=0)) t=-1:=by
 rw [Y9 hb,Y9 hm,W1,Zj]
 rcases h with q|⟨q1,q2⟩
 ·exact .inl q
 ·exact .inr ⟨by simp;omega,q2⟩
theorem Np {n:Zq} {us:LI} {bs:List Z5} {ms:List LI} {k:Nat} {f:Bool} {t:Int} (hb:bs.length<=k):W1 n us (bs.drop k) (ms.drop k) f t=t:=by
 rw [Xf hb,W1]
end Go.Abs
end
namespace Go.Abs
theorem BE (n:Zq) (us:LI) (s:Z4):Yj n us s =
  if (s.num≠0/\¬Vd s.op=true)∨¬Uk us s.op s.into=true∨(0<s.kids.length/\s.op≠7/\s.op≠8) then -1
  else if s.op=0 then (if s.args.length=0/\(-999<=s.num/\s.num<=999) then 0 else -1)
  else if s.op=1∨s.op=2∨s.op=3∨s.op=4 then (if XY us s.args [0,0]=true then 0 else -1)
  else if s.op=5 then (if XY us s.args [0]=true then 0 else -1)
  else if s.op=6 then (if 0<W3 n.decls s.num/\XY us s.args (ZX n.decls s.num)=true then W3 n.decls s.num else -1)
  else if s.op=7 then (if XY us s.args [0]=true then T9 n us s.op s.num s.kids else -1)
  else if s.op=8 then (if XY us s.args [s.num]=true then T9 n us s.op s.num s.kids else -1)
  else if s.op=9∨s.op=10 then Uf n us s.op s.num s.args
  else if s.op=11 then Qm n.decls us s.args
  else if s.op=14∨s.op=15∨s.op=16∨s.op=17 then Q3 n.decls us s.op s.args
  else -1:=by
 cases s with
 | mk op num into args kids=>rw [Yj];rfl
theorem Eh (n:Zq) (us:LI) (b:Z5):X7 n us b=match WJ n b.steps us with
  | none=>-1
  | some vs=>(Xo vs b.result).getD (-1):=by
 cases b with
 | mk st r=>rw [X7];rfl
theorem Lf {α:Type} {xs:List α} {x:α} (h:xs.length=2) (hx:xs[0]? = some x):∃y,xs=[x,y]:=by
 match xs,h with
 | [a,b],_=>simp at hx;subst hx;exact ⟨b,rfl⟩
theorem Uz {ds:List Ze} {us args:LI} (h:args.length≠2):Qm ds us args=-1:=by
 match args,h with
 | [],_=>rfl
 | [_],_=>rfl
 | [_,_],h=>simp at h
 | _::_::_::_,_=>rfl
theorem UA {ds:List Ze} {us args:LI} {a:Int} (hl:args.length=2) (h:args[0]? = some a) (hi:¬(0<=a/\a<=(us.length:Int)-1)):Qm ds us args=-1:=by
 obtain ⟨y,rfl⟩:=Lf hl h;rw [Qm];simp only [QK hi]
theorem Uo {ds:List Ze} {us args:LI} {a t:Int} (hl:args.length=2) (h:args[0]? = some a) (hi:0<=a/\a<=(us.length:Int)-1) (ht:us[a.toNat]? = some t) :
  Qm ds us args=if XQ ds t=true then
    (match ds[(t-1).toNat]? with
     | some d=>if XY us (args.drop 1) [d.frm]=true then d.to_ else -1
     | none=>-1) else -1:=by
 obtain ⟨y,rfl⟩:=Lf hl h;rw [Qm];simp only [Q2 hi ht];rfl
theorem RH {ds:List Ze} {us args:LI} {a t:Int} {d:Ze} (hl:args.length=2) (h:args[0]? = some a) (hi:0<=a/\a<=(us.length:Int)-1) (ht:us[a.toNat]? = some t)
  (hA:XQ ds t=true) (hd:ds[(t-1).toNat]? = some d):Qm ds us args=if XY us (args.drop 1) [d.frm]=true then d.to_ else -1:=by
 rw [Uo hl h hi ht,Zj hA];simp only [hd]
theorem HD {ds:List Ze} {t:Int} (h:XQ ds t=true):1<=t/\t<=ds.length:=by
 simp only [XQ,Xl,decide_eq_true_eq] at h;exact h.1
theorem Nz (b:Z5) (l:Int):WA b l=Tx b.steps l:=by cases b;rw [WA];rfl
theorem Fi (s:Z4) (l:Int):AG s l=TS s.kids l:=by cases s;rw [AG];rfl
structure Ua (n:Zq):Prop where
 decls:QH n.decls
 len:n.routines.length<=4194304
 params:∀r∈n.routines,r.params.length<=4194304
 lent:∀r∈n.routines,r.lent.length<=4194304
 body:∀r∈n.routines,r.body.sz<=10000000
theorem FM {m:Nat} {fs:List Sg} (h:Km m fs=true):∀f∈fs,QU m f=true:=by
 induction fs with
 | nil=>simp
 | cons f r ih=>
  rw [Km] at h
  split at h
  ·rename_i h1
   intro g hg
   rcases YH.1 hg with rfl|hg
   ·exact h1
   ·exact ih h g hg
  ·cases h
theorem HZ {n:Zq} (hz:Ua n) (h:VW n=true):Xe n:=by
 simp only [VW,Qh,Xl,decide_eq_true_eq] at h
 obtain ⟨h1,⟨h2,h3,h4,h5⟩,h6⟩:=h
 refine ⟨Zd3 h2,h1,fun r hr=>?_,hz.lent⟩
 have:=FM h4 (Vz r) (XH.2 ⟨r,hr,rfl⟩)
 simp only [QU,Xl,decide_eq_true_eq] at this
 exact this.1
def gI (xs:LI) (i:Int):Int:=xs[i.toNat]?.getD 0
theorem Tj {xs:LI} {i:Int} {x:Int} (h:xs[i.toNat]? = some x):gI xs i=x:=by rw [gI,h];rfl
structure ZK where
 vars:LI
 own:LI
 par:LI
 con:LI
 fst:LI
 tok:LI
def ZK.grow (L:ZK) (t own par:Int):ZK:=⟨L.vars++[t],L.own++[own],L.par++[par],L.con++[-1],L.fst++[-1],L.tok++[-1]⟩
def TH (L:ZK) (v:Int):Option ZK:=if gI L.own v<1 then none else some { L with own:=L.own.set v.toNat (gI L.own v-1) }
def Ql (own par ln:LI):Nat->Int->Bool
 | 0,_=>false
 | k+1,v=>if gI own v<1/\¬v∈ln then (if gI par v<0 then false else Ql own par ln k (gI par v)) else true
def UL (L:ZK) (ln:LI) (v:Int):Bool:=Ql L.own L.par ln (v.toNat+1) v
def Q1:LI->Int->LI->LI
 | own,_,[]=>own
 | own,p,f::r=>Q1 (if f≠0 then own.set p.toNat (gI own p+1) else own) (p+1) r
def Jm (ds:List Ze) (L:ZK) (op x:Int):Option ZK:=
 if gI L.con x<0∨(op=17/\0<=gI L.tok x) then none
 else match TH L x with
  | none=>none
  | some L1=>some { L1 with
    own:=Q1 L1.own (gI L.fst x) (ZX ds (gI L.con x))
    tok:=if op=17 then L.tok.set x.toNat (ZX ds (gI L.con x)).length else L.tok }
def J3 (op:Int):Bool:=op==6||(op==9||(op==10||op==11))
def Fk (n:Zq) (op num:Int):LI:=if op=9 then ((n.routines[num.toNat]?).map (·.lent)).getD [] else []
def UE (n:Zq) (op num:Int) (i:Nat):Bool:=decide ((i:Int)∈Fk n op num)
def KA (n:Zq) (vars:LI) (op num a:Int) (i:Nat):Bool:=J3 op&&(gI vars a != 0&&!UE n op num i)
def QQ (n:Zq) (op num:Int):LI->Nat->ZK->Option ZK
 | [],_,L=>some L
 | a::r,i,L=>if KA n L.vars op num a i=true then (match TH L a with
   | none=>none
   | some L1=>QQ n op num r (i+1) L1) else QQ n op num r (i+1) L
def AA (n:Zq) (op num:Int) (ln:LI) (L:ZK):LI->Nat->Bool
 | [],_=>true
 | a::r,i=>if UE n op num i=true/\¬UL L ln a=true then false else AA n op num ln L r (i+1)
def Dg (L:ZK) (into:Int) (m:Nat):Option ZK:=
 if 0<into then (if gI L.tok (into-1)≠m then none else some { L with tok:=L.tok.set (into-1).toNat (-1) }) else some L
def KE (n:Zq) (ln:LI) (L:ZK) (op num into:Int) (args:LI):Option ZK:=
 match QQ n op num args 0 L with
 | none=>none
 | some L1=>if AA n op num ln L1 args 0=true then Dg L1 into args.length else none
def B1:LI->LI->Bool
 | o::os,t::ts=>if o≠0∨0<=t then false else B1 os ts
 | _,_=>true
def ZK.take (L:ZK) (m:Nat):ZK:=⟨L.vars.take m,L.own.take m,L.par.take m,L.con.take m,L.fst.take m,L.tok.take m⟩
def J4 (L:ZK) (m:Nat):Option ZK:=if B1 (L.own.drop m) (L.tok.drop m)=true then some (L.take m) else none
def Bn (L:ZK) (par:Int):LI->ZK
 | []=>L
 | t::r=>Bn (L.grow t 0 par) par r
def Bd (ds:List Ze) (L:ZK) (x c:Int):ZK:=
 Bn { L with con:=L.con.set x.toNat c,fst:=L.fst.set x.toNat L.vars.length } x (ZX ds c)
def Tl (ds:List Ze) (L:ZK) (op num:Int) (args:LI) (i:Nat):ZK:=
 if op=8 then Bd ds L (gI args 0) (gI (ZW ds num) i) else L
def A5 (lent:LI):LI->Nat->ZK->ZK
 | [],_,L=>L
 | t::r,i,L=>A5 lent r (i+1) (L.grow t (if t≠0/\¬(i:Int)∈lent then 1 else 0) (-1))
def Kk (r:ZV):ZK:=A5 r.lent r.params 0 ⟨[],[],[],[],[],[]⟩
def Bh (L:ZK) (ln:LI) (v:Int):Option ZK:=if UL L ln v=true then some { L with own:=L.own.set v.toNat (gI L.own v+1) } else none
def KJ (n:Zq) (ln:LI) (L:ZK) (op num into:Int) (args:LI) (ch:Option ZK):Option ZK:=
 if op=14 then Bh L ln (gI args 0)
 else if op=15 then TH L (gI args 0)
 else if op=16∨op=17 then Jm n.decls L op (gI args 0)
 else if op=7∨op=8 then (if op=8/\¬UL L ln (gI args 0)=true then none else ch)
 else KE n ln L op num into args
def Jd (L:ZK) (op t:Int) (r:Option ZK):Option ZK:=
 match r with
 | none=>none
 | some L1=>if XT op=true then some (L1.grow t (if t≠0 then 1 else 0) (-1)) else some L1
def Bv (L:ZK) (first:Option ZK) (rest:ZK->Bool):Option ZK:=
 match first with
 | none=>none
 | some one=>if rest one=true then some { L with own:=one.own,tok:=one.tok } else none
def FJ (one:ZK) (two:Option ZK) (rest:Bool):Bool:=
 match two with
 | none=>false
 | some two=>if one.own=two.own/\one.tok=two.tok then rest else false
def DZ (r:Option ZK) (f:ZK->Option ZK):Option ZK:=match r with|none=>none|some L=>f L
def Jc (m:Nat) (res:Int) (L:ZK):Option ZK:=DZ (if gI L.vars res≠0 then TH L res else some L) fun L2=>J4 L2 m
mutual
def Qe (n:Zq) (ln:LI) (L:ZK):Z4->Option ZK
 | .mk op num into args kids=>Jd L op (Yj n L.vars (.mk op num into args kids)) (KJ n ln L op num into args (Kg n ln L op num args kids))
def Kg (n:Zq) (ln:LI) (L:ZK) (op num:Int) (args:LI):List Z5->Option ZK
 | []=>none
 | b::bs=>Bv L (VO n ln (Tl n.decls L op num args 0) L.vars.length b) fun one=>KI n ln L op num args one bs 1
def KI (n:Zq) (ln:LI) (L:ZK) (op num:Int) (args:LI) (one:ZK):List Z5->Nat->Bool
 | [],_=>true
 | b::bs,i=>FJ one (VO n ln (Tl n.decls L op num args i) L.vars.length b) (KI n ln L op num args one bs (i+1))
def KN (n:Zq) (ln:LI) (L:ZK):List Z4->Option ZK
 | []=>some L
 | s::r=>DZ (Qe n ln L s) fun L1=>KN n ln L1 r
def VO (n:Zq) (ln:LI) (L:ZK) (m:Nat):Z5->Option ZK
 | .mk steps result=>DZ (KN n ln L steps) (Jc m result)
end
theorem PE (n:Zq) (ln:LI) (L:ZK) (s:Z4):Qe n ln L s=Jd L s.op (Yj n L.vars s) (KJ n ln L s.op s.num s.into s.args (Kg n ln L s.op s.num s.args s.kids)):=by
 cases s with
 | mk op num into args kids=>rw [Qe];rfl
theorem Gy (n:Zq) (ln:LI) (L:ZK) (m:Nat) (b:Z5):VO n ln L m b=DZ (KN n ln L b.steps) (Jc m b.result):=by
 cases b with
 | mk st r=>rw [VO];rfl
structure T2 (L:ZK):Prop where
 own:L.own.length=L.vars.length
 par:L.par.length=L.vars.length
 con:L.con.length=L.vars.length
 fst:L.fst.length=L.vars.length
 tok:L.tok.length=L.vars.length
structure XD (ds:List Ze) (L:ZK) (q:Int):Prop where
 len:T2 L
 down:∀j:Int,0<=j->j<L.vars.length->gI L.par j<j
 arm:∀x:Int,0<=x->x<L.vars.length->0<=gI L.con x->0<=gI L.fst x/\gI L.fst x+(ZX ds (gI L.con x)).length<=L.vars.length
 nn:∀x∈L.own,0<=x
 bd:∀x∈L.own,x<=q
end Go.Abs
section
namespace Go.Abs
end Go.Abs
namespace Go.Abs
theorem Z6a {n:Zq} {op num:Int} {r:ZV} (h:op=9) (hr:n.routines[num.toNat]? = some r):Fk n op num=r.lent:=by
 rw [Fk,Zj h,hr];rfl
end Go.Abs
namespace Go.Abs
theorem Rs {own par ln:LI} {N:Int} (hd:∀j:Int,0<=j->j<N->gI par j<j):∀(k:Nat) (v:Int),0<=v->v<N->v.toNat+1<=k->Ql own par ln k v=Ql own par ln (v.toNat+1) v:=by
 intro k
 induction k using Nat.strongRecOn with
 | ind k ih=>
  intro v h0 hN hk
  cases k with
  | zero=>omega
  | succ k=>
   rw [Ql,Ql]
   split
   ·split
    ·rfl
    ·have hdv:=hd v h0 hN
     rw [ih k om (gI par v) om om om]
     rw [ih v.toNat om (gI par v) om om om]
   ·rfl
theorem Ru {own par ln:LI} {N j x1 x2:Int} {r:Bool} (h1:gI own j=x1) (h2:gI par j=x2) (hj:0<=j/\j<N) (hx:x1<1/\¬j∈ln) (h0:¬x2<0) (hd:∀i:Int,0<=i->i<N->gI par i<i)
  (h:Ql own par ln (j.toNat+1) j=r):Ql own par ln (x2.toNat+1) x2=r:=by
 rw [Ql,h1,h2,Zj hx,Z9 h0] at h
 have hdv:=hd j hj.1 hj.2
 rw [<-h,Rs hd j.toNat x2 om om om]
theorem Rt {own par ln:LI} {j x1 x2:Int} {r:Bool} (h1:gI own j=x1) (h2:gI par j=x2) (hx:x1<1/\¬j∈ln) (h0:x2<0) (h:Ql own par ln (j.toNat+1) j=r):false=r:=by
 rw [Ql,h1,h2,Zj hx,Zj h0] at h;exact h
theorem Rv {own par ln:LI} {j x1:Int} {r:Bool} (h1:gI own j=x1) (hx:¬(x1<1/\¬j∈ln)) (h:Ql own par ln (j.toNat+1) j=r):true=r:=by
 rw [Ql,h1,Z9 hx] at h;exact h
end Go.Abs
namespace Go.Abs
theorem KO {L L':ZK} {v:Int} (h:TH L v=some L'):1<=gI L.own v/\L'.vars=L.vars/\L'.par=L.par/\L'.con=L.con/\L'.fst=L.fst/\L'.tok=L.tok/\L'.own=L.own.set v.toNat (gI L.own v-1):=by
 rw [TH] at h
 split at h
 ·cases h
 ·cases h;exact ⟨by omega,rfl,rfl,rfl,rfl,rfl,rfl⟩
theorem Hk {xs:LI} {v:Int} (h:gI xs v≠0):gI xs v∈xs:=by
 rw [gI] at h ⊢
 cases hx:xs[v.toNat]? with
 | none=>rw [hx] at h;exact absurd rfl h
 | some y=>exact Y1 hx
theorem Jk {xs:LI} {i:Nat} {a x:Int} (h:x∈xs.set i a):x∈xs∨x=a:=List.mem_or_eq_of_mem_set h
theorem XD.take {ds:List Ze} {L L':ZK} {q v:Int} (hk:XD ds L q) (h:TH L v=some L'):XD ds L' q:=by
 obtain ⟨t1,t2,t3,t4,t5,t6,t7⟩:=KO h
 obtain ⟨f1,f2,f3,f4,f5⟩:=hk.len
 have hm:=Hk (xs:=L.own) (v:=v) om
 refine ⟨⟨by rw [t7,t2,Tp];exact f1,by rw [t3,t2];exact f2,by rw [t4,t2];exact f3,by rw [t5,t2];exact f4,by rw [t6,t2];exact f5⟩,?_,?_,?_,?_⟩
 ·rw [t2,t3];exact hk.down
 ·rw [t2,t4,t5];exact hk.arm
 ·rw [t7];intro x hx
  rcases Jk hx with hx|rfl
  ·exact hk.nn x hx
  ·omega
 ·rw [t7];intro x hx
  rcases Jk hx with hx|rfl
  ·exact hk.bd x hx
  ·have:=hk.bd _ hm;omega
end Go.Abs
end
namespace Go.Abs
theorem IK {us:LI}:∀{args tys:LI},Te us args tys=true->args.length=tys.length/\∀a∈args,0<=a/\a<us.length
 | [],[],_=>⟨rfl,by simp⟩
 | [],_::_,h=>by cases h
 | _::_,[],h=>by cases h
 | a::as1,t::ts,h=>by
  rw [Te] at h
  split at h
  ·rename_i h1
   obtain ⟨q1,q2⟩:=IK h
   refine ⟨by simp [q1],fun x hx=>?_⟩
   rcases YH.1 hx with rfl|hx
   ·have:=(Aq h1).1;omega
   ·exact q2 x hx
  ·cases h
theorem Nl {n:Zq} {us:LI}:∀{bs:List Z5} {ms:List LI} {f:Bool} {t:Int},0<=t->0<=W1 n us bs ms f t ->
  ∀(i:Nat) (b:Z5) (m:LI),bs[i]? = some b->ms[i]? = some m->0<=X7 n (us++m) b
 | [],_,_,_,_,_,i,b,m,hb,_=>by simp at hb
 | b::bs,[],_,_,_,h,_,_,_,_,hm=>by simp at hm
 | b::bs,m::ms,f,t,ht,h,i,c,l,hc,hl=>by
  rw [W1] at h
  split at h
  ·omega
  ·rename_i hq
   have h0:0<=X7 n (us++m) b:=by
    rcases Int.lt_or_le (X7 n (us++m) b) 0 with q|q
    ·exact absurd (.inl q) hq
    ·exact q
   cases i with
   | zero=>simp at hc hl;subst hc hl;exact h0
   | succ i=>exact Nl h0 h i c l (by simpa using hc) (by simpa using hl)
structure Ba (n:Zq) (us:LI) (s:Z4):Prop where
 args:∀a∈s.args,0<=a/\a<us.length
 one:(s.op=7∨s.op=8∨(14<=s.op/\s.op<=17))->∃a,s.args=[a]
 num:s.op=9->0<=s.num/\s.num<n.routines.length
 into:s.into≠0->1<=s.into/\s.into<=us.length
 kids:(s.op=7∨s.op=8)->s.kids.length=(Xx n.decls s.op s.num).length/\(Xx n.decls s.op s.num).length≠0 /\
  ∀(i:Nat) (b:Z5) (m:LI),s.kids[i]? = some b->(Xx n.decls s.op s.num)[i]? = some m->0<=X7 n (us++m) b
theorem Z5q {n:Zq} {us:LI} {op num:Int} {kids:List Z5} (h:0<=T9 n us op num kids) :
  kids.length=(Xx n.decls op num).length/\(Xx n.decls op num).length≠0/\∀(i:Nat) (b:Z5) (m:LI),kids[i]? = some b->(Xx n.decls op num)[i]? = some m->0<=X7 n (us++m) b:=by
 rw [T9] at h
 split at h
 ·omega
 ·rename_i hq
  exact ⟨by omega,by omega,Nl (Int.le_refl 0) h⟩
theorem NB {xs:LI} (h:xs.length=1):∃a,xs=[a]:=by
 match xs,h with
 | [a],_=>exact ⟨a,rfl⟩
theorem PG {n:Zq} {us:LI} {s:Z4} (h:0<=Yj n us s):Ba n us s:=by
 rw [BE] at h
 split at h
 ·omega
 rename_i h0
 have hinto:s.into≠0->1<=s.into/\s.into<=us.length:=by
  intro hi
  have hv:Uk us s.op s.into=true:=by
   cases q:Uk us s.op s.into with
   | true=>rfl
   | false=>exact absurd (.inr (.inl (by rw [q];simp))) h0
  rw [Uk,Z9 hi] at hv
  split at hv
  ·cases ha:Xo us (s.into-1) with
   | none=>rw [ha] at hv;cases hv
   | some t=>have:=(Aq ha).1;omega
  ·cases hv
 have mk:(∀a∈s.args,0<=a/\a<us.length)->((s.op=7∨s.op=8∨(14<=s.op/\s.op<=17))->∃a,s.args=[a])->(s.op=9->0<=s.num/\s.num<n.routines.length) ->
   ((s.op=7∨s.op=8)->0<=T9 n us s.op s.num s.kids)->Ba n us s:=fun a b c d=>⟨a,b,c,hinto,fun q=>Z5q (d q)⟩
 have ty:∀{tys},XY us s.args tys=true->s.args.length=tys.length/\∀a∈s.args,0<=a/\a<us.length:=fun q=>IK q
 split at h
 ·rename_i h1
  split at h
  ·rename_i h2
   exact mk (by rw [List.eq_nil_of_length_eq_zero h2.1];simp) om om om
  ·omega
 split at h
 ·split at h
  ·rename_i h1 h2;exact mk (ty h2).2 om om om
  ·omega
 split at h
 ·split at h
  ·rename_i h1 h2;exact mk (ty h2).2 om om om
  ·omega
 split at h
 ·split at h
  ·rename_i h1 h2;exact mk (ty h2.2).2 om om om
  ·omega
 split at h
 ·split at h
  ·rename_i h1 h2;exact mk (ty h2).2 (fun _=>NB (by simpa using (ty h2).1)) om (fun _=>h)
  ·omega
 split at h
 ·split at h
  ·rename_i h1 h2;exact mk (ty h2).2 (fun _=>NB (by simpa using (ty h2).1)) om (fun _=>h)
  ·omega
 split at h
 ·rename_i hop
  rw [Uf] at h
  cases hr:Xo n.routines s.num with
  | none=>rw [hr] at h;simp at h
  | some r=>
   rw [hr] at h
   simp only at h
   have hn:=(Aq hr).1
   rw [TT] at h
   split at h
   ·split at h
    ·rename_i h2;exact mk (ty h2).2 om om om
    ·omega
   ·split at h
    ·omega
    ·rename_i h2
     have h3:XY us s.args (r.params.take (r.params.length-1))=true:=by
      cases q:XY us s.args (r.params.take (r.params.length-1)) with
      | true=>rfl
      | false=>exact absurd (.inr (.inr (by rw [q];simp))) h2
     exact mk (ty h3).2 om om om
 split at h
 ·rename_i hop
  rcases he:s.args with _|⟨a,_|⟨b,_|⟨c,r⟩⟩⟩
  ·rw [he,show Qm n.decls us []=-1 from rfl] at h;omega
  ·rw [he,show Qm n.decls us [a]=-1 from rfl] at h;omega
  ·rw [he,Qm] at h
   cases ha:Xo us a with
   | none=>rw [ha] at h;simp at h
   | some t=>
    rw [ha] at h
    simp only at h
    split at h
    ·cases hd:n.decls[(t-1).toNat]? with
     | none=>rw [hd] at h;simp at h
     | some d=>
      rw [hd] at h
      simp only at h
      split at h
      ·rename_i h3
       have h4:=(IK h3).2 b (by simp)
       have h5:=(Aq ha).1
       refine mk (fun x hx=>?_) om om om
       rw [he] at hx
       rcases YH.1 hx with rfl|hx
       ·omega
       ·rw [W2.1 hx];exact h4
      ·omega
    ·omega
  ·rw [he,show Qm n.decls us (a::b::c::r)=-1 from rfl] at h;omega
 split at h
 ·rename_i hop
  rcases he:s.args with _|⟨a,_|⟨b,r⟩⟩
  ·rw [he,show Q3 n.decls us s.op []=-1 from rfl] at h;omega
  ·rw [he,Q3] at h
   cases ha:Xo us a with
   | none=>rw [ha] at h;simp at h
   | some t=>
    have h5:=(Aq ha).1
    refine mk (fun x hx=>?_) (fun _=>⟨a,he⟩) om om
    rw [he] at hx
    rw [W2.1 hx];omega
  ·rw [he,show Q3 n.decls us s.op (a::b::r)=-1 from rfl] at h;omega
 ·omega
def QC (n:Zq) (us:LI) (s:Z4):LI:=if XT s.op=true then us++[Yj n us s] else us
theorem LT {L L':ZK} {ln:LI} {v:Int} (h:Bh L ln v=some L'):L'.vars=L.vars/\L'.par=L.par/\L'.con=L.con/\L'.fst=L.fst/\L'.tok=L.tok/\L'.own=L.own.set v.toNat (gI L.own v+1):=by
 rw [Bh] at h
 split at h
 ·cases h;exact ⟨rfl,rfl,rfl,rfl,rfl,rfl⟩
 ·cases h
theorem Gt:∀(fs:LI) (own:LI) (p:Int),(Q1 own p fs).length=own.length
 | [],own,p=>rfl
 | f::r,own,p=>by rw [Q1,Gt r];split<;>simp
theorem Hh {xs:LI} {q v:Int} (h:∀x∈xs,x<=q) (hq:0<=q):gI xs v<=q:=by
 by_cases h0:gI xs v=0
 ·omega
 ·exact h _ (Hk h0)
theorem Hl {xs:LI} {v:Int} (h:∀x∈xs,0<=x):0<=gI xs v:=by
 by_cases h0:gI xs v=0
 ·omega
 ·exact h _ (Hk h0)
theorem Gu:∀(fs:LI) (own:LI) (p:Int),(∀x∈own,0<=x)->∀x∈Q1 own p fs,0<=x
 | [],own,p,h=>h
 | f::r,own,p,h=>by
  rw [Q1]
  refine Gu r _ _ fun x hx=>?_
  split at hx
  ·rcases Jk hx with hx|rfl
   ·exact h x hx
   ·have:=Hl (v:=p) h;omega
  ·exact h x hx
theorem Gs:∀(fs:LI) (own:LI) (p q:Int),0<=q->(∀x∈own,x<=q)->∀x∈Q1 own p fs,x<=q+fs.length
 | [],own,p,q,hq,h=>by intro x hx;have:=h x hx;simp;omega
 | f::r,own,p,q,hq,h=>by
  intro x hx
  rw [Q1] at hx
  have:=Gs r _ _ (q+1) om (fun y hy=>by
   split at hy
   ·rcases Jk hy with hy|rfl
    ·have:=h y hy;omega
    ·have:=Hh (v:=p) h hq;omega
   ·have:=h y hy;omega) x hx
  simp only [YV];omega
theorem O5 {ds:List Ze} {L L':ZK} {op v:Int} (h:Jm ds L op v=some L'):L'.vars=L.vars/\L'.par=L.par/\L'.con=L.con/\L'.fst=L.fst/\L'.tok.length=L.tok.length /\
  ∃L1,TH L v=some L1/\L'.own=Q1 L1.own (gI L.fst v) (ZX ds (gI L.con v)):=by
 rw [Jm] at h
 split at h
 ·cases h
 ·cases ht:TH L v with
  | none=>rw [ht] at h;cases h
  | some L1=>
   rw [ht] at h
   simp only at h
   obtain ⟨t1,t2,t3,t4,t5,t6,t7⟩:=KO ht
   cases h
   refine ⟨t2,t3,t4,t5,?_,L1,rfl,rfl⟩
   split
   ·rw [Tp]
   ·rfl
theorem Ht {n:Zq} {op num:Int} {ds:List Ze} {q:Int}:∀{as1:LI} {i:Nat} {L L':ZK},XD ds L q->QQ n op num as1 i L=some L'->XD ds L' q/\L'.vars=L.vars/\L'.par=L.par/\L'.con=L.con/\L'.fst=L.fst/\L'.tok=L.tok
 | [],i,L,L',hk,h=>by rw [QQ] at h;cases h;exact ⟨hk,rfl,rfl,rfl,rfl,rfl⟩
 | a::r,i,L,L',hk,h=>by
  rw [QQ] at h
  split at h
  ·cases ht:TH L a with
   | none=>rw [ht] at h;cases h
   | some L1=>
    rw [ht] at h
    obtain ⟨t1,t2,t3,t4,t5,t6,t7⟩:=KO ht
    obtain ⟨k1,k2,k3,k4,k5,k6⟩:=Ht (hk.take ht) h
    exact ⟨k1,k2.trans t2,k3.trans t3,k4.trans t4,k5.trans t5,k6.trans t6⟩
  ·exact Ht hk h
theorem XD.le {ds:List Ze} {L:ZK} {q q':Int} (h:XD ds L q) (hq:q<=q'):XD ds L q':=⟨h.len,h.down,h.arm,h.nn,fun x hx=>Int.le_trans (h.bd x hx) hq⟩
theorem XD.turn {ds:List Ze} {L L':ZK} {q q':Int} (hk:XD ds L q) (h1:L'.vars=L.vars) (h2:L'.par=L.par) (h3:L'.con=L.con) (h4:L'.fst=L.fst) (h5:L'.tok.length=L.tok.length) (h6:L'.own.length=L.own.length)
  (h7:∀x∈L'.own,0<=x) (h8:∀x∈L'.own,x<=q'):XD ds L' q':=by
 obtain ⟨f1,f2,f3,f4,f5⟩:=hk.len
 refine ⟨⟨by rw [h6,h1];exact f1,by rw [h2,h1];exact f2,by rw [h3,h1];exact f3,by rw [h4,h1];exact f4,by rw [h5,h1];exact f5⟩,?_,?_,h7,h8⟩
 ·rw [h1,h2];exact hk.down
 ·rw [h1,h3,h4];exact hk.arm
theorem Cb {xs ys:LI} {j:Int} (h:j.toNat<xs.length):gI (xs++ys) j=gI xs j:=by
 rw [gI,gI,E6 h]
theorem Mq {xs:LI} {y:Int} {j:Int} (h:j.toNat=xs.length):gI (xs++[y]) j=y:=by
 rw [gI,h];simp
theorem XD.grow {ds:List Ze} {L:ZK} {q t o p:Int} (hk:XD ds L q) (hp:p<L.vars.length) (ho:0<=o/\o<=q):XD ds (L.grow t o p) q:=by
 obtain ⟨f1,f2,f3,f4,f5⟩:=hk.len
 refine ⟨⟨by simp [ZK.grow,f1],by simp [ZK.grow,f2],by simp [ZK.grow,f3],by simp [ZK.grow,f4],by simp [ZK.grow,f5]⟩,?_,?_,?_,?_⟩
 ·intro j hj hl
  simp only [ZK.grow,Yx,Gg] at hl ⊢
  by_cases hlt:j<L.vars.length
  ·rw [Cb om];exact hk.down j hj hlt
  ·rw [Mq om];omega
 ·intro x hx hl
  simp only [ZK.grow,Yx,Gg] at hl ⊢
  by_cases hlt:x<L.vars.length
  ·rw [Cb om,Cb om]
   intro hc
   have:=hk.arm x hx hlt hc
   exact ⟨this.1,by omega⟩
  ·rw [Mq om];omega
 ·intro x hx
  simp only [ZK.grow,Xb,W2] at hx
  rcases hx with hx|rfl
  ·exact hk.nn x hx
  ·exact ho.1
 ·intro x hx
  simp only [ZK.grow,Xb,W2] at hx
  rcases hx with hx|rfl
  ·exact hk.bd x hx
  ·exact ho.2
theorem Ms {xs:LI} {k:Nat} {a:Int} {j:Int} (h:xs.length<=j.toNat/\j.toNat<xs.length+k):gI (xs++List.replicate k a) j=a:=by
 rw [gI,E7 h.1,List.getElem?_replicate,Zj om];rfl
theorem Mt {xs:LI} {x j c:Int} (h:j.toNat=x.toNat) (hl:x.toNat<xs.length):gI (xs.set x.toNat c) j=c:=by
 rw [gI,h,List.getElem?_set_self hl];rfl
theorem Mu {xs:LI} {x j c:Int} (h:j.toNat≠x.toNat):gI (xs.set x.toNat c) j=gI xs j:=by
 rw [gI,gI,List.getElem?_set_ne (fun q=>h q.symm)]
theorem MN {p:Int}:∀(fs:LI) (L:ZK),Bn L p fs=⟨L.vars++fs,L.own++List.replicate fs.length 0,L.par++List.replicate fs.length p,L.con++List.replicate fs.length (-1),
  L.fst++List.replicate fs.length (-1),L.tok++List.replicate fs.length (-1)⟩
 | [],L=>by simp [Bn]
 | t::r,L=>by rw [Bn,MN r];simp [ZK.grow,IW]
theorem RM {ds:List Ze} {L:ZK} {q x c:Int} (hk:XD ds L q) (hq:0<=q) (hx:0<=x/\x<L.vars.length):XD ds (Bd ds L x c) q/\(Bd ds L x c).vars=L.vars++ZX ds c:=by
 obtain ⟨f1,f2,f3,f4,f5⟩:=hk.len
 rw [Bd,MN]
 refine ⟨⟨⟨by simp [f1],by simp [f2],by simp [f3],by simp [f4],by simp [f5]⟩,?_,?_,?_,?_⟩,rfl⟩
 ·intro j hj hl
  simp only [Yx] at hl ⊢
  by_cases hlt:j<L.vars.length
  ·rw [Cb om];exact hk.down j hj hlt
  ·rw [Ms om];omega
 ·intro y hy hl
  simp only [Yx] at hl ⊢
  by_cases hlt:y<L.vars.length
  ·rw [Cb (by simp;omega),Cb (by simp;omega)]
   by_cases he:y.toNat=x.toNat
   ·rw [Mt he om,Mt he om]
    intro _
    exact ⟨by omega,by simp⟩
   ·rw [Mu he,Mu he]
    intro hc
    have:=hk.arm y hy hlt hc
    exact ⟨this.1,by omega⟩
  ·rw [Ms (by simp;omega)];omega
 ·intro y hy
  simp only [Xb,List.mem_replicate] at hy
  rcases hy with hy|⟨_,rfl⟩
  ·exact hk.nn y hy
  ·exact Int.le_refl 0
 ·intro y hy
  simp only [Xb,List.mem_replicate] at hy
  rcases hy with hy|⟨_,rfl⟩
  ·exact hk.bd y hy
  ·exact hq
theorem Fc {n:Zq} {L:ZK} {q:Int} {s:Z4} {i:Nat} {m:LI} (hk:XD n.decls L q) (hq:0<=q) (hf:Ba n L.vars s) (hop:s.op=7∨s.op=8) (hm:(Xx n.decls s.op s.num)[i]? = some m) :
  XD n.decls (Tl n.decls L s.op s.num s.args i) q/\(Tl n.decls L s.op s.num s.args i).vars=L.vars++m:=by
 rw [Tl]
 split
 ·rename_i h8
  obtain ⟨a,ha⟩:=hf.one om
  have hb:=hf.args a (by rw [ha];simp)
  have hg:gI s.args 0=a:=by rw [ha];rfl
  rw [Xx,Z9 om,Kv] at hm
  cases hc:(ZW n.decls s.num)[i]? with
  | none=>rw [hc] at hm;cases hm
  | some c=>
   rw [hc] at hm
   cases hm
   have hgc:gI (ZW n.decls s.num) (i:Int)=c:=by rw [gI];simp [hc]
   rw [hg,hgc]
   exact RM hk hq hb
 ·rename_i h8
  rw [Xx,Zj om] at hm
  have:m=[]:=by
   match i,hm with
   | 0,hm=>simpa using hm.symm
   | 1,hm=>simpa using hm.symm
   | i+2,hm=>simp at hm
  subst this
  exact ⟨hk,by simp⟩
theorem PH {n:Zq}:∀{l:List Z4} {us vs:LI},WJ n l us=some vs->us.length<=vs.length
 | [],us,vs,h=>by rw [WJ] at h;cases h;exact X9 _
 | s::r,us,vs,h=>by
  rw [WJ] at h
  split at h
  ·cases h
  ·have:=PH h
   split at this
   ·simp only [Yx,Gg] at this;omega
   ·exact this
theorem MO {n:Zq} {ln:LI} {L L':ZK} {op num into q:Int} {args:LI} {ds:List Ze} (hk:XD ds L q) (h:KE n ln L op num into args=some L'):XD ds L' q/\L'.vars=L.vars:=by
 rw [KE] at h
 cases ht:QQ n op num args 0 L with
 | none=>rw [ht] at h;cases h
 | some L1=>
  rw [ht] at h
  simp only at h
  obtain ⟨k1,k2,k3,k4,k5,k6⟩:=Ht hk ht
  split at h
  ·rw [Dg] at h
   split at h
   ·split at h
    ·cases h
    ·cases h
     exact ⟨k1.turn rfl rfl rfl rfl (by simp) rfl k1.nn k1.bd,k2⟩
   ·cases h;exact ⟨k1,k2⟩
  ·cases h
theorem SA {L L':ZK} {m:Nat} (h:J4 L m=some L'):L'=L.take m/\B1 (L.own.drop m) (L.tok.drop m)=true:=by
 rw [J4] at h
 split at h
 ·rename_i hz;cases h;exact ⟨rfl,hz⟩
 ·cases h
theorem II {r:Option ZK} {f:ZK->Option ZK} {L:ZK} (h:DZ r f=some L):∃L1,r=some L1/\f L1=some L:=by
 cases r with
 | none=>cases h
 | some L1=>exact ⟨L1,rfl,h⟩
theorem Ny (n:Zq) (hn:Xe n) (ln:LI):∀m:Nat,
  (∀(s:Z4) (L L':ZK) (q:Int),s.sz<=m->XD n.decls L q->0<=q->0<=Yj n L.vars s->Qe n ln L s=some L'->XD n.decls L' (q+4*s.sz)/\L'.vars=QC n L.vars s) /\
  (∀(b:Z5) (L O:ZK) (q:Int) (k:Nat),b.sz<=m->XD n.decls L q->0<=q->0<=X7 n L.vars b->k<=L.vars.length->VO n ln L k b=some O ->
   (O.own.length=k/\O.tok.length=k/\(∀x∈O.own,0<=x/\x<=q+4*b.sz))/\T2 O/\O.vars.length=k):=by
 intro m
 induction m with
 | zero=>exact ⟨fun s _ _ _ h=>by have:=s.sz_pos;omega,fun s _ _ _ _ h=>by have:=s.sz_pos;omega⟩
 | succ m ih=>
  have hs:∀(s:Z4) (L L':ZK) (q:Int),s.sz<=m+1->XD n.decls L q->0<=q->0<=Yj n L.vars s->Qe n ln L s=some L'->XD n.decls L' (q+4*s.sz)/\L'.vars=QC n L.vars s:=by
   intro s L L' q Xv hk hq hty h
   have hp:=s.sz_pos
   have hf:=PG hty
   obtain ⟨f1,f2,f3,f4,f5⟩:=hk.len
   rw [PE] at h
   unfold Jd at h
   cases hpk:KJ n ln L s.op s.num s.into s.args (Kg n ln L s.op s.num s.args s.kids) with
   | none=>rw [hpk] at h;cases h
   | some L1=>
    rw [hpk] at h
    simp only at h
    have key:XD n.decls L1 (q+4*s.sz)/\L1.vars=L.vars:=by
     rw [KJ] at hpk
     split at hpk
     ·obtain ⟨d1,d2,d3,d4,d5,d6⟩:=LT hpk
      refine ⟨hk.turn d1 d2 d3 d4 (by rw [d5]) (by rw [d6,Tp]) ?_ ?_,d1⟩
      ·rw [d6];intro x hx
       rcases Jk hx with hx|rfl
       ·exact hk.nn x hx
       ·have:=Hl (v:=gI s.args 0) hk.nn;omega
      ·rw [d6];intro x hx
       rcases Jk hx with hx|rfl
       ·have:=hk.bd x hx;omega
       ·have:=Hh (v:=gI s.args 0) hk.bd hq;omega
     split at hpk
     ·exact ⟨(hk.take hpk).le om,(KO hpk).2.1⟩
     split at hpk
     ·rename_i hop
      obtain ⟨d1,d2,d3,d4,d5,Lt,ht,d6⟩:=O5 hpk
      have hkt:=hk.take ht
      have h3:=VP hn.decls (gI L.con (gI s.args 0))
      refine ⟨hk.turn d1 d2 d3 d4 d5 ?_ ?_ ?_,d1⟩
      ·rw [d6,Gt,(KO ht).2.2.2.2.2.2,Tp]
      ·rw [d6];exact Gu _ _ _ hkt.nn
      ·rw [d6];intro x hx
       have:=Gs _ _ _ q hq hkt.bd x hx;omega
     split at hpk
     ·rename_i hop
      split at hpk
      ·cases hpk
      ·cases hks:s.kids with
       | nil=>rw [hks,Kg] at hpk;cases hpk
       | cons b bs=>
        rw [hks,Kg] at hpk
        unfold Bv at hpk
        cases hb:VO n ln (Tl n.decls L s.op s.num s.args 0) L.vars.length b with
        | none=>rw [hb] at hpk;cases hpk
        | some one=>
         rw [hb] at hpk
         simp only at hpk
         split at hpk
         ·cases hpk
          obtain ⟨q1,q2,q3⟩:=hf.kids hop
          have hks0:s.kids[0]? = some b:=by rw [hks];rfl
          obtain ⟨a0,ha0⟩:=Jh (xs:=Xx n.decls s.op s.num) (j:=0) om
          obtain ⟨k1,k2⟩:=Fc hk hq hf hop ha0
          have hbz:=Us hks0
          obtain ⟨⟨r1,r2,r3⟩,_⟩:=ih.2 b _ one q L.vars.length om k1 hq (by rw [k2];exact q3 0 b a0 hks0 ha0) (by rw [k2];simp) hb
          refine ⟨hk.turn rfl rfl rfl rfl (by simp only;omega) (by simp only;omega) (fun x hx=>(r3 x hx).1) (fun x hx=>?_),rfl⟩
          have:=(r3 x hx).2;omega
         ·cases hpk
     ·obtain ⟨k1,k2⟩:=MO hk hpk
      exact ⟨k1.le om,k2⟩
    split at h
    ·rename_i hd
     cases h
     refine ⟨key.1.grow om ?_,by rw [QC,Zj hd];simp [ZK.grow,key.2]⟩
     split<;>omega
    ·rename_i hd
     cases h
     exact ⟨key.1,by rw [QC,Z9 hd];exact key.2⟩
  refine ⟨hs,?_⟩
  intro b L O q k Xv hk hq hty hkl h
  have hsteps:∀(l:List Z4) (L L':ZK) (q:Int) (vs:LI),Yw l<=m->XD n.decls L q->0<=q->WJ n l L.vars=some vs->KN n ln L l=some L'->XD n.decls L' (q+4*Yw l)/\L'.vars=vs:=by
   intro l
   induction l with
   | nil=>intro L L' q vs _ hk _ h1 h2;rw [WJ] at h1;rw [KN] at h2;cases h1;cases h2;exact ⟨by simpa [Yw] using hk,rfl⟩
   | cons s r ihr=>
    intro L L' q vs hz hk hq h1 h2
    rw [Yw] at hz
    rw [KN] at h2
    obtain ⟨L1,e1,e2⟩:=II h2
    rw [WJ] at h1
    split at h1
    ·cases h1
    ·rename_i h0
     obtain ⟨k1,k2⟩:=hs s L L1 q om hk hq om e1
     obtain ⟨k3,k4⟩:=ihr L1 L' (q+4*s.sz) vs om k1 om (by rw [k2];exact h1) e2
     exact ⟨k3.le (by rw [Yw];omega),k4⟩
  have hbz:=b.sz_eq
  rw [Gy] at h
  obtain ⟨L1,e1,e2⟩:=II h
  rw [Eh] at hty
  cases hv:WJ n b.steps L.vars with
  | none=>rw [hv] at hty;simp at hty
  | some vs=>
   obtain ⟨k1,k2⟩:=hsteps b.steps L L1 q vs om hk hq hv e1
   have hlen:=PH hv
   rw [Jc] at e2
   obtain ⟨L2,e3,e4⟩:=II e2
   have k3:XD n.decls L2 (q+4*Yw b.steps)/\L2.vars=L1.vars:=by
    split at e3
    ·exact ⟨k1.take e3,(KO e3).2.1⟩
    ·cases e3;exact ⟨k1,rfl⟩
   obtain ⟨rfl,_⟩:=SA e4
   obtain ⟨g1,g2,g3,g4,g5⟩:=k3.1.len
   have hl2:L2.vars.length=vs.length:=by rw [k3.2,k2]
   refine ⟨⟨by simp [ZK.take];omega,by simp [ZK.take];omega,fun x hx=>?_⟩,⟨by simp [ZK.take];omega,by simp [ZK.take];omega,by simp [ZK.take];omega,by simp [ZK.take];omega,by simp [ZK.take];omega⟩,by simp [ZK.take];omega⟩
   have hx':x∈L2.own:=TZ hx
   have:=k3.1.nn x hx'
   have:=k3.1.bd x hx'
   omega
theorem PF {n:Zq} (hn:Xe n) {ln:LI} {s:Z4} {L L':ZK} {q:Int} (hk:XD n.decls L q) (hq:0<=q) (hty:0<=Yj n L.vars s) (h:Qe n ln L s=some L'):XD n.decls L' (q+4*s.sz)/\L'.vars=QC n L.vars s:=
 (Ny n hn ln s.sz).1 s L L' q (X9 _) hk hq hty h
theorem Lo {n:Zq} (hn:Xe n) {ln:LI} {b:Z5} {L O:ZK} {q:Int} {k:Nat} (hk:XD n.decls L q) (hq:0<=q) (hty:0<=X7 n L.vars b) (hkl:k<=L.vars.length) (h:VO n ln L k b=some O) :
  O.own.length=k/\O.tok.length=k/\(∀x∈O.own,0<=x/\x<=q+4*b.sz):=
 ((Ny n hn ln b.sz).2 b L O q k (X9 _) hk hq hty hkl h).1
theorem DK {n:Zq} (hn:Xe n) {ln:LI} {s:Z4} {L L1:ZK} {q:Int} (hk:XD n.decls L q) (hq:0<=q) (hf:Ba n L.vars s)
  (hpk:KJ n ln L s.op s.num s.into s.args (Kg n ln L s.op s.num s.args s.kids)=some L1):XD n.decls L1 (q+4*s.sz)/\L1.vars=L.vars:=by
 have hp:=s.sz_pos
 obtain ⟨f1,f2,f3,f4,f5⟩:=hk.len
 rw [KJ] at hpk
 split at hpk
 ·obtain ⟨d1,d2,d3,d4,d5,d6⟩:=LT hpk
  refine ⟨hk.turn d1 d2 d3 d4 (by rw [d5]) (by rw [d6,Tp]) ?_ ?_,d1⟩
  ·rw [d6];intro x hx
   rcases Jk hx with hx|rfl
   ·exact hk.nn x hx
   ·have:=Hl (v:=gI s.args 0) hk.nn;omega
  ·rw [d6];intro x hx
   rcases Jk hx with hx|rfl
   ·have:=hk.bd x hx;omega
   ·have:=Hh (v:=gI s.args 0) hk.bd hq;omega
 split at hpk
 ·exact ⟨(hk.take hpk).le om,(KO hpk).2.1⟩
 split at hpk
 ·rename_i hop
  obtain ⟨d1,d2,d3,d4,d5,Lt,ht,d6⟩:=O5 hpk
  have hkt:=hk.take ht
  have h3:=VP hn.decls (gI L.con (gI s.args 0))
  refine ⟨hk.turn d1 d2 d3 d4 d5 ?_ ?_ ?_,d1⟩
  ·rw [d6,Gt,(KO ht).2.2.2.2.2.2,Tp]
  ·rw [d6];exact Gu _ _ _ hkt.nn
  ·rw [d6];intro x hx
   have:=Gs _ _ _ q hq hkt.bd x hx;omega
 split at hpk
 ·rename_i hop
  split at hpk
  ·cases hpk
  ·cases hks:s.kids with
   | nil=>rw [hks,Kg] at hpk;cases hpk
   | cons b bs=>
    rw [hks,Kg] at hpk
    unfold Bv at hpk
    cases hb:VO n ln (Tl n.decls L s.op s.num s.args 0) L.vars.length b with
    | none=>rw [hb] at hpk;cases hpk
    | some one=>
     rw [hb] at hpk
     simp only at hpk
     split at hpk
     ·cases hpk
      obtain ⟨q1,q2,q3⟩:=hf.kids hop
      have hks0:s.kids[0]? = some b:=by rw [hks];rfl
      obtain ⟨a0,ha0⟩:=Jh (xs:=Xx n.decls s.op s.num) (j:=0) om
      obtain ⟨k1,k2⟩:=Fc hk hq hf hop ha0
      have hbz:=Us hks0
      obtain ⟨r1,r2,r3⟩:=Lo hn k1 hq (by rw [k2];exact q3 0 b a0 hks0 ha0) (by rw [k2];simp) hb
      refine ⟨hk.turn rfl rfl rfl rfl (by simp only;omega) (by simp only;omega) (fun x hx=>(r3 x hx).1) (fun x hx=>?_),rfl⟩
      have:=(r3 x hx).2;omega
     ·cases hpk
 ·obtain ⟨k1,k2⟩:=MO hk hpk
  exact ⟨k1.le om,k2⟩
end Go.Abs
section
namespace Go.Abs
theorem RO {ds:List Ze} {op num:Int} {i:Nat} {m:LI} (h8:op=8) (h:(Xx ds op num)[i]? = some m):∃c,(ZW ds num)[i]? = some c/\m=ZX ds c:=by
 rw [Xx,Z9 om,Kv] at h
 cases hc:(ZW ds num)[i]? with
 | none=>rw [hc] at h;cases h
 | some c=>rw [hc] at h;cases h;exact ⟨c,rfl,rfl⟩
theorem Z5j {ds:List Ze} {L:ZK} {op num x c:Int} {args:LI} {i:Nat} (h8:op=8) (hx:args[0]? = some x) (hc:(ZW ds num)[i]? = some c):Tl ds L op num args i=Bd ds L x c:=by
 have h1:gI args 0=x:=by rw [gI];simp [hx]
 have h2:gI (ZW ds num) (i:Int)=c:=by rw [gI];simp [hc]
 rw [Tl,Zj h8,h1,h2]
theorem Z5k {ds:List Ze} {L:ZK} {op num:Int} {args:LI} {i:Nat} (h8:¬op=8):Tl ds L op num args i=L:=by rw [Tl,Z9 h8]
theorem Z5o {n:Zq} {ln:LI} {L:ZK} {op num:Int} {args:LI} {kids:List Z5} {kb:Z5} (h:kids[0]? = some kb) :
  Kg n ln L op num args kids=Bv L (VO n ln (Tl n.decls L op num args 0) L.vars.length kb) fun one=>KI n ln L op num args one (kids.drop 1) 1:=by
 cases kids with
 | nil=>simp at h
 | cons b bs=>simp at h;subst h;rw [Kg];rfl
theorem Z5p {n:Zq} {ln:LI} {L one:ZK} {op num:Int} {args:LI} {kids:List Z5} {kb:Z5} {k:Nat} (h:kids[k]? = some kb) :
  KI n ln L op num args one (kids.drop k) k=FJ one (VO n ln (Tl n.decls L op num args k) L.vars.length kb) (KI n ln L op num args one (kids.drop (k+1)) (k+1)):=by
 rw [Y9 h,KI]
def Bf (n:Zq) (ln:LI) (L:ZK) (s:Z4):Option ZK:=
 if s.op=8/\¬UL L ln (gI s.args 0)=true then none else Kg n ln L s.op s.num s.args s.kids
theorem S7 {n:Zq} {ln:LI} {L:ZK} {s:Z4} {kb:Z5} (h:¬(s.op=8/\¬UL L ln (gI s.args 0)=true)) (hk:s.kids[0]? = some kb) :
  Bf n ln L s=Bv L (VO n ln (Tl n.decls L s.op s.num s.args 0) L.vars.length kb) fun one=>KI n ln L s.op s.num s.args one (s.kids.drop 1) 1:=by
 rw [Bf,Z9 h,Z5o hk]
theorem JR {xs:LI} {x:Int} (h:xs[0]? = some x):gI xs 0=x:=by rw [gI];simp [h]
end Go.Abs
namespace Go.Abs
theorem T2.grow {L:ZK} {t o p:Int} (h:T2 L):T2 (L.grow t o p):=by
 obtain ⟨f1,f2,f3,f4,f5⟩:=h
 exact ⟨by simp [ZK.grow,f1],by simp [ZK.grow,f2],by simp [ZK.grow,f3],by simp [ZK.grow,f4],by simp [ZK.grow,f5]⟩
theorem T2.arm {L:ZK} {i j:Nat} {c d:Int} (h:T2 L):T2 ⟨L.vars,L.own,L.par,L.con.set i c,L.fst.set j d,L.tok⟩:=by
 obtain ⟨f1,f2,f3,f4,f5⟩:=h
 exact ⟨f1,f2,by simp [f3],by simp [f4],f5⟩
end Go.Abs
namespace Go.Abs
theorem Nk {n:Zq} (hn:Xe n) {ln:LI} {L O:ZK} {q:Int} {s:Z4} {i:Nat} {kb:Z5} {m:LI} (hk:XD n.decls L q) (hq:0<=q) (hf:Ba n L.vars s) (hop:s.op=7∨s.op=8)
  (_:s.kids[i]? = some kb) (harm:(Xx n.decls s.op s.num)[i]? = some m) (hbt:0<=X7 n (L.vars++m) kb) (h:VO n ln (Tl n.decls L s.op s.num s.args i) L.vars.length kb=some O) :
  O.own.length=L.vars.length/\O.tok.length=L.vars.length:=by
 obtain ⟨k1,k2⟩:=Fc hk hq hf hop harm
 obtain ⟨r1,r2,_⟩:=Lo hn k1 hq (by rw [k2];exact hbt) (by rw [k2];simp) h
 exact ⟨r1,r2⟩
theorem Z9q {one two:ZK} {r:Bool} (h:¬(¬one.own=two.own∨¬one.tok=two.tok)):FJ one (some two) r=r:=Zj ⟨Wn.1 fun q=>h (.inl q),Wn.1 fun q=>h (.inr q)⟩
theorem Z9p {one two:ZK} {r:Bool} (h:¬one.own=two.own∨¬one.tok=two.tok):FJ one (some two) r=false:=Z9 fun q=>h.elim (fun z=>z q.1) fun z=>z q.2
theorem Z6l {L one:ZK} {f:ZK->Bool} (h:f one=true):Bv L (some one) f=some ⟨L.vars,one.own,L.par,L.con,L.fst,one.tok⟩:=Zj h
theorem ND {L one:ZK} {f:ZK->Bool} (h:f one=false):Bv L (some one) f=none:=Z9 (by rw [h];simp)
end Go.Abs
namespace Go.Abs
section
variable {n:Zq} {ln:LI} {L:ZK} {s:Z4}
abbrev Jn (n:Zq) (ln:LI) (L:ZK) (s:Z4):Option ZK:=KJ n ln L s.op s.num s.into s.args (Kg n ln L s.op s.num s.args s.kids)
theorem O8 {x:Int} (h:s.op=14) (hx:gI s.args 0=x):Jn n ln L s=Bh L ln x:=hx▸Zj h
theorem O9 {x:Int} (h:s.op=15) (hx:gI s.args 0=x):Jn n ln L s=TH L x:=by rw [<-hx,Jn,KJ,Z9 om,Zj h]
theorem Oa {x:Int} (h:s.op=16∨s.op=17) (hx:gI s.args 0=x):Jn n ln L s=Jm n.decls L s.op x:=by rw [<-hx,Jn,KJ,Z9 om,Z9 om,Zj h]
theorem Ob (h:s.op=7∨s.op=8):Jn n ln L s=Bf n ln L s:=by rw [Jn,KJ,Z9 om,Z9 om,Z9 om,Zj h,Bf]
theorem Oc (h1:¬s.op=14) (h2:¬s.op=15) (h3:¬(s.op=16∨s.op=17)) (h4:¬(s.op=7∨s.op=8)):Jn n ln L s=KE n ln L s.op s.num s.into s.args:=by
 rw [Jn,KJ,Z9 h1,Z9 h2,Z9 h3,Z9 h4]
theorem Z02 {v:Int} (h:¬UL L ln v=true):Bh L ln v=none:=Z9 h
theorem Z03 {v x:Int} (h:¬¬UL L ln v=true) (hx:gI L.own v=x):Bh L ln v=some ⟨L.vars,L.own.set v.toNat (x+1),L.par,L.con,L.fst,L.tok⟩:=by rw [Bh,Zj (Wn.1 h),hx]
theorem UZ (n:Zq) (ln:LI) (L:ZK) (s:Z4):Qe n ln L s=Jd L s.op (Yj n L.vars s) (Jn n ln L s):=PE n ln L s
theorem UQ {X:ZK} {op t:Int} (h:XT op=true/\t≠0):Jd L op t (some X)=some (X.grow t 1 (-1)):=by
 unfold Jd;simp only [h.1,↓reduceIte];rw [Zj h.2]
theorem UR {X:ZK} {op t:Int} (h:¬(XT op=true/\t≠0)) (h2:XT op=true):Jd L op t (some X)=some (X.grow 0 0 (-1)):=by
 have ht:t=0:=Wn.1 fun q=>h ⟨h2,q⟩
 subst ht
 unfold Jd;simp only [h2,↓reduceIte];rfl
theorem US {X:ZK} {op t:Int} (h:¬XT op=true):Jd L op t (some X)=some X:=by
 unfold Jd;simp only [Z9 h]
end
end Go.Abs
namespace Go.Abs
theorem Lq {n:Zq} {us:LI} {b:Z5} (h:0<=X7 n us b):∃vs t,WJ n b.steps us=some vs/\Xo vs b.result=some t/\0<=t:=by
 rw [Eh] at h
 cases hv:WJ n b.steps us with
 | none=>rw [hv] at h;simp at h
 | some vs=>
  rw [hv] at h
  simp only at h
  cases ha:Xo vs b.result with
  | none=>rw [ha] at h;simp at h
  | some t=>rw [ha] at h;exact ⟨vs,t,rfl,ha,h⟩
theorem PJ {n:Zq} {us vs:LI} {s:Z4} {r:List Z4} (h:WJ n (s::r) us=some vs):0<=Yj n us s/\WJ n r (QC n us s)=some vs:=by
 rw [WJ] at h
 split at h
 ·cases h
 ·exact ⟨by omega,h⟩
theorem P1 (n:Zq) (us:LI) (s:Z4):us.length<=(QC n us s).length/\(QC n us s).length<=us.length+s.sz:=by
 have:=s.sz_pos
 rw [QC];split
 ·simp only [Yx,Gg];omega
 ·omega
end Go.Abs
namespace Go.Abs
theorem Z0r {X L:ZK} {m:Nat} {r x:Int} (hg:gI L.vars r=x) (h:x≠0) (ht:TH L r=some X):Jc m r L=J4 X m:=by rw [Jc,hg,Zj h,ht];rfl
theorem Z0q {L:ZK} {m:Nat} {r x:Int} (hg:gI L.vars r=x) (h:x≠0) (ht:TH L r=none):Jc m r L=none:=by rw [Jc,hg,Zj h,ht];rfl
theorem D5 {L:ZK} {m:Nat} {r x:Int} (hg:gI L.vars r=x) (h:¬x≠0):Jc m r L=J4 L m:=by rw [Jc,hg,Z9 h];rfl
end Go.Abs
namespace Go.Abs
theorem O7 {ds:List Ze} {lent:LI}:∀{ps:LI} {i:Nat} {L:ZK},XD ds L 1->XD ds (A5 lent ps i L) 1/\(A5 lent ps i L).vars=L.vars++ps
 | [],i,L,hk=>⟨hk,by simp [A5]⟩
 | t::r,i,L,hk=>by
  rw [A5]
  obtain ⟨k1,k2⟩:=O7 (lent:=lent) (ps:=r) (i:=i+1) (hk.grow (t:=t) (o:=if t≠0/\¬(i:Int)∈lent then 1 else 0) (p:=-1) om (by split<;>omega))
  exact ⟨k1,by rw [k2];simp [ZK.grow]⟩
theorem Z6o (ds:List Ze) (r:ZV):XD ds (Kk r) 1/\(Kk r).vars=r.params:=by
 have h:XD ds (⟨[],[],[],[],[],[]⟩:ZK) 1:=⟨⟨rfl,rfl,rfl,rfl,rfl⟩,fun j h1 h2=>by simp at h2;omega,fun j h1 h2=>by simp at h2;omega,by simp,by simp⟩
 obtain ⟨k1,k2⟩:=O7 (lent:=r.lent) (ps:=r.params) (i:=0) h
 exact ⟨k1,by rw [Kk,k2];rfl⟩
end Go.Abs
namespace Go.Abs
theorem If {n:Zq}:∀{l:List ZV},TC n l=true->∀r∈l,¬Td r.body<0/\X7 n r.params r.body=r.result
 | [],_,r,h=>by simp at h
 | a::l,h,r,hr=>by
  rw [TC] at h
  split at h
  ·rename_i h1
   rcases YH.1 hr with rfl|hr
   ·exact h1
   ·exact If h r hr
  ·cases h
theorem IP {n:Zq} (hz:Ua n) (h:V8 n=true):Xe n/\∀r∈n.routines,0<=X7 n r.params r.body:=by
 simp only [V8,Xl] at h
 refine ⟨HZ hz h.1,fun r hr=>?_⟩
 rw [(If h.2 r hr).2]
 have h1:=h.1
 simp only [VW,Qh,Xl] at h1
 have:=FM h1.2.1.2.2.1 (Vz r) (XH.2 ⟨r,hr,rfl⟩)
 simp only [QU,Xl,decide_eq_true_eq,Vz] at this
 exact (of_decide_eq_true this.2.2).1
end Go.Abs
end
section
namespace Go.Abs
theorem Z0g {xs:LI} (h:Z7 xs=[]):xs=[]:=by cases xs with|nil=>rfl|cons x r=>cases h
theorem Z07 {xs:List Y8} (h:XF xs=[]):xs=[]:=by cases xs with|nil=>rfl|cons x r=>cases h
theorem Z0a {xs:List Ze} (h:Yz xs=[]):xs=[]:=by cases xs with|nil=>rfl|cons x r=>cases h
end Go.Abs
namespace Go.Abs
theorem Mn (xss:List LI) (k:Nat):(xss.take k).flatten.length<=xss.flatten.length:=by
 conv=>rhs;rw [<-T1 k xss,List.flatten_append,Yx]
 omega
end Go.Abs
namespace Go.Abs
theorem Hf {xss:List LI} {k:Nat} {x:LI} (h:xss[k]? = some x):(xss.take (k+1)).flatten=(xss.take k).flatten++x:=by rw [Ww h,List.flatten_append];simp
theorem Mm {xss:List LI} {k:Nat} {x:LI} (h:xss[k]? = some x):(xss.take k).flatten.length+x.length<=xss.flatten.length:=by
 have:=Mn xss (k+1)
 rw [Hf h,Yx] at this
 exact this
end Go.Abs
end
section
namespace Go.Abs
theorem Sl {c:Int} {ds:List Ze} {k:Nat} {d:Ze} {r:Int × LI} (h:ds[k]? = some d) (hn:¬(c-YL (ds.take k)>=0/\c-YL (ds.take k)<d.cons.length))
  (hr:UM c (ds.drop k) k (YL (ds.take k))=r):UM c (ds.drop (k+1)) (k+1) (YL (ds.take (k+1)))=r:=by
 rw [Y9 h,UM,Z9 om] at hr
 rw [Ww h,CW,<-hr];rfl
end Go.Abs
namespace Go.Abs
theorem Sn {c:Int} {ds:List Ze} {k:Nat} {d:Ze} {x:Y8} (h:ds[k]? = some d) (hn:c-YL (ds.take k)>=0/\c-YL (ds.take k)<d.cons.length)
  (hx:d.cons[(c-YL (ds.take k)).toNat]? = some x):UM c (ds.drop k) k (YL (ds.take k))=((k:Int)+1,x.fields):=by
 rw [Y9 h,UM,Zj om,hx];rfl
def Ai (c:Int) (z:Nat) (v:Int):Prop:=v=c-z∨(c<0/\c-z < -9223372036854775808/\v=c-z+18446744073709551616)
theorem RR {c:Int} {z l:Nat} {v:Int} (h:Ai c z v) (hz:z<=100) (hl:l<=3) (hc:-9223372036854775808<=c/\c<=9223372036854775807):Ai c (z+l) (BJ (v-l)):=by
 unfold Ai at *;rw [BJ,IntKind.wrap_i64];omega
theorem Sm {c v:Int} {ds:List Ze} {k:Nat} {d:Ze} {r:Int × LI} (h:ds[k]? = some d) (ha:Ai c (YL (ds.take k)) v) (hn:¬(v>=0/\v<d.cons.length))
  (hr:UM c (ds.drop k) k (YL (ds.take k))=r):UM c (ds.drop (k+1)) (k+1) (YL (ds.take (k+1)))=r:=Sl h (by unfold Ai at ha;omega) hr
theorem So {c v:Int} {ds:List Ze} {k:Nat} {d:Ze} {x:Y8} (h:ds[k]? = some d) (ha:Ai c (YL (ds.take k)) v) (hz:YL (ds.take k)<=100) (hl:d.cons.length<=3) (hc:-9223372036854775808<=c)
  (hn:v>=0/\v<d.cons.length) (hx:d.cons[v.toNat]? = some x):UM c (ds.drop k) k (YL (ds.take k))=((k:Int)+1,x.fields):=by
 have:v=c-(YL (ds.take k):Int):=by unfold Ai at ha;omega
 subst this
 exact Sn h hn hx
def Vo (ds:List Ze) (t:Int):Ze:=if XQ ds t=true then (ds[(t-1).toNat]?).getD ⟨0,0,[]⟩ else ⟨0,0,[]⟩
end Go.Abs
namespace Go.Abs
abbrev LR (ds:List Ze) (d:Ze):Prop:=
 (((¬(0<=d.frm/\d.frm<=ds.length))∨(¬(0<=d.to_/\d.to_<=ds.length)))∨((d.cons.length:Int)>3))∨(((d.cons.length:Int)>0)/\((d.frm≠0)∨(d.to_≠0)))
theorem SW {ds:List Ze} {d:Ze} {i:Nat} (h:LR ds d):Up ds d i=false:=by
 rw [Up]
 split
 ·rw [Z9];rintro ⟨h1,h2,h3⟩
  rcases h with ((h|h)|h)|h<;>omega
 ·split
  ·rfl
  ·rcases h with ((h|h)|h)|h
   ·rw [decide_eq_false h];rfl
   ·rw [decide_eq_false h,Bool.and_false]
   ·omega
   ·omega
theorem SX {ds:List Ze} {d:Ze} {i:Nat} (hl:0<d.cons.length) (h:Tg ds.length d.cons=false):Up ds d i=false:=by
 rw [Up,Zj hl];split
 ·exact h
 ·rfl
theorem SY {ds:List Ze} {d:Ze} {i:Nat} (hl:d.cons.length=0) (h:Qp d (ds.take i)=true):Up ds d i=false:=by
 rw [Up,Z9 om,Zj h]
theorem SZ {ds:List Ze} {d:Ze} {i:Nat} (h1:¬LR ds d) (h2:Tg ds.length d.cons=true) (h3:d.cons.length=0->Qp d (ds.take i)=false):Up ds d i=true:=by
 rw [Up]
 have ha:0<=d.frm/\d.frm<=ds.length:=Wn.1 fun q=>h1 (.inl (.inl (.inl q)))
 have hb:0<=d.to_/\d.to_<=ds.length:=Wn.1 fun q=>h1 (.inl (.inl (.inr q)))
 have hc:¬(d.cons.length:Int)>3:=fun q=>h1 (.inl (.inr q))
 split
 ·rename_i hl
  have hd:¬(d.frm≠0∨d.to_≠0):=fun q=>h1 (.inr ⟨by omega,q⟩)
  rw [Zj ⟨by omega,by omega,by omega⟩];exact h2
 ·rw [Z9 (by rw [h3 om];simp),decide_eq_true ha,decide_eq_true hb];rfl
theorem IQ {ds:List Ze} {k:Nat} {d:Ze} (h:ds[k]? = some d) (hA:Up ds d k=false) (c:UN ds (ds.drop k) k=UN ds ds 0):false=WF ds:=by
 rw [WF,<-c,Y9 h,UN,CX h,hA,Z9 (by simp),Bool.and_false]
theorem Zd5 {ds:List Ze} {k:Nat} {d:Ze} {r:Bool} (h:ds[k]? = some d) (hA:Up ds d k=true) (c:UN ds (ds.drop k) k=r):UN ds (ds.drop (k+1)) (k+1)=r:=by
 rw [Y9 h,UN,CX h,hA,Zj rfl] at c;exact c
theorem Zd4 {ds:List Ze} {k:Nat} (hl:ds.length<=4) (hk:ds.length<=k) (c:UN ds (ds.drop k) k=UN ds ds 0):true=WF ds:=by
 rw [WF,<-c,Xf hk,decide_eq_true hl];rfl
theorem Sp {m:Nat} {c:Y8} (h:((c.fields.length:Int)>3)∨(¬(W7 m c.fields=true))):Kz m c=false:=by
 rw [Kz]
 rcases h with h|h
 ·rw [decide_eq_false om];rfl
 ·rw [To.2 h,Bool.and_false]
theorem Sq {m:Nat} {c:Y8} (h:¬(((c.fields.length:Int)>3)∨(¬(W7 m c.fields=true)))):Kz m c=true:=by
 rw [Kz,Wn.1 fun q=>h (.inr q),decide_eq_true (by have:¬(c.fields.length:Int)>3:=fun q=>h (.inl q);omega)];rfl
end Go.Abs
end
section
namespace Go.Abs
structure WS where
 pms:LI
 lnt:LI
 res:Int
abbrev Nu (f:WS):List AV:=[Z6 f.pms,Z6 f.lnt,.i f.res]
abbrev Gp (f:WS):AV:=.agg (Nu f)
def T5 (fs:List WS):List AV:=fs.map Gp
abbrev Cr (xs:List WS):AV:=.sl (T5 xs) none
abbrev Fs (xs:List WS) (v:Value):AV:=.sl (T5 xs) (some v)
theorem C5 {xs:List WS} {j:Nat} {x:WS} (h:xs[j]? = some x):(T5 xs)[j]? = some (Gp x):=by simp [T5,h]
@[simp] theorem D4 (xs:List WS):(T5 xs).length=xs.length:=by simp [T5]
theorem LX (xs:List WS):∀y∈T5 xs,y.leaves.length=3:=by intro y hy;simp only [T5,XH] at hy;obtain ⟨x,_,rfl⟩:=hy;rfl
theorem Z0k (xs:List WS):(Zb (T5 xs)).all AV.one=true:=Je fun y hy=>by simp only [T5,XH] at hy;obtain ⟨x,_,rfl⟩:=hy;rfl
def XR (r:ZV):WS:=⟨r.params,r.lent,r.result⟩
def Jo (m:Nat) (f:WS):Bool:=QU m ⟨f.pms,f.res⟩&&Kr f.pms f.lnt
def QV (m:Nat):List WS->Bool
 | []=>true
 | f::r=>if Jo m f=true then QV m r else false
def H9:List WS->Bool
 | []=>false
 | f::_=>decide (f.pms.length=0)&&decide (f.res=0)
def Ks (ds:List Ze) (fs:List WS):Bool:=WF ds&&(decide (1<=fs.length/\fs.length<=4)&&(H9 fs&&QV ds.length fs))
theorem Me {fs:List WS} {x:WS} (h:fs[0]? = some x):H9 fs=(decide (x.pms.length=0)&&decide (x.res=0)):=by
 cases fs with
 | nil=>simp at h
 | cons f r=>simp at h;subst h;rfl
theorem P8 (m:Nat):∀rs:List ZV,QV m (rs.map XR)=(Km m (rs.map Vz)&&Ki rs)
 | []=>rfl
 | r::rs=>by
  simp only [VM,QV,Km,Ki,Jo,P8 m rs]
  simp only [XR,Vz]
  by_cases h1:QU m { params:=r.params,result:=r.result }=true<;>by_cases h2:Kr r.params r.lent=true<;>simp [h1,h2]
theorem NH (n:Zq):VW n=(decide (n.routines.length<=4)&&Ks n.decls (n.routines.map XR)):=by
 have hf:H9 (n.routines.map XR)=EG (n.routines.map Vz):=by
  cases n.routines with
  | nil=>rfl
  | cons r rs=>rfl
 rw [VW,Ks,Qh,P8,hf]
 simp only [TY]
 cases decide (n.routines.length<=4)<;>cases WF n.decls<;>cases decide (1<=n.routines.length/\n.routines.length<=4)<;>cases Km n.decls.length (n.routines.map Vz) <;>
  cases EG (n.routines.map Vz)<;>cases Ki n.routines<;>rfl
theorem FK {rs:List ZV} {j:Nat} {x:WS} (h:(rs.map XR)[j]? = some x):∃r,rs[j]? = some r/\x=XR r:=by
 rw [Kv] at h
 cases hr:rs[j]? with
 | none=>rw [hr] at h;cases h
 | some r=>rw [hr] at h;cases h;exact ⟨r,rfl,rfl⟩
theorem NA {ps ls:LI} {j:Nat} {v:Int} {r:Bool} (h:ls[j]? = some v) (hg:(0<=v/\v<=(ps.length:Int)-1)/\ps[v.toNat]?≠some 0/\(∀p,(if j=0 then none else ls[j-1]?)=some p->p<v))
  (hr:Qx ps (ls.drop j) (if j=0 then none else ls[j-1]?)=r):Qx ps (ls.drop (j+1)) (if j+1=0 then none else ls[j+1-1]?)=r:=by
 rw [Y9 h,HT hg] at hr
 rw [Z9 om,show j+1-1=j from rfl,h];exact hr
theorem HU {ps ls:LI} {j:Nat} {v:Int} {r:Bool} (h:ls[j]? = some v) (hg:¬((0<=v/\v<=(ps.length:Int)-1)/\ps[v.toNat]?≠some 0/\(∀p,(if j=0 then none else ls[j-1]?)=some p->p<v)))
  (hr:Qx ps (ls.drop j) (if j=0 then none else ls[j-1]?)=r):r=false:=by
 rw [Y9 h,Fj hg] at hr;exact hr.symm
theorem FL {m:Nat} {fs:List WS} {k:Nat} {f:WS} {r:Bool} (h:fs[k]? = some f) (hb:Jo m f=false) (hr:QV m (fs.drop k)=r):r=false:=by
 rw [Y9 h,QV,hb,Z9 (by simp)] at hr;exact hr.symm
theorem Za4 {m:Nat} {fs:List WS} {k:Nat} {f:WS} {r:Bool} (h:fs[k]? = some f) (hb:Jo m f=true) (hr:QV m (fs.drop k)=r):QV m (fs.drop (k+1))=r:=by
 rw [Y9 h,QV,Zj hb] at hr;exact hr
end Go.Abs
namespace Go.Abs
section
variable {ds:List Ze} {fs:List WS} {x:WS}
theorem Zdb (h:((¬(WF ds=true))∨((fs.length:Int)<1))∨((fs.length:Int)>4)):false=Ks ds fs:=by
 rw [Ks]
 rcases h with (h|h)|h
 ·rw [To.2 h];rfl
 ·rw [decide_eq_false (p:=1<=fs.length/\fs.length<=4) om];simp
 ·rw [decide_eq_false (p:=1<=fs.length/\fs.length<=4) om];simp
theorem R6 (hx:fs[0]? = some x) (h:((x.pms.length:Int)>0)∨x.res≠0):false=Ks ds fs:=by
 rw [Ks,Me hx]
 rcases h with h|h
 ·rw [decide_eq_false (p:=x.pms.length=0) om];simp
 ·rw [decide_eq_false (p:=x.res=0) h];simp
theorem G6 (h:QV ds.length fs=false):false=Ks ds fs:=by rw [Ks,h];simp
theorem Zdc (h:¬(((¬(WF ds=true))∨((fs.length:Int)<1))∨((fs.length:Int)>4))) (hx:fs[0]? = some x) (h1:¬((x.pms.length:Int)>0)) (h2:¬x.res≠0) (h3:QV ds.length fs=true) :
  true=Ks ds fs:=by
 have hv:WF ds=true:=Wn.1 fun q=>h (.inl (.inl q))
 have ha:¬(fs.length:Int)<1:=fun q=>h (.inl (.inr q))
 have hb:¬(fs.length:Int)>4:=fun q=>h (.inr q)
 rw [Ks,Me hx,hv,h3,decide_eq_true (p:=1<=fs.length/\fs.length<=4) om,decide_eq_true (p:=x.pms.length=0) om,decide_eq_true (p:=x.res=0) (Wn.1 h2)];rfl
abbrev P7 (m:Nat) (x:WS):Prop:=(((x.pms.length:Int)>3)∨(¬(W7 m x.pms=true)))∨(¬(0<=x.res/\x.res<=m))
theorem Z9k {m:Nat} (h:P7 m x):Jo m x=false:=by
 rw [Jo,QU]
 rcases h with (h|h)|h
 ·rw [decide_eq_false (p:=x.pms.length<=3) om];simp
 ·rw [To.2 h];simp
 ·rw [decide_eq_false h];simp
theorem Il {m:Nat} (h:Kr x.pms x.lnt=false):Jo m x=false:=by rw [Jo,h,Bool.and_false]
theorem Z9l {m:Nat} (h:¬P7 m x) (hl:Kr x.pms x.lnt=true):Jo m x=true:=by
 have h1:¬(x.pms.length:Int)>3:=fun q=>h (.inl (.inl q))
 rw [Jo,QU,hl,decide_eq_true (p:=x.pms.length<=3) om,Wn.1 fun q=>h (.inl (.inr q)),decide_eq_true (Wn.1 fun q=>h (.inr q))];rfl
end
end Go.Abs
namespace Go.Abs
abbrev TG (n:Zq):AV:=Cr (n.routines.map XR)
end Go.Abs
end
section
namespace Go.Abs
def W8 (us:LI):LI->Option LI
 | []=>some []
 | a::r=>match Xo us a with
  | none=>none
  | some t=>match W8 us r with
   | none=>none
   | some ts=>some (t::ts)
theorem IL {us:LI}:∀{args ts:LI},W8 us args=some ts->∀tys,XY us args tys=true↔ts=tys
 | [],ts,h,tys=>by
  rw [W8] at h;cases h
  cases tys with
  | nil=>simp [XY,Te]
  | cons t r=>simp [XY,Te]
 | a::r,ts,h,tys=>by
  rw [W8] at h
  cases ha:Xo us a with
  | none=>rw [ha] at h;cases h
  | some t=>
   rw [ha] at h
   cases hr:W8 us r with
   | none=>rw [hr] at h;cases h
   | some tr=>
    rw [hr] at h;cases h
    cases tys with
    | nil=>simp [XY,Te]
    | cons t2 r2=>
     rw [XY,Te,ha]
     have:=IL hr r2
     rw [XY] at this
     by_cases he:t=t2
     ·subst he;simp [this]
     ·rw [Z9 (fun q=>he (Ah q))];simp [he]
theorem Ld {us:LI}:∀{args ts:LI},W8 us args=some ts->ts.length=args.length
 | [],ts,h=>by rw [W8] at h;cases h;rfl
 | a::r,ts,h=>by
  rw [W8] at h
  cases ha:Xo us a with
  | none=>rw [ha] at h;cases h
  | some t=>
   rw [ha] at h
   cases hr:W8 us r with
   | none=>rw [hr] at h;cases h
   | some tr=>rw [hr] at h;cases h;simp [Ld hr]
theorem Le {us:LI} {b t:Int}:∀{xs ts:LI},W8 us xs=some ts->Xo us b=some t->W8 us (xs++[b])=some (ts++[t])
 | [],ts,h,hb=>by rw [W8] at h;cases h;simp [W8,hb]
 | a::r,ts,h,hb=>by
  rw [W8] at h
  cases ha:Xo us a with
  | none=>rw [ha] at h;cases h
  | some u=>
   rw [ha] at h
   cases hr:W8 us r with
   | none=>rw [hr] at h;cases h
   | some tr=>
    rw [hr] at h;cases h
    rw [Qj,W8,ha,Le hr hb];rfl
def CR (n:Zq) (num:Int):LI->Option Int
 | [a,b]=>if XQ n.decls a=true/\b=(Vo n.decls a).frm/\num=0 then some (Vo n.decls a).to_ else none
 | _=>none
def XB (n:Zq) (op num:Int) (ts:LI):Option Int:=
 if op=0 then (if (-999<=num/\num<=999)/\ts.length=0 then some 0 else none)
 else if op=1∨op=2∨op=3∨op=4 then (if num=0/\ts=[0,0] then some 0 else none)
 else if op=5 then (if num=0/\ts=[0] then some 0 else none)
 else if op=11 then CR n num ts
 else if op=6 then (if 0<=W3 n.decls num/\ts=ZX n.decls num then some (W3 n.decls num) else none)
 else if op=9 then (match Xo n.routines num with
  | none=>none
  | some r=>if ts=r.params then some r.result else none)
 else if op=10 then (match Xo n.routines num with
  | none=>none
  | some r=>if r.params.length≠0/\0<=Ka n.decls r.params r.result/\ts=r.params.take (r.params.length-1) then some (Ka n.decls r.params r.result) else none)
 else none
theorem Ee {n:Zq} {num:Int} {ts:LI} (h:ts.length≠2):CR n num ts=none:=by
 match ts,h with
 | [],_=>rfl
 | [_],_=>rfl
 | [_,_],h=>simp at h
 | _::_::_::_,_=>rfl
structure BO (n:Zq):Prop where
 result:∀r∈n.routines,0<=r.result
 params:∀r∈n.routines,∀p∈r.params,0<=p
 decl:∀d∈n.decls,d.cons.length=0->0<=d.frm/\0<=d.to_
 fields:∀c,∀f∈ZX n.decls c,0<=f
abbrev N3 (us:LI) (s:Z4):Prop:=s.into≠0/\(((s.op≠6∨s.into<1)∨s.into>us.length)∨gI us (s.into-1)=0)
theorem Z5b {us:LI} {op into:Int} (hnn:∀t∈us,0<=t) (h:¬(into≠0/\(((op≠6∨into<1)∨into>us.length)∨gI us (into-1)=0))):Uk us op into=true:=by
 rw [Uk]
 split
 ·rfl
 ·rename_i h0
  have h1:¬(((op≠6∨into<1)∨into>us.length)∨gI us (into-1)=0):=fun q=>h ⟨h0,q⟩
  have h2:op=6:=Wn.1 fun q=>h1 (.inl (.inl (.inl q)))
  have h3:¬into<1:=fun q=>h1 (.inl (.inl (.inr q)))
  have h4:¬into>us.length:=fun q=>h1 (.inl (.inr q))
  have h5:¬gI us (into-1)=0:=fun q=>h1 (.inr q)
  obtain ⟨t,ht⟩:=Jh (xs:=us) (j:=(into-1).toNat) om
  rw [Zj h2,Q2 om ht]
  rw [Tj ht] at h5
  have:=hnn t (Y1 ht)
  simp;omega
theorem Z5a {us:LI} {op into:Int} (h:into≠0/\(((op≠6∨into<1)∨into>us.length)∨gI us (into-1)=0)):Uk us op into=false:=by
 obtain ⟨h0,h⟩:=h
 rw [Uk,Z9 h0]
 split
 ·rename_i h6
  cases ha:Xo us (into-1) with
  | none=>rfl
  | some t=>
   obtain ⟨a1,a2⟩:=Aq ha
   rcases h with ((h|h)|h)|h
   ·exact absurd h6 h
   ·omega
   ·omega
   ·rw [Tj a2] at h;subst h;rfl
 ·rfl
theorem Zc8 {n:Zq} {us:LI} {s:Z4} (h:N3 us s):Yj n us s=-1:=by
 rw [BE,Zj (.inr (.inl (by rw [Z5a h];simp)))]
end Go.Abs
namespace Go.Abs
theorem Z5c {α:Type} {c:Prop} [Decidable c] {v:α}:(if c then some v else none).isSome=decide c:=by split<;>simp_all
theorem Za5 {n:Zq} (hty:BO n) {op num:Int} {ts:LI} {x:Int} (h:XB n op num ts=some x):0<=x:=by
 unfold XB at h
 split at h
 ·split at h<;>cases h;exact Int.le_refl 0
 split at h
 ·split at h<;>cases h;exact Int.le_refl 0
 split at h
 ·split at h<;>cases h;exact Int.le_refl 0
 split at h
 ·rcases ts with _|⟨a,_|⟨b,_|⟨c,r⟩⟩⟩
  ·cases h
  ·cases h
  ·rw [CR] at h
   split at h
   ·rename_i hq
    cases h
    rw [Vo,Zj hq.1]
    have hA:=hq.1
    simp only [XQ,Xl,decide_eq_true_eq] at hA
    cases hd:n.decls[(a-1).toNat]? with
    | none=>rw [hd] at hA;simp at hA
    | some d=>
     rw [hd] at hA
     exact (hty.decl d (Y1 hd) (by simpa using hA.2)).2
   ·cases h
  ·cases h
 split at h
 ·split at h
  ·rename_i hq;cases h;exact hq.1
  ·cases h
 split at h
 ·cases ha:Xo n.routines num with
  | none=>rw [ha] at h;cases h
  | some r=>
   rw [ha] at h
   simp only at h
   split at h
   ·cases h;exact hty.result r (Y1 (Aq ha).2)
   ·cases h
 split at h
 ·cases ha:Xo n.routines num with
  | none=>rw [ha] at h;cases h
  | some r=>
   rw [ha] at h
   simp only at h
   split at h
   ·rename_i hq;cases h;exact hq.2.1
   ·cases h
 ·cases h
def Ko (n:Zq) (us:LI) (s:Z4) (ts:LI):Int:=
 if Yo s.op=true then (match ts with
  | [t]=>if t≠0/\s.num=0/\s.kids.length=0/\¬((s.op=16∨s.op=17)/\XQ n.decls t=true) then 0 else -1
  | _=>-1)
 else if s.op=7 then (if ts=[0]/\s.num=0 then T9 n us s.op s.num s.kids else -1)
 else if s.op=8 then (if ts=[s.num] then T9 n us s.op s.num s.kids else -1)
 else if 0<s.kids.length∨(s.op=10/\0<(((Xo n.routines s.num).map (·.lent)).getD []).length) then -1
 else (XB n s.op s.num ts).getD (-1)
theorem N5 {p q:Prop} [Decidable p] [Decidable q] {a b:Int} (h:p↔q):ite p a b=ite q a b:=by
 by_cases hp:p
 ·rw [Zj hp,Zj (h.1 hp)]
 ·rw [Z9 hp,Z9 (fun z=>hp (h.2 z))]
theorem AY {n:Zq} {us:LI} {s:Z4} {ts:LI} (hnn:∀t∈us,0<=t) (hts:W8 us s.args=some ts) (hi:¬N3 us s):Yj n us s=Ko n us s ts:=by
 have hv:=Z5b hnn hi
 have ht:=IL hts
 have hl:=Ld hts
 have hfirst:((s.num≠0/\¬Vd s.op=true)∨¬Uk us s.op s.into=true∨(0<s.kids.length/\s.op≠7/\s.op≠8))↔((s.num≠0/\¬Vd s.op=true)∨(0<s.kids.length/\s.op≠7/\s.op≠8)):=by
  rw [hv];simp
 rw [BE,N5 hfirst]
 unfold Ko
 by_cases hc:Yo s.op=true
 ·have hop:14<=s.op/\s.op<=17:=by simpa [Yo] using hc
  have hnum:Vd s.op=false:=by simp [Vd];omega
  rw [Zj hc]
  by_cases hb:s.num≠0∨0<s.kids.length
  ·rw [Zj (by rcases hb with hb|hb;exact .inl ⟨hb,by rw [hnum];simp⟩;exact .inr ⟨hb,by omega,by omega⟩)]
   split
   ·rw [Z9];rintro ⟨h1,h2,h3,h4⟩;omega
   ·rfl
  ·rw [Z9 (by rintro (⟨h1,_⟩|⟨h1,_⟩)<;>exact hb (by first|exact .inl h1|exact .inr h1)),Z9 om,Z9 om,Z9 om,Z9 om,Z9 om,Z9 om,Z9 om,Z9 om,Zj om]
   have Zd:s.num=0:=Wn.1 fun q=>hb (.inl q)
   have ZC:s.kids.length=0:=by have:¬0<s.kids.length:=fun q=>hb (.inr q);omega
   rcases he:s.args with _|⟨a,_|⟨b,r⟩⟩
   ·rw [he] at hts;rw [W8] at hts;cases hts;rfl
   ·rw [he] at hts
    rw [W8] at hts
    cases ha:Xo us a with
    | none=>rw [ha] at hts;cases hts
    | some t=>
     rw [ha,W8] at hts;cases hts
     rw [Q3,ha]
     simp only
     by_cases ht0:t=0
     ·rw [Zj ht0,Z9 (fun q=>q.1 ht0)]
     ·rw [Z9 ht0]
      by_cases hA:XQ n.decls t=true
      ·by_cases h16:s.op=16∨s.op=17
       ·rw [Zj ⟨by omega,hA⟩,Z9 (fun q=>q.2.2.2 ⟨h16,hA⟩)]
       ·rw [Z9 (by rintro ⟨q,_⟩;omega),Zj ⟨ht0,Zd,ZC,fun q=>h16 q.1⟩]
      ·rw [Z9 (fun q=>hA q.2),Zj ⟨ht0,Zd,ZC,fun q=>hA q.2⟩]
   ·rw [he] at hl
    rw [show Q3 n.decls us s.op (a::b::r)=-1 from rfl]
    match ts,hl with
    | [t],hl=>simp at hl
    | [],hl=>simp at hl
    | _::_::_,_=>rfl
 have hop:¬(14<=s.op/\s.op<=17):=by simpa [Yo] using hc
 by_cases h7:s.op=7
 ·have hnum:Vd s.op=false:=by simp [Vd];omega
  conv=>rhs;rw [Z9 hc,Zj h7]
  by_cases hb:s.num=0
  ·rw [Z9 (fun q=>q.elim (fun z=>z.1 hb) fun z=>z.2.1 h7),Z9 om,Z9 om,Z9 om,Z9 om,Zj h7]
   by_cases hq:ts=[0]
   ·rw [Zj ((ht _).2 hq),Zj ⟨hq,hb⟩]
   ·rw [Z9 (fun q=>hq ((ht _).1 q)),Z9 (fun q=>hq q.1)]
  ·rw [Zj (.inl ⟨hb,by rw [hnum];simp⟩),Z9 (fun q=>hb q.2)]
 by_cases h8:s.op=8
 ·have hnum:Vd s.op=true:=by simp [Vd,h8]
  conv=>rhs;rw [Z9 hc,Z9 h7,Zj h8]
  rw [Z9 (fun q=>q.elim (fun z=>z.2 hnum) fun z=>z.2.2 h8),Z9 om,Z9 om,Z9 om,Z9 om,Z9 h7,Zj h8]
  by_cases hq:ts=[s.num]
  ·rw [Zj ((ht _).2 hq),Zj hq]
  ·rw [Z9 (fun q=>hq ((ht _).1 q)),Z9 hq]
 conv=>rhs;rw [Z9 hc,Z9 h7,Z9 h8]
 by_cases hk:0<s.kids.length
 ·rw [Zj (.inr ⟨hk,h7,h8⟩),Zj (.inl hk)]
 by_cases hlent:s.op=10/\0<(((Xo n.routines s.num).map (·.lent)).getD []).length
 ·conv=>rhs;rw [Zj (.inr hlent)]
  have hnum:Vd s.op=true:=by simp [Vd,hlent.1]
  have h10:=hlent.1
  rw [Z9 (fun q=>q.elim (fun z=>z.2 hnum) fun z=>hk z.1),Z9 om,Z9 om,Z9 om,Z9 om,Z9 h7,Z9 h8,Zj (.inr h10),Uf]
  cases ha:Xo n.routines s.num with
  | none=>rfl
  | some r=>
   have h2:=hlent.2
   rw [ha] at h2
   simp only [B6,Option.getD_some] at h2
   simp only
   rw [TT,Z9 om,Zj (.inr (.inl h2))]
 conv=>rhs;rw [Z9 (fun q=>Or.elim q hk hlent)]
 have sf:∀{X:Option Int},XB n s.op s.num ts=X->Yj n us s=X.getD (-1)->Yj n us s=(XB n s.op s.num ts).getD (-1):=fun a b=>by rw [a];exact b
 have hL:=BE n us s
 rw [N5 hfirst] at hL
 rw [<-hL]
 by_cases hnb:s.num≠0/\¬Vd s.op=true
 ·have hnn2:¬(s.op=0∨(s.op=6∨(s.op=8∨(s.op=9∨s.op=10)))):=fun q=>hnb.2 (by simpa [Vd] using q)
  refine sf (X:=none) ?_ (by rw [hL,Zj (.inl hnb)];rfl)
  unfold XB
  rw [Z9 om]
  split
  ·rw [Z9 (fun q=>hnb.1 q.1)]
  split
  ·rw [Z9 (fun q=>hnb.1 q.1)]
  split
  ·by_cases hl2:ts.length=2
   ·match ts,hl2 with
    | [a,b],_=>exact Z9 fun q=>hnb.1 q.2.2
   ·exact Ee hl2
  rw [Z9 om,Z9 om,Z9 om]
 rw [Z9 (fun q=>q.elim hnb fun z=>hk z.1)] at hL
 have hnumf:¬(s.op=0∨(s.op=6∨(s.op=8∨(s.op=9∨s.op=10))))->s.num=0:=fun q=>Wn.1 fun z=>hnb ⟨z,fun y=>q (by simpa [Vd] using y)⟩
 by_cases h0:s.op=0
 ·rw [Zj h0] at hL
  by_cases hq:s.args.length=0/\(-999<=s.num/\s.num<=999)
  ·exact sf (by unfold XB;rw [Zj h0,Zj ⟨hq.2,by omega⟩]) (by rw [hL,Zj hq];rfl)
  ·exact sf (by unfold XB;rw [Zj h0,Z9 (fun q=>hq ⟨by omega,q.1⟩)]) (by rw [hL,Z9 hq];rfl)
 rw [Z9 h0] at hL
 by_cases h1:s.op=1∨s.op=2∨s.op=3∨s.op=4
 ·rw [Zj h1] at hL
  by_cases hq:ts=[0,0]
  ·exact sf (by unfold XB;rw [Z9 h0,Zj h1,Zj ⟨hnumf om,hq⟩]) (by rw [hL,Zj ((ht _).2 hq)];rfl)
  ·exact sf (by unfold XB;rw [Z9 h0,Zj h1,Z9 (fun q=>hq q.2)]) (by rw [hL,Z9 (fun q=>hq ((ht _).1 q))];rfl)
 rw [Z9 h1] at hL
 by_cases h5:s.op=5
 ·rw [Zj h5] at hL
  by_cases hq:ts=[0]
  ·exact sf (by unfold XB;rw [Z9 h0,Z9 h1,Zj h5,Zj ⟨hnumf om,hq⟩]) (by rw [hL,Zj ((ht _).2 hq)];rfl)
  ·exact sf (by unfold XB;rw [Z9 h0,Z9 h1,Zj h5,Z9 (fun q=>hq q.2)]) (by rw [hL,Z9 (fun q=>hq ((ht _).1 q))];rfl)
 rw [Z9 h5] at hL
 by_cases h6:s.op=6
 ·rw [Zj h6] at hL
  have hct:0<W3 n.decls s.num↔0<=W3 n.decls s.num:=by
   rcases Int.lt_or_le (W3 n.decls s.num) 1 with q|q
   ·have:=(Er q).2;omega
   ·omega
  by_cases hq:0<=W3 n.decls s.num/\ts=ZX n.decls s.num
  ·exact sf (by unfold XB;rw [Z9 h0,Z9 h1,Z9 h5,Z9 om,Zj h6,Zj hq]) (by rw [hL,Zj ⟨hct.2 hq.1,(ht _).2 hq.2⟩];rfl)
  ·exact sf (by unfold XB;rw [Z9 h0,Z9 h1,Z9 h5,Z9 om,Zj h6,Z9 hq]) (by rw [hL,Z9 (fun q=>hq ⟨hct.1 q.1,(ht _).1 q.2⟩)];rfl)
 rw [Z9 h6,Z9 h7,Z9 h8] at hL
 by_cases h9:s.op=9
 ·rw [Zj (.inl h9),Uf] at hL
  cases ha:Xo n.routines s.num with
  | none=>exact sf (by unfold XB;rw [Z9 h0,Z9 h1,Z9 h5,Z9 om,Z9 h6,Zj h9,ha]) (by rw [hL,ha];rfl)
  | some r=>
   rw [ha] at hL
   simp only at hL
   rw [TT,Zj h9] at hL
   have hF:∀{X:Option Int},(if ts=r.params then some r.result else none)=X->XB n s.op s.num ts=X:=fun q=>by
    unfold XB;rw [Z9 h0,Z9 h1,Z9 h5,Z9 om,Z9 h6,Zj h9,ha];exact q
   by_cases hq:ts=r.params
   ·exact sf (hF (Zj hq)) (by rw [hL,Zj ((ht _).2 hq)];rfl)
   ·exact sf (hF (Z9 hq)) (by rw [hL,Z9 (fun q=>hq ((ht _).1 q))];rfl)
 by_cases h10:s.op=10
 ·rw [Zj (.inr h10),Uf] at hL
  cases ha:Xo n.routines s.num with
  | none=>exact sf (by unfold XB;rw [Z9 h0,Z9 h1,Z9 h5,Z9 om,Z9 h6,Z9 h9,Zj h10,ha]) (by rw [hL,ha];rfl)
  | some r=>
   rw [ha] at hL hlent
   simp only [B6,Option.getD_some] at hL hlent
   rw [TT,Z9 h9] at hL
   have hF:∀{X:Option Int},(if r.params.length≠0/\0<=Ka n.decls r.params r.result/\ts=r.params.take (r.params.length-1) then some (Ka n.decls r.params r.result) else none)=X->XB n s.op s.num ts=X:=fun q=>by
    unfold XB;rw [Z9 h0,Z9 h1,Z9 h5,Z9 om,Z9 h6,Z9 h9,Zj h10,ha];exact q
   by_cases hp:r.params.length=0
   ·exact sf (hF (Z9 fun q=>q.1 hp)) (by rw [hL,Zj (.inl hp)];rfl)
   by_cases hq:ts=r.params.take (r.params.length-1)
   ·rw [Z9 (fun z=>z.elim hp fun z=>z.elim (fun z=>hlent ⟨h10,z⟩) fun z=>z ((ht _).2 hq))] at hL
    by_cases har:0<=Ka n.decls r.params r.result
    ·exact sf (hF (Zj ⟨hp,har,hq⟩)) hL
    ·refine sf (hF (Z9 fun q=>har q.2.1)) ?_
     have key:∀(l:List Ze) (i:Nat) (f t:Int),¬0<=QJ f t l i->QJ f t l i=-1:=by
      intro l
      induction l with
      | nil=>intro i f t _;rfl
      | cons d r ih=>
       intro i f t hn
       rw [QJ] at hn ⊢
       split
       ·rename_i hh;rw [Zj hh] at hn;omega
       ·rename_i hh;rw [Z9 hh] at hn;exact ih _ _ _ hn
     exact hL.trans (key _ _ _ _ har)
   ·exact sf (hF (Z9 fun q=>hq q.2.2)) (by rw [hL,Zj (.inr (.inr fun q=>hq ((ht _).1 q)))];rfl)
 rw [Z9 om] at hL
 by_cases h11:s.op=11
 ·rw [Zj h11] at hL
  have hn0:=hnumf om
  have hF:∀{X:Option Int},CR n s.num ts=X->XB n s.op s.num ts=X:=fun q=>by
   unfold XB;rw [Z9 h0,Z9 h1,Z9 h5,Zj h11];exact q
  rcases he:s.args with _|⟨a,_|⟨b,_|⟨c,r⟩⟩⟩
  ·rw [he] at hts hL;rw [W8] at hts;cases hts;exact sf (hF rfl) hL
  ·rw [he] at hl hL
   exact sf (hF (Ee (by simp at hl;omega))) hL
  ·rw [he] at hts hL
   rw [W8] at hts
   cases ha:Xo us a with
   | none=>rw [ha] at hts;cases hts
   | some t=>
    rw [ha,W8] at hts
    cases hb:Xo us b with
    | none=>rw [hb] at hts;cases hts
    | some t2=>
     rw [hb,W8] at hts;cases hts
     rw [Qm,ha] at hL
     simp only at hL
     by_cases hA:XQ n.decls t=true
     ·rw [Zj hA] at hL
      have hA2:=hA
      simp only [XQ,Xl,decide_eq_true_eq] at hA2
      cases hd:n.decls[(t-1).toNat]? with
      | none=>rw [hd] at hA2;simp at hA2
      | some d=>
       rw [hd] at hL
       simp only at hL
       have hD:Vo n.decls t=d:=by rw [Vo,Zj hA,hd];rfl
       have h2:=IL (us:=us) (args:=[b]) (ts:=[t2]) (by rw [W8,hb,W8]) [d.frm]
       by_cases hq:t2=d.frm
       ·exact sf (hF (Zj ⟨hA,by rw [hD];exact hq,hn0⟩)) (by rw [hL,Zj (h2.2 (by rw [hq])),hD];rfl)
       ·exact sf (hF (Z9 fun q=>hq (by rw [hD] at q;exact q.2.1))) (by rw [hL,Z9 (fun q=>hq (by simpa using h2.1 q))];rfl)
     ·exact sf (hF (Z9 fun q=>hA q.1)) (by rw [hL,Z9 hA];rfl)
  ·rw [he] at hl hL
   exact sf (hF (Ee (by simp at hl;omega))) hL
 rw [Z9 h11,Z9 om] at hL
 exact sf (X:=none) (by unfold XB;rw [Z9 h0,Z9 h1,Z9 h5,Z9 h11,Z9 h6,Z9 h9,Z9 h10]) hL
end Go.Abs
namespace Go.Abs
theorem NN:∀(n:Nat) (f:Int) (k:Nat) (x:Int),(Ve f n)[k]? = some x->x=f+k/\k<n
 | 0,f,k,x,h=>by simp [Ve] at h
 | n+1,f,k,x,h=>by
  rw [Ve] at h
  cases k with
  | zero=>simp at h;subst h;exact ⟨by omega,by omega⟩
  | succ k=>have:=NN n (f+1) k x (by simpa using h);exact ⟨by omega,by omega⟩
theorem Ss {ds:List Ze} (hd:Wb ds) {t:Int} {k:Nat} {x:Int} (h:(ZW ds t)[k]? = some x):0<=x/\x<=100:=by
 rw [ZW] at h
 split at h
 ·rename_i ht
  obtain ⟨d,hd1⟩:=Jh (xs:=ds) (j:=(t-1).toNat) om
  rw [hd1] at h
  have:=NN _ _ _ _ h
  have h3:=hd.cons_at hd1
  have h4:=(hd.take (t-1).toNat).sum
  simp only [B6,Option.getD_some] at this
  omega
 ·simp at h
end Go.Abs
namespace Go.Abs
section
variable {S:Option Int} {c:Prop} [Decidable c] {v:Int} {b:Bool}
theorem AP (h:S=if c then some v else none) (hb:b=true↔c):b=S.isSome:=by rw [h,Z5c,Xr,hb,decide_eq_true_iff]
theorem AQ (h:S=if c then some v else none):∀x,S=some x->v=x:=by
 intro x hx;rw [h] at hx;split at hx
 ·exact Ah hx
 ·cases hx
theorem DS (h:S=none):false=S.isSome:=by rw [h];rfl
theorem DT (h:S=none):∀x,S=some x->v=x:=by intro x hx;rw [h] at hx;cases hx
end
section
variable {n:Zq} {op num:Int} {ts:LI}
theorem sf0 (h:op=0):XB n op num ts=if (-999<=num/\num<=999)/\ts.length=0 then some 0 else none:=by unfold XB;rw [Zj h]
theorem sf1 (h:op=1∨op=2∨op=3∨op=4):XB n op num ts=if num=0/\ts=[0,0] then some 0 else none:=by unfold XB;rw [Z9 om,Zj h]
theorem sf5 (h:op=5):XB n op num ts=if num=0/\ts=[0] then some 0 else none:=by unfold XB;rw [Z9 om,Z9 om,Zj h]
theorem P6 (h:op=11):XB n op num ts=CR n num ts:=by unfold XB;rw [Z9 om,Z9 om,Z9 om,Zj h]
theorem Za1 (h:op=11) (hl:(ts.length:Int)≠2):XB n op num ts=none:=(P6 h).trans (Ee om)
theorem Ip (h:op=11) {a b:Int} (hl:¬(ts.length:Int)≠2) (ha:ts[0]? = some a) (hb:ts[1]? = some b) :
  XB n op num ts=if XQ n.decls a=true/\b=(Vo n.decls a).frm/\num=0 then some (Vo n.decls a).to_ else none:=by
 rw [P6 h]
 match ts,hl,ha,hb with
 | [x,y],_,ha,hb=>simp at ha hb;subst ha;subst hb;rfl
 | [],hl,_,_=>simp at hl
 | [_],hl,_,_=>simp at hl
 | _::_::_::_,hl,_,_=>simp at hl;omega
theorem Za0 (h:op=11) {a:Int} (hl:¬(ts.length:Int)≠2) (ha:ts[0]? = some a) (hn:¬XQ n.decls a=true):XB n op num ts=none:=by
 obtain ⟨b,hb⟩:=Jh (xs:=ts) (j:=1) om
 rw [Ip h hl ha hb,Z9 fun q=>hn q.1]
theorem sf6 (h:op=6):XB n op num ts=if 0<=W3 n.decls num/\ts=ZX n.decls num then some (W3 n.decls num) else none:=by
 unfold XB;rw [Z9 om,Z9 om,Z9 om,Z9 om,Zj h]
theorem Za2 (h:op=9∨op=10) (hr:num<0∨num>=(((n.routines.map XR).length:Nat):Int)):XB n op num ts=none:=by
 have ha:Xo n.routines num=none:=QK (by simp at hr;omega)
 unfold XB
 rw [Z9 om,Z9 om,Z9 om,Z9 om,Z9 om]
 rcases h with h|h
 ·rw [Zj h,ha]
 ·rw [Z9 om,Zj h,ha]
theorem sf9 (h:op=9) {x:WS} (hr:¬(num<0∨num>=(((n.routines.map XR).length:Nat):Int))) (hx:(n.routines.map XR)[num.toNat]? = some x) :
  XB n op num ts=if ts=x.pms then some x.res else none:=by
 obtain ⟨r,h1,rfl⟩:=FK hx
 have ha:Xo n.routines num=some r:=Q2 (by simp at hr;omega) h1
 unfold XB
 rw [Z9 om,Z9 om,Z9 om,Z9 om,Z9 om,Zj h,ha];rfl
theorem Z9z (h:op=10) {x:WS} (hr:¬(num<0∨num>=(((n.routines.map XR).length:Nat):Int))) (hx:(n.routines.map XR)[num.toNat]? = some x) (hp:(x.pms.length:Int)-1<0) :
  XB n op num ts=none:=by
 obtain ⟨r,h1,rfl⟩:=FK hx
 have ha:Xo n.routines num=some r:=Q2 (by simp at hr;omega) h1
 have hp':r.params.length=0:=by simp only [XR] at hp;omega
 unfold XB
 rw [Z9 om,Z9 om,Z9 om,Z9 om,Z9 om,Z9 om,Zj h,ha]
 exact Z9 fun q=>q.1 hp'
theorem Z9y (h:op=10) {x:WS} {l:Int} (hr:¬(num<0∨num>=(((n.routines.map XR).length:Nat):Int))) (hx:(n.routines.map XR)[num.toNat]? = some x) (hp:¬(x.pms.length:Int)-1<0)
  (hl:x.pms[((x.pms.length:Int)-1).toNat]? = some l) :
  XB n op num ts=if 0<=U0 n.decls l x.res/\ts=x.pms.take ((x.pms.length:Int)-1).toNat then some (U0 n.decls l x.res) else none:=by
 obtain ⟨r,h1,rfl⟩:=FK hx
 have ha:Xo n.routines num=some r:=Q2 (by simp at hr;omega) h1
 simp only [XR] at hp hl ⊢
 have hq:((r.params.length:Int)-1).toNat=r.params.length-1:=by omega
 have ht:r.params.take ((r.params.length:Int)-1).toNat=r.params.take (r.params.length-1):=Yp (fun k=>r.params.take k) hq
 have hl':r.params[r.params.length-1]? = some l:=by rw [<-hl];exact Yp (fun k=>r.params[k]?) hq.symm
 have hlast:Ka n.decls r.params r.result=U0 n.decls l r.result:=by rw [Ka,MM hl']
 unfold XB
 rw [Z9 om,Z9 om,Z9 om,Z9 om,Z9 om,Z9 om,Zj h,ha]
 simp only [hlast]
 by_cases hc:0<=U0 n.decls l r.result/\ts=r.params.take (r.params.length-1)
 ·rw [Zj ⟨by omega,hc⟩]
  exact (Zj ⟨hc.1,hc.2.trans ht.symm⟩).symm
 ·rw [Z9 fun q=>hc q.2]
  exact (Z9 (fun q=>hc ⟨q.1,q.2.trans ht⟩)).symm
theorem sfd (h0:¬op=0) (h1:¬(op=1∨op=2∨op=3∨op=4)) (h5:¬op=5) (h11:¬op=11) (h6:¬op=6) (h9:¬(op=9∨op=10)):XB n op num ts=none:=by
 unfold XB;rw [Z9 h0,Z9 h1,Z9 h5,Z9 h11,Z9 h6,Z9 om,Z9 om]
end
end Go.Abs
end
namespace Go.Abs
mutual
def Z4.rng:Z4->Prop
 | .mk _ num _ _ kids=>(-9223372036854775808<=num/\num<=9223372036854775807)/\Qn kids
def Z5.rng:Z5->Prop
 | .mk steps _=>QZ steps
def QZ:List Z4->Prop
 | []=>True
 | s::r=>s.rng/\QZ r
def Qn:List Z5->Prop
 | []=>True
 | b::r=>b.rng/\Qn r
end
theorem Z4.rng_eq (s:Z4):s.rng=((-9223372036854775808<=s.num/\s.num<=9223372036854775807)/\Qn s.kids):=by cases s;rw [Z4.rng];rfl
theorem Z5.rng_eq (b:Z5):b.rng=QZ b.steps:=by cases b;rw [Z5.rng];rfl
theorem Pw:∀{xs:List Z4} {k:Nat} {s:Z4},QZ xs->xs[k]? = some s->s.rng
 | [],k,s,_,h=>by simp at h
 | x::r,0,s,hr,h=>by rw [QZ] at hr;simp at h;subst h;exact hr.1
 | x::r,k+1,s,hr,h=>by rw [QZ] at hr;exact Pw (k:=k) hr.2 (by simpa using h)
theorem Lu:∀{xs:List Z5} {k:Nat} {b:Z5},Qn xs->xs[k]? = some b->b.rng
 | [],k,s,_,h=>by simp at h
 | x::r,0,s,hr,h=>by rw [Qn] at hr;simp at h;subst h;exact hr.1
 | x::r,k+1,s,hr,h=>by rw [Qn] at hr;exact Lu (k:=k) hr.2 (by simpa using h)
theorem IM {us:LI}:∀{args:LI},W8 us args=none->∀tys,XY us args tys=false
 | [],h,tys=>by rw [W8] at h;cases h
 | a::r,h,tys=>by
  cases tys with
  | nil=>simp [XY,Te]
  | cons t ts=>
   rw [W8] at h
   rw [XY,Te]
   cases ha:Xo us a with
   | none=>simp
   | some u=>
    rw [ha] at h
    cases hr:W8 us r with
    | none=>
     have:=IM hr ts
     rw [XY] at this
     by_cases he:u=t
     ·subst he;simpa using this
     ·rw [Z9 (fun q=>he (Ah q))]
    | some tr=>rw [hr] at h;cases h
theorem Zc7 {n:Zq} {us:LI} {s:Z4} (h:W8 us s.args=none):Yj n us s=-1:=by
 have ht:=IM h
 rw [BE]
 split
 ·rfl
 split
 ·rw [Z9];rintro ⟨q,_⟩
  have:s.args=[]:=List.length_eq_zero_iff.1 q
  rw [this,W8] at h;cases h
 split
 ·rw [Z9 (by rw [ht];simp)]
 split
 ·rw [Z9 (by rw [ht];simp)]
 split
 ·rw [Z9 (by rw [ht];simp)]
 split
 ·rw [Z9 (by rw [ht];simp)]
 split
 ·rw [Z9 (by rw [ht];simp)]
 split
 ·rw [Uf]
  cases Xo n.routines s.num with
  | none=>rfl
  | some r=>
   simp only
   rw [TT]
   split
   ·rw [Z9 (by rw [ht];simp)]
   ·rw [Zj (.inr (.inr (by rw [ht];simp)))]
 split
 ·match hA:s.args with
  | []=>rfl
  | [_]=>rfl
  | [a,b]=>
   rw [Qm]
   rw [hA,W8] at h
   cases ha:Xo us a with
   | none=>rfl
   | some t=>
    rw [ha] at h
    simp only at h ⊢
    split
    ·cases n.decls[(t-1).toNat]? with
     | none=>rfl
     | some d=>
      simp only
      rw [Z9]
      cases hb:W8 us [b] with
      | none=>rw [IM hb];simp
      | some tr=>rw [hb] at h;cases h
    ·rfl
  | _::_::_::_=>rfl
 split
 ·match hA:s.args with
  | []=>rfl
  | [a]=>
   rw [Q3]
   rw [hA,W8] at h
   cases ha:Xo us a with
   | none=>rfl
   | some t=>rw [ha,W8] at h;cases h
  | _::_::_=>rfl
 ·rfl
theorem Lc {us:LI} {a:Int}:∀{xs:LI} {k:Nat},xs[k]? = some a->Xo us a=none->W8 us xs=none
 | [],k,h,_=>by simp at h
 | x::r,0,h,ha=>by simp at h;subst h;rw [W8,ha]
 | x::r,k+1,h,ha=>by
  have:=Lc (xs:=r) (k:=k) (by simpa using h) ha
  rw [W8]
  cases Xo us x with
  | none=>rfl
  | some t=>simp only [this]
theorem Z5r {n:Zq} {us:LI} {ks:List Z5} {ms:List LI} (h:0<ks.length) (t:Int) :
  W1 n us (ks.drop 0) (ms.drop 0) (decide (0=0)) t=W1 n us ks ms true 0:=by
 cases ks with
 | nil=>simp at h
 | cons b bs=>
  cases ms with
  | nil=>rw [Jt,Jt,W1,W1]
  | cons m r=>
   simp only [Jt,decide_true]
   rw [W1,W1];simp
theorem Lw {b:Z5}:∀{ks:List Z5} {k:Nat},ks[k]? = some b->b.sz<=X1 ks
 | [],k,h=>by simp at h
 | x::r,0,h=>by simp at h;subst h;rw [X1];omega
 | x::r,k+1,h=>by have:=Lw (ks:=r) (k:=k) (by simpa using h);rw [X1];omega
theorem E0 (us m:LI):[us,m].flatten=us++m:=by simp
theorem Mr {xs:LI} {i:Int} (h:i.toNat<xs.length):xs[i.toNat]? = some (gI xs i):=by rw [gI,B3 h];rfl
theorem EL {xs:LI} (h:0<xs.length):xs[0]? = some (gI xs 0):=Mr (i:=0) h
def QD (n:Zq) (num:Int):WS:=((n.routines.map XR)[num.toNat]?).getD ⟨[],[],0⟩
theorem Za3 {n:Zq} {i:Int} (h:i.toNat<(n.routines.map XR).length):(n.routines.map XR)[i.toNat]? = some (QD n i):=by rw [QD,B3 h];rfl
theorem NG {us m:LI} (h1:∀t∈us,0<=t) (h2:∀t∈m,0<=t):∀t∈us++m,0<=t:=fun t h=>(Xb.1 h).elim (h1 t) (h2 t)
theorem Ap {us:LI} {args ts:LI} {k:Nat} (h:W8 us (args.take k)=some ts) (hk:args.length<=k):W8 us args=some ts:=by
 rw [Wx hk] at h;exact h
theorem RI {us:LI} {args ts:LI} {k:Nat} {a t:Int} (h:W8 us (args.take k)=some ts) (ha:args[k]? = some a) (ht:Xo us a=some t):W8 us (args.take (k+1))=some (ts++[t]):=by
 rw [Ww ha];exact Le h ht
theorem NR {ts:LI} (h:(ts.length:Int)=1):ts=[gI ts 0]:=by
 match ts,h with
 | [a],_=>rfl
section
variable {n:Zq} {us ts:LI} {s:Z4}
theorem JZ {p1 p2 p3 p4 p5:Prop}:(p1/\(p2∨(p3∨(p4∨p5))))↔(p1/\(((p2∨p3)∨p4)∨p5)):=by simp only [or_assoc]
def Eo (n:Zq) (s:Z4) (ts:LI):Int:=match ts with
  | [t]=>if t≠0/\s.num=0/\s.kids.length=0/\¬((s.op=16∨s.op=17)/\XQ n.decls t=true) then 0 else -1
  | _=>-1
theorem AX:Ko n us s ts =
 if Yo s.op=true then Eo n s ts
 else if s.op=7 then (if ts=[0]/\s.num=0 then T9 n us s.op s.num s.kids else -1)
 else if s.op=8 then (if ts=[s.num] then T9 n us s.op s.num s.kids else -1)
 else if 0<s.kids.length∨(s.op=10/\0<(((Xo n.routines s.num).map (·.lent)).getD []).length) then -1
 else (XB n s.op s.num ts).getD (-1):=by unfold Ko Eo;rfl
theorem LG (h:(ts.length:Int)=1):Eo n s ts=if gI ts 0≠0/\s.num=0/\s.kids.length=0/\¬((s.op=16∨s.op=17)/\XQ n.decls (gI ts 0)=true) then 0 else -1:=by
 match ts,h with
 | [a],_=>rfl
theorem Sf (h:(ts.length:Int)≠1):Eo n s ts=-1:=by
 match ts,h with
 | [],_=>rfl
 | [a],h=>exact absurd rfl h
 | _::_::_,_=>rfl
theorem Zbo (hS:Yj n us s=Ko n us s ts) (hc:Yo s.op=true)
  (h:((((ts.length:Int)=1/\gI ts 0≠0)/\s.num=0)/\(s.kids.length:Int)=0)/\(s.op=16∨s.op=17)) :
  (!XQ n.decls (gI ts 0))=decide (0<=Yj n us s):=by
 obtain ⟨⟨⟨⟨h1,h2⟩,h3⟩,h4⟩,h5⟩:=h
 have h4':s.kids.length=0:=by omega
 rw [hS,AX,Zj hc,LG h1]
 cases hA:XQ n.decls (gI ts 0)
 ·rw [Zj ⟨h2,h3,h4',by simp⟩];rfl
 ·rw [Z9 (fun q=>q.2.2.2 ⟨h5,rfl⟩)];rfl
theorem Zbp (hS:Yj n us s=Ko n us s ts) (hc:Yo s.op=true)
  (h:¬(((((ts.length:Int)=1/\gI ts 0≠0)/\s.num=0)/\(s.kids.length:Int)=0)/\(s.op=16∨s.op=17))) :
  ((((((ts.length:Int)==1)&&(gI ts 0 != 0))&&(s.num==0))&&((s.kids.length:Int)==0)))=decide (0<=Yj n us s):=by
 rw [hS,AX,Zj hc]
 by_cases h1:(ts.length:Int)=1
 ·rw [LG h1]
  by_cases h2:(gI ts 0≠0/\s.num=0)/\(s.kids.length:Int)=0
  ·obtain ⟨⟨h2,h3⟩,h4⟩:=h2
   have h4':s.kids.length=0:=by omega
   rw [Zj ⟨h2,h3,h4',fun q=>h ⟨⟨⟨⟨h1,h2⟩,h3⟩,h4⟩,q.1⟩⟩,Zs.2 h1,Y6.2 h2,Zs.2 h3,Zs.2 h4];rfl
  ·rw [Z9 (fun q=>h2 ⟨⟨q.1,q.2.1⟩,by have:=q.2.2.1;omega⟩)]
   show _=false
   rw [To];intro q
   obtain ⟨⟨⟨_,q1⟩,q2⟩,q3⟩:=(YK (YK (YK Zs Y6) Zs) Zs).1 q
   exact h2 ⟨⟨q1,q2⟩,q3⟩
 ·rw [Sf h1]
  show _=false
  rw [To];intro q
  obtain ⟨⟨⟨q1,_⟩,_⟩,_⟩:=(YK (YK (YK Zs Y6) Zs) Zs).1 q
  exact h1 q1
theorem Zbk (hS:Yj n us s=Ko n us s ts) (hc:¬Yo s.op=true) (h7:s.op=7)
  (h:(((ts.length:Int)≠1∨gI ts 0≠0)∨s.num≠0)∨(s.kids.length:Int)≠2):Yj n us s=-1:=by
 rw [hS,AX,Z9 hc,Zj h7]
 split
 ·rename_i q
  obtain ⟨q1,q2⟩:=q
  rw [q1] at h
  rw [T9,Zj]
  right
  rw [Xx,Zj h7]
  have:gI [0] 0=0:=rfl
  simp [this] at h
  show s.kids.length≠2
  omega
 ·rfl
theorem Zbl (hS:Yj n us s=Ko n us s ts) (hc:¬Yo s.op=true) (h7:s.op=7)
  (h:¬((((ts.length:Int)≠1∨gI ts 0≠0)∨s.num≠0)∨(s.kids.length:Int)≠2)):Yj n us s=W1 n us s.kids (List.replicate 2 []) true 0:=by
 have h1:(ts.length:Int)=1:=Wn.1 fun q=>h (.inl (.inl (.inl q)))
 have h2:gI ts 0=0:=Wn.1 fun q=>h (.inl (.inl (.inr q)))
 have h3:s.num=0:=Wn.1 fun q=>h (.inl (.inr q))
 have h4:(s.kids.length:Int)=2:=Wn.1 fun q=>h (.inr q)
 rw [hS,AX,Z9 hc,Zj h7,Zj ⟨by rw [NR h1,h2],h3⟩,T9,Z9]
 ·rw [Xx,Zj h7];rfl
 ·rw [Xx,Zj h7];simp;omega
theorem Zbm (hS:Yj n us s=Ko n us s ts) (hc:¬Yo s.op=true) (h7:¬s.op=7) (h8:s.op=8)
  (h:(ts.length:Int)≠1∨(gI ts 0≠s.num∨(((((ZW n.decls s.num).map (ZX n.decls)).length:Nat):Int)=0∨(s.kids.length:Int)≠((((ZW n.decls s.num).map (ZX n.decls)).length:Nat):Int)))):Yj n us s=-1:=by
 rw [hS,AX,Z9 hc,Z9 h7,Zj h8]
 split
 ·rename_i q
  have hg:gI ts 0=s.num:=by rw [q];rfl
  have hl:(ts.length:Int)=1:=by rw [q];rfl
  rw [T9,Zj]
  rw [Xx,Z9 h7]
  omega
 ·rfl
theorem Zbn (hS:Yj n us s=Ko n us s ts) (hc:¬Yo s.op=true) (h7:¬s.op=7) (h8:s.op=8)
  (h:¬((ts.length:Int)≠1∨(gI ts 0≠s.num∨(((((ZW n.decls s.num).map (ZX n.decls)).length:Nat):Int)=0∨(s.kids.length:Int)≠((((ZW n.decls s.num).map (ZX n.decls)).length:Nat):Int))))) :
  Yj n us s=W1 n us s.kids ((ZW n.decls s.num).map (ZX n.decls)) true 0:=by
 have h1:(ts.length:Int)=1:=Wn.1 fun q=>h (.inl q)
 have h2:gI ts 0=s.num:=Wn.1 fun q=>h (.inr (.inl q))
 rw [hS,AX,Z9 hc,Z9 h7,Zj h8,Zj (by rw [NR h1,h2]),T9,Z9]
 ·rw [Xx,Z9 h7]
 ·rw [Xx,Z9 h7];omega
theorem Z6e {n:Zq} {num:Int}:(((Xo n.routines num).map (·.lent)).getD []).length=if 0<=num/\num<(((n.routines.map XR).length:Nat):Int) then (QD n num).lnt.length else 0:=by
 split
 ·rename_i h
  rw [TY] at h
  obtain ⟨r,hr⟩:=Jh (xs:=n.routines) (j:=num.toNat) om
  rw [Q2 om hr,QD,Kv,hr];rfl
 ·rename_i h
  rw [TY] at h
  rw [QK om];rfl
theorem PA:(0<s.kids.length∨(s.op=10/\0<(((Xo n.routines s.num).map (·.lent)).getD []).length)) ↔
  ((s.kids.length:Int)>0∨(s.op=10/\(s.num>=0/\(s.num<(((n.routines.map XR).length:Nat):Int)/\((((QD n s.num).lnt).length:Nat):Int)>0)))):=by
 rw [Z6e]
 by_cases hq:0<=s.num/\s.num<(((n.routines.map XR).length:Nat):Int)
 ·rw [Zj hq];omega
 ·rw [Z9 hq];omega
theorem stB (hS:Yj n us s=Ko n us s ts) (hc:¬Yo s.op=true) (h7:¬s.op=7) (h8:¬s.op=8)
  (h:((s.kids.length:Int)>0∨(s.op=10/\(s.num>=0/\(s.num<(((n.routines.map XR).length:Nat):Int)/\((((QD n s.num).lnt).length:Nat):Int)>0))))):Yj n us s=-1:=by
 rw [hS,AX,Z9 hc,Z9 h7,Z9 h8,Zj (PA.2 h)]
theorem stS (hS:Yj n us s=Ko n us s ts) (hc:¬Yo s.op=true) (h7:¬s.op=7) (h8:¬s.op=8)
  (h:¬((s.kids.length:Int)>0∨(s.op=10/\(s.num>=0/\(s.num<(((n.routines.map XR).length:Nat):Int)/\((((QD n s.num).lnt).length:Nat):Int)>0))))):Yj n us s=(XB n s.op s.num ts).getD (-1):=by
 rw [hS,AX,Z9 hc,Z9 h7,Z9 h8,Z9 (fun q=>h (PA.1 q))]
theorem Zbq (hty:BO n) (h:Yj n us s=(XB n s.op s.num ts).getD (-1)):(XB n s.op s.num ts).isSome=decide (0<=Yj n us s):=by
 rw [h]
 cases hs:XB n s.op s.num ts with
 | none=>rfl
 | some x=>have:=Za5 hty hs;simp [this]
theorem Zbr {t:Int} (h:Yj n us s=(XB n s.op s.num ts).getD (-1)) (hp:∀x,XB n s.op s.num ts=some x->t=x):¬Yo s.op=true->0<=Yj n us s->t=Yj n us s:=by
 intro _ h0
 rw [h] at h0 ⊢
 cases hs:XB n s.op s.num ts with
 | none=>rw [hs] at h0;exact absurd h0 (by decide)
 | some x=>exact hp x hs
end
theorem Zc5 {n:Zq} {us:LI} {s:Z4} (h:0<=Yj n us s):(0<=s.op/\s.op<=11)∨(14<=s.op/\s.op<=17):=by
 rw [BE] at h
 by_cases hq:(0<=s.op/\s.op<=11)∨(14<=s.op/\s.op<=17)
 ·exact hq
 ·exfalso
  split at h
  ·omega
  rw [Z9 om,Z9 om,Z9 om,Z9 om,Z9 om,Z9 om,Z9 om,Z9 om,Z9 om] at h
  omega
theorem GT {n:Zq} {us:LI} {s:Z4} (h:0<=Yj n us s):XT s.op=!Yo s.op:=by
 have:=Zc5 h
 rw [XT,Yo,Xr];simp;omega
theorem Zc9 {n:Zq} {xs:List Z4} {vs:LI} {k:Nat} {s:Z4} {t:Int} {r:Option LI} (hs:xs[k]? = some s) (h:0<=Yj n vs s) (ht:¬Yo s.op=true->0<=Yj n vs s->t=Yj n vs s)
  (hr:WJ n (xs.drop k) vs=r):WJ n (xs.drop (k+1)) (if Yo s.op=true then vs else vs++[t])=r:=by
 rw [Y9 hs,WJ,Z9 om] at hr
 rw [<-hr,GT h]
 by_cases hc:Yo s.op=true
 ·rw [Zj hc,hc];rfl
 ·rw [Z9 hc,Zj (by simpa using hc),ht hc h]
theorem Zca {n:Zq} {xs:List Z4} {vs:LI} {k:Nat} {s:Z4} {r:Option LI} (hs:xs[k]? = some s) (h:¬0<=Yj n vs s) (hr:WJ n (xs.drop k) vs=r):r=none:=by
 rw [Y9 hs,WJ,Zj om] at hr;exact hr.symm
theorem Z6q {c:Prop} [Decidable c] {vs:LI} {t:Int} (h:∀x∈vs,0<=x) (ht:¬c->0<=t):∀x∈(if c then vs else vs++[t]),0<=x:=by
 split
 ·exact h
 ·rename_i hc
  exact NG h (fun x hx=>by rw [W2.1 hx];exact ht hc)
theorem La {m:Nat} {xs:LI} (h:W7 m xs=true):∀x∈xs,0<=x/\x<=m:=by
 rw [W7,KR] at h
 exact fun x hx=>of_decide_eq_true (h x hx)
theorem Z6r {n:Zq} (h:VW n=true):BO n:=by
 simp only [VW,Qh,Xl,decide_eq_true_eq] at h
 obtain ⟨h1,⟨h2,h3,h4,h5⟩,h6⟩:=h
 have hs:∀r∈n.routines,W7 n.decls.length r.params=true/\0<=r.result:=fun r hr=>by
  have:=FM h4 (Vz r) (XH.2 ⟨r,hr,rfl⟩)
  simp only [QU,Xl,decide_eq_true_eq] at this
  exact ⟨this.2.1,this.2.2.1⟩
 simp only [WF,Xl,decide_eq_true_eq] at h2
 obtain ⟨h2a,h2b⟩:=h2
 rw [GR] at h2b
 have key:∀(i:Nat) (d:Ze),n.decls[i]? = some d->Up n.decls d i=true:=fun i d hi=>by
  have:=h2b i (XS.1 hi).1
  rwa [V0,CX hi] at this
 refine ⟨fun r hr=>(hs r hr).2,fun r hr p hp=>(La (hs r hr).1 p hp).1,fun d hd h0=>?_,fun c f hf=>?_⟩
 ·obtain ⟨i,hi⟩:=List.mem_iff_getElem?.1 hd
  have:=key i d hi
  rw [Up,Z9 om] at this
  split at this
  ·cases this
  ·simp only [Xl,decide_eq_true_eq] at this;omega
 ·by_cases hc:W3 n.decls c<1
  ·rw [(Er hc).1] at hf;cases hf
  ·obtain ⟨k,d,x,q1,q2,q3,q4,q5⟩:=GK hc
   rw [q5] at hf
   have:=key k d q1
   have hp:0<d.cons.length:=by have:=(XS.1 q3).1;omega
   rw [Up,Zj hp] at this
   split at this
   ·have:=LL.1 this x (Y1 q3)
    simp only [Kz,Xl] at this
    exact (La this.2 f hf).1
   ·cases this
structure Rf (n:Zq):Prop where
 result:∀r∈n.routines,r.result<=(n.decls.length:Int)
 decl:∀d∈n.decls,d.cons.length=0->d.to_<=(n.decls.length:Int)
 fields:∀c,∀f∈ZX n.decls c,f<=(n.decls.length:Int)
section
variable {n:Zq} (hu:Rf n)
include hu
end
end Go.Abs
section
namespace Go.Abs
structure BN where
 mat:Int
 fst:Int
 fds:LI
 chg:Bool
def NQ:List BN->Int->Option BN
 | [],_=>none
 | a::r,v=>match NQ r v with
  | some x=>some x
  | none=>if a.mat=v then some a else none
structure Zdn (ds:List Ze) (L:ZK) (as1:List BN):Prop where
 rng:∀a∈as1,0<=a.mat/\a.mat<a.fst/\a.fst+a.fds.length<=L.vars.length
 par:∀a∈as1,∀v:Int,a.fst<=v->v<a.fst+a.fds.length->gI L.par v=a.mat
 non:∀v:Int,0<=v->v<L.vars.length->0<=gI L.par v->∃a∈as1,a.fst<=v/\v<a.fst+a.fds.length
 off:∀v:Int,0<=v->v<L.vars.length->match NQ as1 v with
  | none=>gI L.con v<0
  | some a=>0<=gI L.con v/\a.fst=gI L.fst v/\a.fds=ZX ds (gI L.con v)
end Go.Abs
namespace Go.Abs
end Go.Abs
namespace Go.Abs
end Go.Abs
namespace Go.Abs
section
variable {n:Zq} {ln:LI} {L:ZK} {op v:Int} {am:List BN} {a:BN}
end
end Go.Abs
namespace Go.Abs
end Go.Abs
end
section
namespace Go.Abs
section
variable {n:Zq} {us:LI} {op num:Int}
end
end Go.Abs
namespace Go.Abs
end Go.Abs
namespace Go.Abs
end Go.Abs
end
section
namespace Go.Abs
section
variable {n:Zq} {ln:LI}
end
end Go.Abs
namespace Go.Abs
end Go.Abs
namespace Go.Abs
end Go.Abs
namespace Go.Abs
section
variable {n:Zq} {ln:LI} {L:ZK} {s:Z4}
end
end Go.Abs
namespace Go.Abs
end Go.Abs
namespace Go.Abs
end Go.Abs
namespace Go.Abs
end Go.Abs
end
namespace Go.Abs

end Go.Abs
section
namespace Go.Abs
end Go.Abs
namespace Go.Abs
end Go.Abs
namespace Go.Abs
end Go.Abs
end
section
namespace Go.Abs
end Go.Abs
namespace Go.Abs
end Go.Abs
namespace Go.Abs
end Go.Abs
namespace Go.Abs
end Go.Abs
end
namespace Go.Abs
def Zx (op v:Int):Z4:=.mk op 0 0 [v] []
def UD (ds:List Ze) (num:Int) (k:Nat):LI:=((ZW ds num).map (ZX ds))[k]?.getD []
section
variable {ds:List Ze} {am:List BN} {m:Nat}
end
theorem Mc {ds:List Ze} {num:Int} {k:Nat} {m:LI} (h:((ZW ds num).map (ZX ds))[k]? = some m):UD ds num k=m:=by rw [UD,h];rfl
theorem Z10 {ds:List Ze} (hd:Wb ds) (num:Int) (k:Nat):(UD ds num k).length<=3:=by
 rw [UD,Kv]
 cases (ZW ds num)[k]? with
 | none=>simp
 | some c=>exact VP hd c
theorem ID {xs:List Z4} {k:Nat} {s:Z4} (h:xs[k]? = some s):Yw (xs.take (k+1))=Yw (xs.take k)+s.sz:=by
 induction xs generalizing k with
 | nil=>simp at h
 | cons t r ih=>
  cases k with
  | zero=>simp at h;subst h;simp [Yw]
  | succ k=>rw [BL,BL,Yw,Yw,ih (by simpa using h)];omega
theorem K0 (xs:List Z4) (k:Nat):Yw (xs.take k)<=Yw xs:=by
 induction xs generalizing k with
 | nil=>simp
 | cons t r ih=>
  cases k with
  | zero=>simp [Yw]
  | succ k=>have:=ih k;rw [BL,Yw,Yw];omega
theorem Z9w {n:Zq} {us:LI} {s:Z4} (g:0<=Yj n us s) (h:Yo s.op=true):QC n us s=us:=by rw [QC,GT g,h];rfl
theorem Z9v {n:Zq} {us:LI} {s:Z4} (g:0<=Yj n us s) (h:¬Yo s.op=true):(QC n us s).length=us.length+1:=by
 rw [QC,GT g,To.2 h];simp
theorem Z9x {n:Zq} {us:LI} {s:Z4} (g:0<=Yj n us s):(QC n us s).length=if Yo s.op=true then us.length else us.length+1:=by
 split
 ·rw [Z9w g (by assumption)]
 ·exact Z9v g (by assumption)
theorem Bl (ys:List V2):(Zb (WY ys)).length=ys.length*3:=by rw [U5 _ (LV _)];simp
theorem Mg (ys:List V1):(Zb (VR ys)).length=ys.length:=by rw [U5 _ (LU _)];simp
theorem Mf (ys:List Ze):(Zb (Yz ys)).length=ys.length*3:=by rw [U5 _ (QP _)];simp
theorem Z16 (ys:List Y8):(Zb (XF ys)).length=ys.length:=by rw [U5 _ (CZ _)];simp
theorem Z17 {ds:List Ze} {k:Nat} {d:Ze} (h:ds[k]? = some d):Zb (Yz (ds.drop k))=Ta d++Zb (Yz (ds.drop (k+1))):=by rw [Y9 h];rfl
theorem Z15 {ds:List Y8} {k:Nat} {d:Y8} (h:ds[k]? = some d):Zb (XF (ds.drop k))=Co d++Zb (XF (ds.drop (k+1))):=by rw [Y9 h];rfl
theorem OM {ys:List V2} {ds:List Ze} {k:Nat} {d:Ze} (h:ds[k]? = some d):Zb (WY ys++Yz (ds.drop k))=Zb (WY ys)++(Ta d++Zb (Yz (ds.drop (k+1)))):=by
 rw [Vv,Z17 h]
theorem Z8x {ys:List V1} {ds:List Y8} {k:Nat} {d:Y8} (h:ds[k]? = some d):Zb (VR ys++XF (ds.drop k))=Zb (VR ys)++(Co d++Zb (XF (ds.drop (k+1)))):=by
 rw [Vv,Z15 h]
theorem OL {ys:List V2} {ds:List Ze} {k:Nat} (h:ys.length=k) (hk:k<=ds.length):(Zb (WY ys++Yz (ds.drop k))).length=ds.length*3:=by
 rw [Vv,Yx,Bl,Mf,KU];omega
theorem OK {ys:List V1} {ds:List Y8} {k:Nat} (h:ys.length=k) (hk:k<=ds.length):(Zb (VR ys++XF (ds.drop k))).length=ds.length*1:=by
 rw [Vv,Yx,Mg,Z16,KU];omega
theorem Z8z {ys:List V2} {ds:List Ze} {k:Nat} {f t:Int} {zs:List V1} {u:Value}:Zb (WY ys)++([.i f,.i t,DD zs u]++Zb (Yz (ds.drop (k+1))))=Zb (WY (ys++[V2.mk f t zs u])++Yz (ds.drop (k+1))):=by
 rw [Z0f,Vv,Vv,Ul];rfl
theorem Z8w {ys:List V1} {ds:List Y8} {k:Nat} {xs:LI} {u:Value}:Zb (VR ys)++([ZY xs u]++Zb (XF (ds.drop (k+1))))=Zb (VR (ys++[V1.mk xs u])++XF (ds.drop (k+1))):=by
 rw [Z0e,Vv,Vv,Ul];rfl
theorem Z8y {ys:List V2} {ds:List Ze} {k:Nat} (h:ds.length<=k):Zb (WY ys++Yz (ds.drop k))=Zb (WY ys):=by rw [Xf h];simp [Yz]
theorem Z8v {ys:List V1} {ds:List Y8} {k:Nat} (h:ds.length<=k):Zb (VR ys++XF (ds.drop k))=Zb (VR ys):=by rw [Xf h];simp [XF]
theorem Z90 {A B:List AV} {x y z x':AV} {o:Nat} (hA:A.length=o):(A++([x,y,z]++B)).take (o+2)++[x']++(A++([x,y,z]++B)).drop (o+2+1)=A++([x,y,x']++B):=by
 have h:=Cz (A:=A++[x,y]) (xs:=[z]) (ys:=[x']) (B:=B) (o:=o+2) (by simp [hA]) rfl
 simpa using h
theorem Z91 {A B:List AV} {x y z:AV} {o:Nat} (hA:A.length=o):((A++([x,y,z]++B)).drop (o+2)).take 1=[z]:=by
 have h:=Ih (A:=A++[x,y]) (xs:=[z]) (B:=B) (o:=o+2) (by simp [hA])
 simpa using h
theorem Z92 {A B:List AV} {x y z x':AV} {o:Nat} (hA:A.length=o):(A++([x,y,z]++B)).set (o+2) x'=A++([x,y,x']++B):=by
 subst hA
 rw [List.set_append_right _ _ om]
 simp
theorem Re {f t:Int} {zs:List V1} {u:Value} {cs:List Y8} (h:zs.map V1.er=cs):[V2.mk f t zs u].map V2.er=[Ze.mk f t cs]:=by
 rw [<-h];rfl
theorem Tc:∀(xs ys:List Z4),Yw (xs++ys)=Yw xs+Yw ys
 | [],ys=>by simp [Yw]
 | x::r,ys=>by rw [Qj,Yw,Yw,Tc r ys];omega
theorem Ep (op v:Int):(Zx op v).sz=2:=by rw [Zx,Z4.sz];simp [X1]
theorem IB (op:Int):∀l:LI,Yw (l.map (Zx op))=2*l.length
 | []=>by simp [Yw]
 | x::r=>by rw [VM,Yw,Ep,IB op r,YV];omega
section
variable {ds:List Ze} (hd:Wb ds)
include hd
end
section
variable {ds:List Ze} {cons first:LI}
end
section
variable {ds:List Ze} (hd:Wb ds)
include hd
end
def XO:List Z4->Nat
 | []=>0
 | s::r=>if s.op=14∨s.op=15 then XO r+1 else 0
def Ws (op:Int):List Z4->LI
 | []=>[]
 | s::r=>if s.op=op then gI s.args 0::Ws op r else Ws op r
def UG:LI->Int->LI->LI->LI × LI
 | [],_,D,R=>(D,R)
 | f::r,q,D,R=>if f≠0/\q∈D then UG r (q+1) (D.erase q) R else if f≠0 then UG r (q+1) D (R++[q]) else UG r (q+1) D R
def A4 (xs:List Z4) (x:Int) (fs:LI) (q:Int):LI × LI:=UG fs q (Ws 14 (xs.take (XO xs))) ((Ws 15 (xs.take (XO xs))).erase x)
def KY (xs:List Z4) (x:Int) (fs:LI) (q:Int):List Z4:=
 if x∈Ws 15 (xs.take (XO xs))/\fs.length≠0 then (A4 xs x fs q).1.map (Zx 14)++[Zx 16 x]++(A4 xs x fs q).2.map (Zx 15)++xs.drop (XO xs) else xs
def Ky (b:Z5) (x:Int) (fs:LI) (q:Int):Z5:=.mk (KY b.steps x fs q) b.result
theorem FD:∀xs:List Z4,XO xs<=xs.length
 | []=>X9 _
 | s::r=>by have:=FD r;rw [XO];split<;>simp<;>omega
theorem OT:∀{xs:List Z4} {s:Z4},s∈xs.take (XO xs)->s.op=14∨s.op=15
 | [],s,h=>by simp [XO] at h
 | t::r,s,h=>by
  rw [XO] at h
  split at h
  ·rename_i q
   rw [BL] at h
   rcases YH.1 h with rfl|h
   ·exact q
   ·exact OT h
  ·simp at h
theorem Gx:∀xs:List Z4,(Ws 14 xs).length+(Ws 15 xs).length<=xs.length
 | []=>by simp [Ws]
 | s::r=>by
  have:=Gx r
  rw [Ws,Ws]
  by_cases h:s.op=14
  ·rw [Zj h,Z9 om];simp;omega
  ·rw [Z9 h];split<;>simp<;>omega
theorem Fw:∀(fs:LI) (q:Int) (D R:LI),(UG fs q D R).1.length+(UG fs q D R).2.length<=D.length+R.length+fs.length
 | [],q,D,R=>by simp [UG]
 | f::r,q,D,R=>by
  rw [UG,YV]
  split
  ·have:=Fw r (q+1) (D.erase q) R
   have h2:=List.length_erase_le (a:=q) (l:=D)
   omega
  ·split
   ·have:=Fw r (q+1) D (R++[q])
    simp only [Yx,YV,Xn] at this
    omega
   ·have:=Fw r (q+1) D R
    omega
theorem Z7e {xs:List Z4} {x:Int} {fs:LI} {q:Int} (h:x∈Ws 15 (xs.take (XO xs))) (hf:fs.length<=3):(A4 xs x fs q).1.length+(A4 xs x fs q).2.length<=XO xs+2:=by
 have h1:=Fw fs q (Ws 14 (xs.take (XO xs))) ((Ws 15 (xs.take (XO xs))).erase x)
 have h2:=Gx (xs.take (XO xs))
 have h3:=List.length_pos_of_mem h
 rw [List.length_erase_of_mem h] at h1
 rw [Wr] at h2
 have h4:=FD xs
 unfold A4
 omega
theorem Zbj (xs:List Z4) (k:Nat):Yw xs=Yw (xs.take k)+Yw (xs.drop k):=by rw [<-Tc,T1]
theorem Pz:∀xs:List Z4,(∀s∈xs,2<=s.sz)->2*xs.length<=Yw xs
 | [],_=>by simp
 | s::r,h=>by
  have h1:=Pz r fun t ht=>h t (XC _ ht)
  have h2:=h s (Xh ..)
  rw [Yw,YV];omega
theorem Rz {xs:List Z4} {x:Int} {fs:LI} {q:Int} (hf:fs.length<=3) (h:∀s∈xs,s.op=14∨s.op=15->2<=s.sz):Yw (KY xs x fs q)<=Yw xs+6:=by
 rw [KY]
 split
 ·rename_i hc
  have h1:=Z7e (q:=q) hc.1 hf
  have h2:=Pz (xs.take (XO xs)) fun s hs=>h s (TZ hs) (OT hs)
  have h3:=Zbj xs (XO xs)
  have h4:=FD xs
  rw [Wr] at h2
  rw [Tc,Tc,Tc,IB,IB,Yw,Yw,Ep]
  omega
 ·omega
def Cn (s:Z4):Prop:=s=Zx s.op (gI s.args 0)
theorem Ry {xs:List Z4} {m:Int} {fs:LI} {q:Int} (h:¬(m∈Ws 15 (xs.take (XO xs))/\fs.length≠0)):KY xs m fs q=xs:=Z9 h
end Go.Abs
section
namespace Go.Abs
mutual
def A8 (ds:List Ze) (m:Nat):Z4->Z4
 | .mk op num into args kids=>.mk op num into args (UX ds m op num args kids 0)
def UX (ds:List Ze) (m:Nat) (op num:Int) (args:LI):List Z5->Nat->List Z5
 | [],_=>[]
 | b::r,k=>(if op=8 then Ky (WP ds (m+(UD ds num k).length) b) (gI args 0) (UD ds num k) m else WP ds m b)::UX ds m op num args r (k+1)
def Ui (ds:List Ze) (m:Nat):List Z4->List Z4
 | []=>[]
 | s::r=>A8 ds m s::Ui ds (if Yo s.op=true then m else m+1) r
def WP (ds:List Ze) (m:Nat):Z5->Z5
 | .mk steps result=>.mk (Ui ds m steps) result
end
def FU (ds:List Ze) (m:Nat) (op num:Int) (args:LI) (k:Nat) (b:Z5):Z5:=if op=8 then Ky (WP ds (m+(UD ds num k).length) b) (gI args 0) (UD ds num k) m else WP ds m b
theorem Iv (ds:List Ze) (m:Nat) (s:Z4):A8 ds m s=.mk s.op s.num s.into s.args (UX ds m s.op s.num s.args s.kids 0):=by cases s;rw [A8];rfl
theorem FQ (ds:List Ze) (m:Nat) (b:Z5):WP ds m b=.mk (Ui ds m b.steps) b.result:=by cases b;rw [WP];rfl
section
variable {ds:List Ze} {m:Nat}
theorem Zac {xs acc r:List Z4} {k:Nat} {s:Z4} (h:xs[k]? = some s) (ha:acc++Ui ds m (xs.drop k)=r) :
  (acc++[.mk s.op s.num s.into s.args (UX ds m s.op s.num s.args s.kids 0)])++Ui ds (if Yo s.op=true then m else m+1) (xs.drop (k+1))=r:=by
 rw [Y9 h,Ui,Iv] at ha
 rw [<-ha];simp
theorem Zab {xs acc r:List Z4} {k:Nat} (h:xs.length<=k) (ha:acc++Ui ds m (xs.drop k)=r):acc=r:=by
 rw [Xf h,Ui,KS] at ha;exact ha
theorem Pb {op num:Int} {args:LI} {bs acc r:List Z5} {k:Nat} {b:Z5} (h:bs[k]? = some b) (ha:acc++UX ds m op num args (bs.drop k) k=r) :
  (acc++[FU ds m op num args k b])++UX ds m op num args (bs.drop (k+1)) (k+1)=r:=by
 rw [Y9 h,UX] at ha
 rw [<-ha,FU];simp
theorem Za8 {op num:Int} {args:LI} {bs acc r:List Z5} {k j:Nat} (h:bs.length<=k) (ha:acc++UX ds m op num args (bs.drop k) j=r):acc=r:=by
 rw [Xf h,UX,KS] at ha;exact ha
end
mutual
def wS (ds:List Ze):Z4->Prop
 | .mk op num into args kids=>(XT op=!Yo op)/\(Yo op=true->num=0/\into=0/\kids=[]/\∃a,args=[a])/\(op=8->(∃a,args=[a]/\0<=a/\a<=900000000)/\kids.length=(ZW ds num).length)/\Ab ds kids
def Ab (ds:List Ze):List Z5->Prop
 | []=>True
 | b::r=>wB ds b/\Ab ds r
def QF (ds:List Ze):List Z4->Prop
 | []=>True
 | s::r=>wS ds s/\QF ds r
def wB (ds:List Ze):Z5->Prop
 | .mk steps _=>QF ds steps
end
section
variable {ds:List Ze}
theorem KQ (s:Z4):wS ds s↔(XT s.op=!Yo s.op)/\(Yo s.op=true->s.num=0/\s.into=0/\s.kids=[]/\∃a,s.args=[a])/\(s.op=8->(∃a,s.args=[a]/\0<=a/\a<=900000000)/\s.kids.length=(ZW ds s.num).length)/\Ab ds s.kids:=by cases s;rw [wS];rfl
theorem Ku (b:Z5):wB ds b↔QF ds b.steps:=by cases b;rw [wB];rfl
theorem Ac:∀{xs:List Z4},QF ds xs↔∀s∈xs,wS ds s
 | []=>by simp [QF]
 | s::r=>by rw [QF,Ac];simp
theorem G7:∀{xs:List Z5},Ab ds xs↔∀s∈xs,wB ds s
 | []=>by simp [Ab]
 | s::r=>by rw [Ab,G7];simp
theorem R7 {b:Z5} {k:Nat} {s:Z4} (h:wB ds b) (hs:b.steps[k]? = some s):wS ds s:=Ac.1 ((Ku b).1 h) s (Y1 hs)
theorem IS {s:Z4} {k:Nat} {b:Z5} (h:wS ds s) (hb:s.kids[k]? = some b):wB ds b:=G7.1 ((KQ s).1 h).2.2.2 b (Y1 hb)
theorem G8 {s:Z4} (h:wS ds s) (hc:Yo s.op=true):Cn s/\s.kids=[]/\∃a,s.args=[a]:=by
 obtain ⟨h1,h2,h3,a,h4⟩:=((KQ s).1 h).2.1 hc
 refine ⟨?_,h3,a,h4⟩
 cases s with
 | mk op num into args kids=>
  simp only [Z4.num,Z4.into,Z4.kids,Z4.args] at h1 h2 h3 h4
  subst h1 h2 h3 h4
  rfl
theorem Zdg {op v:Int} (h:op=14∨op=15∨op=16):wS ds (Zx op v):=(KQ _).2 ⟨by show XT op=!Yo op;rcases h with rfl|rfl|rfl<;>rfl,fun _=>⟨rfl,rfl,rfl,v,rfl⟩,fun e=>absurd e (show op≠8 by omega),True.intro⟩
theorem Zdh {s:Z4} (h:wS ds s):XT s.op=!Yo s.op:=((KQ s).1 h).1
theorem E5 {s:Z4} (h:wS ds s) (h8:s.op=8):(∃a,s.args=[a]/\0<=a/\a<=900000000)/\s.kids.length=(ZW ds s.num).length:=((KQ s).1 h).2.2.1 h8
theorem Gj {xs:List Z4} (h:QF ds xs):∀s∈xs,Yo s.op=true->Cn s:=fun s hs hc=>(G8 (Ac.1 h s hs) hc).1
end
section
variable {n:Zq}
end
mutual
def Z4.pz:Z4->Nat
 | .mk _ _ _ args kids=>1+args.length+Cx kids
def Z5.pz:Z5->Nat
 | .mk steps _=>1+Cy steps
def Cy:List Z4->Nat
 | []=>0
 | s::r=>s.pz+Cy r
def Cx:List Z5->Nat
 | []=>0
 | b::r=>b.pz+8+Cx r
end
mutual
theorem Z4.pz_le:∀s:Z4,s.pz<=9*s.sz
 | .mk _ _ _ args kids=>by have:=Oo kids;rw [Z4.pz,Z4.sz];omega
theorem Z5.pz_le:∀b:Z5,b.pz+8<=9*b.sz
 | .mk steps _=>by have:=Oq steps;rw [Z5.pz,Z5.sz];omega
theorem Oq:∀xs:List Z4,Cy xs<=9*Yw xs
 | []=>K3 _
 | s::r=>by have:=s.pz_le;have:=Oq r;rw [Cy,Yw];omega
theorem Oo:∀xs:List Z5,Cx xs<=9*X1 xs
 | []=>K3 _
 | s::r=>by have:=s.pz_le;have:=Oo r;rw [Cx,X1];omega
end
section
variable {ds:List Ze}
theorem Sc {op:Int} (h:op=14∨op=15):Yo op=true:=by rw [Yo];simp;omega
theorem Zad {xs:List Z4}:∀{m:Nat},QF ds xs->∀s∈Ui ds m xs,s.op=14∨s.op=15->2<=s.sz:=by
 induction xs with
 | nil=>intro m _ s hs;simp [Ui] at hs
 | cons t r ih=>
  intro m h s hs ho
  rw [Ui] at hs
  rcases YH.1 hs with rfl|hs
  ·rw [Iv] at ho ⊢
   obtain ⟨_,_,a,ha⟩:=G8 h.1 (Sc ho)
   rw [Z4.sz,ha];simp
  ·exact ih h.2 s hs ho
variable (hd:Wb ds)
include hd
mutual
theorem Za9:∀(s:Z4) {m:Nat},wS ds s->(A8 ds m s).sz<=s.pz
 | .mk op num into args kids,m,h=>by
  have:=Pd kids (m:=m) (op:=op) (num:=num) (args:=args) (k:=0) h.2.2.2
  rw [A8,Z4.sz,Z4.pz];omega
theorem Pd:∀(bs:List Z5) {m:Nat} {op num:Int} {args:LI} {k:Nat},Ab ds bs->X1 (UX ds m op num args bs k)<=Cx bs
 | [],_,_,_,_,_,_=>X9 _
 | b::r,m,op,num,args,k,h=>by
  have h2:=Pd r (m:=m) (op:=op) (num:=num) (args:=args) (k:=k+1) h.2
  rw [UX,X1,Cx]
  split
  ·have h1:=FT b (m:=m+(UD ds num k).length) h.1
   have h3:=Rz (xs:=(WP ds (m+(UD ds num k).length) b).steps) (x:=gI args 0) (q:=(m:Int)) (Z10 hd num k) (by rw [FQ];exact Zad ((Ku b).1 h.1))
   rw [Ky,Z5.sz]
   rw [Z5.sz_eq] at h1
   omega
  ·have h1:=FT b (m:=m) h.1
   omega
theorem Pe:∀(xs:List Z4) {m:Nat},QF ds xs->Yw (Ui ds m xs)<=Cy xs
 | [],_,_=>X9 _
 | s::r,m,h=>by
  have h1:=Za9 s (m:=m) h.1
  have h2:=Pe r (m:=if Yo s.op=true then m else m+1) h.2
  rw [Ui,Yw,Cy];omega
theorem FT:∀(b:Z5) {m:Nat},wB ds b->(WP ds m b).sz<=b.pz
 | .mk steps result,m,h=>by
  have:=Pe steps (m:=m) h
  rw [WP,Z5.sz,Z5.pz];omega
end
end
section
variable {ds:List Ze} {m:Nat}
end
def AR (ds:List Ze) (r:ZV):ZV:=⟨r.params,r.lent,r.result,WP ds r.params.length r.body⟩
def FV (n:Zq):Zq:=⟨n.decls,n.routines.map (AR n.decls)⟩
end Go.Abs
namespace Go.Abs
theorem Z9f {xs:List Z4} {k:Nat} {s:Z4} {r:Nat} (h:xs[k]? = some s) (hs:s.op=14∨s.op=15) (ha:k+XO (xs.drop k)=r):k+1+XO (xs.drop (k+1))=r:=by
 rw [Y9 h,XO,Zj hs] at ha;omega
theorem Z9g {xs:List Z4} {k:Nat} {s:Z4} {r:Nat} (h:xs[k]? = some s) (hs:¬(s.op=14∨s.op=15)) (ha:k+XO (xs.drop k)=r):k=r:=by
 rw [Y9 h,XO,Z9 hs] at ha;omega
theorem Z9e {xs:List Z4} {k:Nat} {r:Nat} (h:xs.length<=k) (ha:k+XO (xs.drop k)=r):k=r:=by
 rw [Xf h,XO] at ha;omega
theorem RL {op:Int} {xs:List Z4} {acc r:LI} {k:Nat} {s:Z4} (h:xs[k]? = some s) (hs:s.op=op) (ha:acc++Ws op (xs.drop k)=r):(acc++[gI s.args 0])++Ws op (xs.drop (k+1))=r:=by
 rw [Y9 h,Ws,Zj hs] at ha;rw [<-ha];simp
theorem RK {op:Int} {xs:List Z4} {acc r:LI} {k:Nat} {s:Z4} (h:xs[k]? = some s) (hs:¬s.op=op) (ha:acc++Ws op (xs.drop k)=r):acc++Ws op (xs.drop (k+1))=r:=by
 rw [Y9 h,Ws,Z9 hs] at ha;exact ha
theorem RJ {op:Int} {xs:List Z4} {acc r:LI} {k:Nat} (h:xs.length<=k) (ha:acc++Ws op (xs.drop k)=r):acc=r:=by
 rw [Xf h,Ws,KS] at ha;exact ha
theorem Z0u {xs acc r:LI} {y:Int} {k:Nat} {x:Int} {d:Bool} (h:xs[k]? = some x) (ha:acc++(if d=true then xs.drop k else (xs.drop k).erase y)=r) :
  (if x=y/\¬d=true then acc else acc++[x])++(if ((x==y&&!d)||d)=true then xs.drop (k+1) else (xs.drop (k+1)).erase y)=r:=by
 rw [Y9 h] at ha
 rw [<-ha]
 by_cases hd:d=true
 ·simp [hd]
 ·by_cases hx:x=y
  ·simp [hd,hx]
  ·rw [Z9 (fun z=>hx z.1),Z9 hd,List.erase_cons_tail (by simpa using hx)]
   simp [hd,hx]
theorem Z0t {xs acc r:LI} {y:Int} {k:Nat} {d:Bool} (h:xs.length<=k) (ha:acc++(if d=true then xs.drop k else (xs.drop k).erase y)=r):acc=r:=by
 rw [Xf h] at ha;simpa using ha
section
variable {fs D R:LI} {q k:Nat} {f:Int} {r:LI × LI}
theorem Z7g (h:fs[k]? = some f) (h0:f≠0) (hm:((q+k:Nat):Int)∈D) (ha:UG (fs.drop k) (q+k) D R=r):UG (fs.drop (k+1)) (q+((k+1:Nat):Int)) (D.erase ((q+k:Nat):Int)) R=r:=by
 rw [Y9 h,UG,Zj ⟨h0,by rw [<-Int.natCast_add];exact hm⟩,<-Int.natCast_add] at ha
 rw [<-ha];congr 1
theorem Z7h (h:fs[k]? = some f) (h0:f≠0) (hm:¬((q+k:Nat):Int)∈D) (ha:UG (fs.drop k) (q+k) D R=r):UG (fs.drop (k+1)) (q+((k+1:Nat):Int)) D (R++[((q+k:Nat):Int)])=r:=by
 rw [Y9 h,UG,Z9 (fun z=>hm (by rw [Int.natCast_add];exact z.2)),Zj h0,<-Int.natCast_add] at ha
 rw [<-ha];congr 1
theorem Z7i (h:fs[k]? = some f) (h0:¬f≠0) (ha:UG (fs.drop k) (q+k) D R=r):UG (fs.drop (k+1)) (q+((k+1:Nat):Int)) D R=r:=by
 rw [Y9 h,UG,Z9 (fun z=>h0 z.1),Z9 h0] at ha
 rw [<-ha];congr 1
theorem Z7f (h:fs.length<=k) (ha:UG (fs.drop k) (q+k) D R=r):r=(D,R):=by
 rw [Xf h,UG] at ha;exact ha.symm
end
theorem RA {xs:List Z4} {x:Int} {fs:LI} {q:Int} {D R:LI} (h1:x∈Ws 15 (xs.take (XO xs))) (h2:fs.length≠0) (hr:A4 xs x fs q=(D,R)):D.map (Zx 14)++[Zx 16 x]++R.map (Zx 15)++xs.drop (XO xs)=KY xs x fs q:=by
 rw [KY,Zj ⟨h1,h2⟩,hr]
theorem Zaa {ds:List Ze} {xs:List Z4}:∀{m:Nat},QF ds xs->∀s∈Ui ds m xs,Yo s.op=true->∃a,s.args=[a]:=by
 induction xs with
 | nil=>intro m _ s hs;simp [Ui] at hs
 | cons t r ih=>
  intro m h s hs ho
  rw [Ui] at hs
  rcases YH.1 hs with rfl|hs
  ·rw [Iv] at ho ⊢
   exact (G8 h.1 ho).2.2
  ·exact ih h.2 s hs ho
end Go.Abs
end
namespace Go.Abs
theorem IY {s:Z4} (h:Cn s):∃a,s.args=[a]:=⟨gI s.args 0,by have:=Yp Z4.args h;exact this⟩
section
variable {xs:LI} {v:Int} {lo hi:Nat}
end
section
variable {m:Int} {xs du dr:List Z4} {lf:LI} {d:Bool} {k:Nat} {s:Z4} {W:List Z4 × List Z4 × LI}
end
def YT:List Z4->Nat
 | []=>0
 | s::r=>if Yo s.op=true then YT r+1 else 0
def W0 (op x:Int):List Z4->Int->Int
 | [],_=>-1
 | s::r,k=>if s.op=op/\gI s.args 0=x then k else W0 op x r (k+1)
def QN (many:Nat) (s:Z4):Prop:=(s.op=6/\s.into=0)/\s.args.length=many
instance (many:Nat) (s:Z4):Decidable (QN many s):=by unfold QN;infer_instance
def Wk (many:Nat):List Z4->Int->Int
 | [],_=>-1
 | s::r,k=>if QN many s then k else Wk many r (k+1)
def Az (xs:List Z4) (i:Int):Z4:=xs[i.toNat]?.getD (Zx 0 0)
def Q7 (v:Int) (s:Z4):Z4:=.mk s.op s.num v s.args s.kids
def Vf (xs:List Z4) (x:Int):Int:=W0 16 x (xs.take (YT xs)) 0
def Wy (xs:List Z4) (many:Nat):Int:=Wk many (xs.drop (YT xs)) (YT xs)
def VX (xs:List Z4) (x:Int) (many:Nat):List Z4:=
 if Vf xs x<0∨Wy xs many<0 then xs else (xs.set (Vf xs x).toNat (Zx 17 x)).set (Wy xs many).toNat (Q7 (1+x) (Az xs (Wy xs many)))
def VJ (b:Z5) (x:Int) (many:Nat):Z5:=.mk (VX b.steps x many) b.result
mutual
def TU (ds:List Ze) (kept:LI):Z4->Z4
 | .mk op num into args kids=>.mk op num into args (Ug ds kept op num args kids 0)
def Ug (ds:List Ze) (kept:LI) (op num:Int) (args:LI):List Z5->Nat->List Z5
 | [],_=>[]
 | b::r,k=>(if op=8/\¬gI args 0∈kept then VJ (Wq ds (if Vf b.steps (gI args 0)<0∨Wy b.steps (UD ds num k).length<0 then kept else gI args 0::kept) b) (gI args 0) (UD ds num k).length else Wq ds kept b)::Ug ds kept op num args r (k+1)
def Uu (ds:List Ze) (kept:LI):List Z4->List Z4
 | []=>[]
 | s::r=>TU ds kept s::Uu ds kept r
def Wq (ds:List Ze) (kept:LI):Z5->Z5
 | .mk steps result=>.mk (Uu ds kept steps) result
end
def Fb (ds:List Ze) (kept:LI) (num:Int) (args:LI) (k:Nat) (b:Z5):LI:=if Vf b.steps (gI args 0)<0∨Wy b.steps (UD ds num k).length<0 then kept else gI args 0::kept
def TD (ds:List Ze) (kept:LI) (op num:Int) (args:LI) (k:Nat) (b:Z5):Z5:=if op=8/\¬gI args 0∈kept then VJ (Wq ds (Fb ds kept num args k b) b) (gI args 0) (UD ds num k).length else Wq ds kept b
theorem AO (ds:List Ze) (kept:LI) (s:Z4):TU ds kept s=.mk s.op s.num s.into s.args (Ug ds kept s.op s.num s.args s.kids 0):=by cases s;rw [TU];rfl
theorem FA (ds:List Ze) (kept:LI) (b:Z5):Wq ds kept b=.mk (Uu ds kept b.steps) b.result:=by cases b;rw [Wq];rfl
theorem FC (ds:List Ze) (kept:LI):∀xs:List Z4,Uu ds kept xs=xs.map (TU ds kept)
 | []=>rfl
 | s::r=>by rw [Uu,FC ds kept r];rfl
section
variable {ds:List Ze} {kept:LI}
theorem Z9d {xs acc r:List Z4} {k:Nat} {s:Z4} (h:xs[k]? = some s) (ha:acc++Uu ds kept (xs.drop k)=r) :
  (acc++[.mk s.op s.num s.into s.args (Ug ds kept s.op s.num s.args s.kids 0)])++Uu ds kept (xs.drop (k+1))=r:=by
 rw [Y9 h,Uu,AO] at ha
 rw [<-ha];simp
theorem Z9c {xs acc r:List Z4} {k:Nat} (h:xs.length<=k) (ha:acc++Uu ds kept (xs.drop k)=r):acc=r:=by
 rw [Xf h,Uu,KS] at ha;exact ha
theorem Z97 {op num:Int} {args:LI} {bs acc r:List Z5} {k:Nat} {b:Z5} (h:bs[k]? = some b) (ha:acc++Ug ds kept op num args (bs.drop k) k=r) :
  (acc++[TD ds kept op num args k b])++Ug ds kept op num args (bs.drop (k+1)) (k+1)=r:=by
 rw [Y9 h,Ug] at ha
 rw [<-ha,TD,Fb];simp
theorem Z96 {op num:Int} {args:LI} {bs acc r:List Z5} {k j:Nat} (h:bs.length<=k) (ha:acc++Ug ds kept op num args (bs.drop k) j=r):acc=r:=by
 rw [Xf h,Ug,KS] at ha;exact ha
end
section
variable {ds:List Ze}
mutual
theorem Z9a:∀(s:Z4) {K K':LI},(∀z,z∈K↔z∈K')->TU ds K s=TU ds K' s
 | .mk op num into args kids,K,K',h=>by rw [TU,TU,OP kids h]
theorem OP:∀(bs:List Z5) {K K':LI} {op num:Int} {args:LI} {k:Nat},(∀z,z∈K↔z∈K')->Ug ds K op num args bs k=Ug ds K' op num args bs k
 | [],_,_,_,_,_,_,_=>by rw [Ug,Ug]
 | b::r,K,K',op,num,args,k,h=>by
  have h1:=OP r (op:=op) (num:=num) (args:=args) (k:=k+1) h
  have h2:=Ii b h
  have h3:∀z,z∈(gI args 0::K)↔z∈(gI args 0::K'):=fun z=>by rw [YH,YH,h z]
  have h4:=Ii b h3
  rw [Ug,Ug,h1,h2]
  congr 1
  by_cases hq:op=8/\¬gI args 0∈K
  ·have hq':op=8/\¬gI args 0∈K':=⟨hq.1,fun z=>hq.2 ((h _).2 z)⟩
   rw [Zj hq,Zj hq']
   congr 1
   split
   ·exact h2
   ·exact h4
  ·have hq':¬(op=8/\¬gI args 0∈K'):=fun z=>hq ⟨z.1,fun y=>z.2 ((h _).1 y)⟩
   rw [Z9 hq,Z9 hq']
theorem OR:∀(xs:List Z4) {K K':LI},(∀z,z∈K↔z∈K')->Uu ds K xs=Uu ds K' xs
 | [],_,_,_=>by rw [Uu,Uu]
 | s::r,K,K',h=>by rw [Uu,Uu,Z9a s h,OR r h]
theorem Ii:∀(b:Z5) {K K':LI},(∀z,z∈K↔z∈K')->Wq ds K b=Wq ds K' b
 | .mk steps result,K,K',h=>by rw [Wq,Wq,OR steps h]
end
end
theorem Dx:∀xs:List Z4,YT xs<=xs.length
 | []=>X9 _
 | s::r=>by have:=Dx r;rw [YT];split<;>simp<;>omega
section
variable {f:Z4->Z4} (hop:∀s,(f s).op=s.op) (hin:∀s,(f s).into=s.into) (har:∀s,(f s).args=s.args)
include hop
theorem HP:∀xs:List Z4,YT (xs.map f)=YT xs
 | []=>rfl
 | s::r=>by rw [VM,YT,YT,hop,HP r]
include har
theorem Li {op x:Int}:∀(xs:List Z4) (k:Int),W0 op x (xs.map f) k=W0 op x xs k
 | [],_=>rfl
 | s::r,k=>by rw [VM,W0,W0,hop,har,Li r]
theorem Z7d (xs:List Z4) (x:Int):Vf (xs.map f) x=Vf xs x:=by rw [Vf,HP hop,<-List.map_take,Li hop har,Vf]
include hin
theorem LJ {many:Nat}:∀(xs:List Z4) (k:Int),Wk many (xs.map f) k=Wk many xs k
 | [],_=>rfl
 | s::r,k=>by
  have e:QN many (f s)↔QN many s:=by rw [QN,QN,hop,hin,har]
  rw [VM,Wk,Wk,LJ r]
  by_cases h:QN many s
  ·rw [Zj h,Zj (e.2 h)]
  ·rw [Z9 h,Z9 (fun z=>h (e.1 z))]
theorem Sh (xs:List Z4) (many:Nat):Wy (xs.map f) many=Wy xs many:=by rw [Wy,HP hop,<-List.map_drop,LJ hop hin har,Wy]
end
theorem Lh {op x:Int}:∀{xs:List Z4} {k:Int},¬W0 op x xs k<0->0<=k->k<=W0 op x xs k/\W0 op x xs k<k+xs.length/\∃s,xs[(W0 op x xs k-k).toNat]? = some s/\s.op=op/\gI s.args 0=x
 | [],k,h,_=>by simp [W0] at h
 | s::r,k,h,hk=>by
  rw [W0] at h ⊢
  split
  ·rename_i q
   refine ⟨Int.le_refl _,by rw [YV];omega,s,?_,q⟩
   rw [Int.sub_self];rfl
  ·rename_i q
   rw [Z9 q] at h
   obtain ⟨h1,h2,t,h3,h4⟩:=Lh (xs:=r) (k:=k+1) h om
   refine ⟨by omega,by rw [YV];omega,t,?_,h4⟩
   rw [show (W0 op x r (k+1)-k).toNat=(W0 op x r (k+1)-(k+1)).toNat+1 by omega,List.getElem?_cons_succ]
   exact h3
theorem LH {many:Nat}:∀{xs:List Z4} {k:Int},¬Wk many xs k<0->0<=k->k<=Wk many xs k/\Wk many xs k<k+xs.length/\∃s,xs[(Wk many xs k-k).toNat]? = some s/\QN many s
 | [],k,h,_=>by simp [Wk] at h
 | s::r,k,h,hk=>by
  rw [Wk] at h ⊢
  split
  ·rename_i q
   refine ⟨Int.le_refl _,by rw [YV];omega,s,?_,q⟩
   rw [Int.sub_self];rfl
  ·rename_i q
   rw [Z9 q] at h
   obtain ⟨h1,h2,t,h3,h4⟩:=LH (xs:=r) (k:=k+1) h om
   refine ⟨by omega,by rw [YV];omega,t,?_,h4⟩
   rw [show (Wk many r (k+1)-k).toNat=(Wk many r (k+1)-(k+1)).toNat+1 by omega,List.getElem?_cons_succ]
   exact h3
theorem DH {xs:List Z4} {x:Int} (h:¬Vf xs x<0):0<=Vf xs x/\Vf xs x<YT xs/\∃s,xs[(Vf xs x).toNat]? = some s/\s.op=16/\gI s.args 0=x:=by
 obtain ⟨h1,h2,s,h3,h4⟩:=Lh h (Int.le_refl 0)
 have hl:=Dx xs
 rw [Wr,Vn hl] at h2
 have h2':Vf xs x<YT xs:=by unfold Vf;omega
 have h1':0<=Vf xs x:=h1
 refine ⟨h1',h2',s,?_,h4⟩
 rw [Int.sub_zero] at h3
 have h5:(Vf xs x).toNat<YT xs:=by omega
 rwa [show W0 16 x (xs.take (YT xs)) 0=Vf xs x from rfl,List.getElem?_take_of_lt h5] at h3
theorem JE {xs:List Z4} {many:Nat} (h:¬Wy xs many<0):(YT xs:Int)<=Wy xs many/\Wy xs many<xs.length/\∃s,xs[(Wy xs many).toNat]? = some s/\QN many s/\Az xs (Wy xs many)=s:=by
 obtain ⟨h1,h2,s,h3,h4⟩:=LH h om
 have hl:=Dx xs
 rw [KU] at h2
 have h1':(YT xs:Int)<=Wy xs many:=h1
 have h2':Wy xs many<xs.length:=by unfold Wy;omega
 rw [IV,show Wk many (xs.drop (YT xs)) (YT xs)=Wy xs many from rfl,show YT xs+(Wy xs many-(YT xs:Int)).toNat=(Wy xs many).toNat by omega] at h3
 exact ⟨h1',h2',s,h3,h4,by rw [Az,h3];rfl⟩
theorem Z8i {f:Z4->Z4} (hop:∀s,(f s).op=s.op) (hin:∀s,(f s).into=s.into) (har:∀s,(f s).args=s.args) (hc:∀x,f (Zx 17 x)=Zx 17 x) (hi:∀v s,f (Q7 v s)=Q7 v (f s)) (xs:List Z4) (x:Int) (many:Nat) :
  VX (xs.map f) x many=(VX xs x many).map f:=by
 rw [VX,Z7d hop har,Sh hop hin har,VX]
 split
 ·rfl
 ·rename_i hq
  obtain ⟨_,_,s,h3,_,h5⟩:=JE (fun z=>hq (.inr z))
  have e:Az (xs.map f) (Wy xs many)=f (Az xs (Wy xs many)):=by rw [Az,Kv,h3,h5];rfl
  rw [e,List.map_set,List.map_set,hc,hi]
theorem ON {ds:List Ze} {K:LI} {b:Z5} {x:Int} {many:Nat}:Wq ds K (VJ b x many)=VJ (Wq ds K b) x many:=by
 rw [VJ,Wq,VJ,FA,FC,FC]
 show Z5.mk _ _=Z5.mk (VX (b.steps.map (TU ds K)) x many) b.result
 rw [Z8i (f:=TU ds K) (fun s=>by rw [AO];rfl) (fun s=>by rw [AO];rfl) (fun s=>by rw [AO];rfl) (fun x=>by rw [AO];rfl) (fun v s=>by rw [AO,AO];rfl)]
structure CB (c:LI) (q:Int):Prop where
 len:c.length=4
 bd:∀x∈c,0<=x/\x<=q
mutual
def By:Z4->Prop
 | .mk op _ _ _ kids=>op≠17/\AI kids
def AI:List Z5->Prop
 | []=>True
 | b::r=>Qy b/\AI r
def AJ:List Z4->Prop
 | []=>True
 | s::r=>By s/\AJ r
def Qy:Z5->Prop
 | .mk steps _=>AJ steps
end
theorem Cs (s:Z4):By s↔s.op≠17/\AI s.kids:=by cases s;rw [By];rfl
theorem DB (b:Z5):Qy b↔AJ b.steps:=by cases b;rw [Qy];rfl
theorem DC:∀{xs:List Z4},AJ xs↔∀s∈xs,By s
 | []=>by simp [AJ]
 | s::r=>by rw [AJ,DC];simp
theorem Fp:∀{xs:List Z5},AI xs↔∀s∈xs,Qy s
 | []=>by simp [AI]
 | s::r=>by rw [AI,Fp];simp
theorem FX:∀{xs:List Z4} {i:Nat} {s:Z4} (t:Z4),xs[i]? = some s->Yw (xs.set i t)+s.sz=Yw xs+t.sz
 | [],_,_,_,h=>by simp at h
 | x::r,0,s,t,h=>by simp at h;subst h;rw [List.set_cons_zero,Yw,Yw];omega
 | x::r,i+1,s,t,h=>by
  have:=FX (xs:=r) (i:=i) t (by simpa using h)
  rw [List.set_cons_succ,Yw,Yw];omega
theorem Z59 (v:Int) (s:Z4):(Q7 v s).sz=s.sz:=by cases s;rw [Q7,Z4.sz,Z4.sz];rfl
theorem LK {xs:List Z4} {x:Int} {many:Nat} (h:¬(Vf xs x<0∨Wy xs many<0)):(Vf xs x).toNat<(Wy xs many).toNat:=by
 obtain ⟨h1,h2,_⟩:=DH (fun z=>h (.inl z))
 obtain ⟨h3,h4,_⟩:=JE (fun z=>h (.inr z))
 omega
theorem Fz {xs:List Z4} {x:Int} {many:Nat} (h:¬(Vf xs x<0∨Wy xs many<0)) {t:Z4} {s:Z4} (hs:xs[(Wy xs many).toNat]? = some s):(xs.set (Vf xs x).toNat t)[(Wy xs many).toNat]? = some s:=by
 have:=LK h
 rw [List.getElem?_set_ne om];exact hs
theorem OD {xs:List Z4} {x:Int} {many:Nat} (h:∀s∈xs,Yo s.op=true->2<=s.sz):Yw (VX xs x many)<=Yw xs:=by
 rw [VX]
 split
 ·exact X9 _
 ·rename_i hq
  obtain ⟨_,_,s,h3,h4,_⟩:=DH (fun z=>hq (.inl z))
  obtain ⟨_,_,t,h5,_,h6⟩:=JE (fun z=>hq (.inr z))
  have e1:=FX (Zx 17 x) h3
  have e2:=FX (Q7 (1+x) (Az xs (Wy xs many))) (Fz hq (t:=Zx 17 x) h5)
  have h7:=h s (Y1 h3) (by rw [h4];rfl)
  rw [Ep] at e1
  rw [Z59,h6] at e2
  rw [h6]
  omega
section
variable {ds:List Ze}
theorem Zdi {v:Int} {s:Z4} (h:wS ds s) (h6:s.op=6):wS ds (Q7 v s):=by
 obtain ⟨h1,h2,h3,h4⟩:=(KQ s).1 h
 exact (KQ _).2 ⟨h1,fun hc=>absurd hc (by show ¬Yo s.op=true;rw [h6];decide),h3,h4⟩
theorem Zdf {v:Int}:wS ds (Zx 17 v):=(KQ _).2 ⟨rfl,fun _=>⟨rfl,rfl,rfl,v,rfl⟩,fun e=>absurd e (show (17:Int)≠8 by decide),True.intro⟩
theorem Zde {xs:List Z4} {x:Int} {many:Nat} (h:QF ds xs):QF ds (VX xs x many):=by
 rw [VX]
 split
 ·exact h
 ·rename_i hq
  obtain ⟨_,_,t,h5,h7,h6⟩:=JE (fun z=>hq (.inr z))
  rw [Ac]
  intro s hs
  rcases List.mem_or_eq_of_mem_set hs with hs|rfl
  ·rcases List.mem_or_eq_of_mem_set hs with hs|rfl
   ·exact Ac.1 h s hs
   ·exact Zdf
  ·rw [h6];exact Zdi (Ac.1 h t (Y1 h5)) h7.1.1
theorem Zdd {b:Z5} {x:Int} {many:Nat} (h:wB ds b):wB ds (VJ b x many):=by rw [VJ,Ku];exact Zde ((Ku b).1 h)
variable (hd:Wb ds)
mutual
theorem Z9b:∀(s:Z4) {K:LI},wS ds s->(TU ds K s).sz<=s.sz
 | .mk op num into args kids,K,h=>by
  have:=OQ kids (K:=K) (op:=op) (num:=num) (args:=args) (k:=0) h.2.2.2
  rw [TU,Z4.sz,Z4.sz];omega
theorem OQ:∀(bs:List Z5) {K:LI} {op num:Int} {args:LI} {k:Nat},Ab ds bs->X1 (Ug ds K op num args bs k)<=X1 bs
 | [],_,_,_,_,_,_=>X9 _
 | b::r,K,op,num,args,k,h=>by
  have h2:=OQ r (K:=K) (op:=op) (num:=num) (args:=args) (k:=k+1) h.2
  have key:∀K2:LI,(VJ (Wq ds K2 b) (gI args 0) (UD ds num k).length).sz<=b.sz:=fun K2=>by
   have h1:=Ij b (K:=K2) h.1
   have h3:=OD (xs:=(Wq ds K2 b).steps) (x:=gI args 0) (many:=(UD ds num k).length) (by
    rw [FA,FC]
    intro s hs hc
    obtain ⟨t,ht,rfl⟩:=XH.1 hs
    rw [AO] at hc ⊢
    obtain ⟨_,_,a,ha⟩:=G8 (Ac.1 ((Ku b).1 h.1) t ht) hc
    rw [Z4.sz,ha];simp)
   rw [VJ,Z5.sz]
   rw [Z5.sz_eq] at h1
   omega
  rw [Ug,X1,X1]
  split
  ·have:=key (if Vf b.steps (gI args 0)<0∨Wy b.steps (UD ds num k).length<0 then K else gI args 0::K)
   omega
  ·have:=Ij b (K:=K) h.1
   omega
theorem OS:∀(xs:List Z4) {K:LI},QF ds xs->Yw (Uu ds K xs)<=Yw xs
 | [],_,_=>X9 _
 | s::r,K,h=>by
  have h1:=Z9b s (K:=K) h.1
  have h2:=OS r (K:=K) h.2
  rw [Uu,Yw,Yw];omega
theorem Ij:∀(b:Z5) {K:LI},wB ds b->(Wq ds K b).sz<=b.sz
 | .mk steps result,K,h=>by
  have:=OS steps (K:=K) h
  rw [Wq,Z5.sz,Z5.sz];omega
end
end
theorem HQ:∀{xs:List Z4} {i:Nat} {s t:Z4},xs[i]? = some s->Yo t.op=Yo s.op->YT (xs.set i t)=YT xs
 | [],_,_,_,h,_=>by simp at h
 | x::r,0,s,t,h,e=>by simp at h;subst h;rw [List.set_cons_zero,YT,YT,e]
 | x::r,i+1,s,t,h,e=>by
  rw [List.set_cons_succ,YT,YT,HQ (xs:=r) (i:=i) (by simpa using h) e]
theorem Z61 {xs:List Z4} {x:Int} {many:Nat}:YT (VX xs x many)=YT xs:=by
 rw [VX]
 split
 ·rfl
 ·rename_i hq
  obtain ⟨_,_,s,h3,h4,_⟩:=DH (fun z=>hq (.inl z))
  obtain ⟨_,_,t,h5,_,h6⟩:=JE (fun z=>hq (.inr z))
  rw [HQ (Fz hq (t:=Zx 17 x) h5) (by rw [h6];rfl),HQ h3 (by rw [h4];rfl)]
theorem Lk {op x:Int}:∀{xs:List Z4} {k:Int},(∀s∈xs,s.op≠op)->W0 op x xs k=-1
 | [],_,_=>rfl
 | s::r,k,h=>by
  rw [W0,Z9 (fun z=>h s (Xh ..) z.1)]
  exact Lk fun t ht=>h t (XC _ ht)
theorem Ll {op x:Int}:∀{xs:List Z4} {k:Int},0<=k->(∃s∈xs,s.op=op/\gI s.args 0=x)->0<=W0 op x xs k
 | [],_,_,h=>by obtain ⟨s,hs,_⟩:=h;cases hs
 | s::r,k,hk,h=>by
  rw [W0]
  split
  ·exact hk
  ·rename_i q
   obtain ⟨t,ht,h1⟩:=h
   rcases YH.1 ht with rfl|ht
   ·exact absurd h1 q
   ·exact Ll om ⟨t,ht,h1⟩
theorem PO {xs:List Z4} {x:Int} {many:Nat} (hn:AJ xs):0<=W0 17 x ((VX xs x many).take (YT (VX xs x many))) 0↔¬(Vf xs x<0∨Wy xs many<0):=by
 rw [Z61]
 constructor
 ·intro h hq
  rw [VX,Zj hq,Lk (fun s hs=>((Cs s).1 (DC.1 hn s (TZ hs))).1)] at h
  omega
 ·intro hq
  obtain ⟨h1,h2,s,h3,h4,_⟩:=DH (fun z=>hq (.inl z))
  have hap:=LK hq
  refine Ll (Int.le_refl 0) ⟨Zx 17 x,?_,rfl,rfl⟩
  rw [VX,Z9 hq]
  refine Y1 (i:=(Vf xs x).toNat) ?_
  rw [List.getElem?_take_of_lt om,List.getElem?_set_ne om,List.getElem?_set_self (XS.1 h3).1]
def AK (b:Z5):Prop:=∀s∈b.steps,AI s.kids
theorem Bx {b:Z5} (h:Qy b):AK b:=fun s hs=>((Cs s).1 (DC.1 ((DB b).1 h) s hs)).2
theorem Z6v {b:Z5} {k j:Nat} {s:Z4} {c:Z5} (h:AK b) (hs:b.steps[k]? = some s) (hc:s.kids[j]? = some c):Qy c:=Fp.1 (h s (Y1 hs)) c (Y1 hc)
theorem NM {b:Z5} {x:Int} {many:Nat} (h:Qy b):AK (VJ b x many):=by
 intro s hs
 have hs:s∈VX b.steps x many:=hs
 rw [VX] at hs
 split at hs
 ·exact Bx h s hs
 ·rename_i hq
  obtain ⟨_,_,t,h5,_,h6⟩:=JE (fun z=>hq (.inr z))
  rcases List.mem_or_eq_of_mem_set hs with hs|rfl
  ·rcases List.mem_or_eq_of_mem_set hs with hs|rfl
   ·exact Bx h s hs
   ·exact True.intro
  ·rw [h6];exact Bx h t (Y1 h5)
theorem Z8h {ds:List Ze} {b:Z5} {x:Int} {many:Nat} (h:wB ds b):(VJ b x many).sz<=b.sz:=by
 have:=OD (xs:=b.steps) (x:=x) (many:=many) fun s hs hc=>by
  have h7:=Gj ((Ku b).1 h) s hs hc
  rw [h7,Ep];omega
 rw [VJ,Z5.sz,b.sz_eq];omega
def AN (ds:List Ze) (r:ZV):ZV:=⟨r.params,r.lent,r.result,Wq ds [] r.body⟩
def FB (n:Zq):Zq:=⟨n.decls,n.routines.map (AN n.decls)⟩
mutual
def Cv:Z4->Bool
 | .mk op _ into _ kids=>(!Yo op&&into==0)&&U7 kids
def Vm:Z5->Bool
 | .mk steps _=>Ud steps
def Ud:List Z4->Bool
 | []=>true
 | s::r=>Cv s&&Ud r
def U7:List Z5->Bool
 | []=>true
 | b::r=>Vm b&&U7 r
end
theorem Fx (b:Z5):Vm b=Ud b.steps:=by cases b;rw [Vm];rfl
theorem I3 (s:Z4):Cv s=((!Yo s.op&&s.into==0)&&U7 s.kids):=by cases s;rw [Cv];rfl
def Uc:List ZV->Bool
 | []=>true
 | r::rs=>Vm r.body&&Uc rs
def X5 (n:Zq):Bool:=V8 n&&Uc n.routines
theorem Z7o {xs:List Z4} {k:Nat} {s:Z4} {v w:Bool} (h:xs[k]? = some s) (ha:(v&&Ud (xs.drop k))=w):((v&&Cv s)&&Ud (xs.drop (k+1)))=w:=by
 rw [Y9 h,Ud] at ha;rw [Bool.and_assoc];exact ha
theorem Z7n {xs:List Z4} {k:Nat} {v w:Bool} (h:xs.length<=k) (ha:(v&&Ud (xs.drop k))=w):v=w:=by
 rw [Xf h,Ud,Bool.and_true] at ha;exact ha
theorem Z7q {xs:List Z5} {k:Nat} {s:Z5} {v w:Bool} (h:xs[k]? = some s) (ha:(v&&U7 (xs.drop k))=w):((v&&Vm s)&&U7 (xs.drop (k+1)))=w:=by
 rw [Y9 h,U7] at ha;rw [Bool.and_assoc];exact ha
theorem Z7p {xs:List Z5} {k:Nat} {v w:Bool} (h:xs.length<=k) (ha:(v&&U7 (xs.drop k))=w):v=w:=by
 rw [Xf h,U7,Bool.and_true] at ha;exact ha
theorem Oh {xs:List ZV} {k:Nat} {s:ZV} (h:xs[k]? = some s):Uc (xs.drop k)=(Vm s.body&&Uc (xs.drop (k+1))):=by rw [Y9 h,Uc]
theorem Oi {xs:List ZV} {k:Nat} {s:ZV} {w:Bool} (h:xs[k]? = some s) (hs:Vm s.body=true) (ha:Uc (xs.drop k)=w):Uc (xs.drop (k+1))=w:=by
 rw [Oh h,hs,Bool.true_and] at ha;exact ha
theorem Og {xs:List ZV} {k:Nat} {w:Bool} (h:xs.length<=k) (ha:Uc (xs.drop k)=w):true=w:=by
 rw [Xf h,Uc] at ha;exact ha
theorem Of {xs:List ZV} {k:Nat} {s:ZV} {w:Bool} (h:xs[k]? = some s) (hs:¬Vm s.body=true) (ha:Uc (xs.drop k)=w):false=w:=by
 rw [Oh h,To.2 hs,Bool.false_and] at ha;exact ha
theorem I4 {xs:List Z4} {k:Nat} {s:Z4} (h:xs[k]? = some s):Ud (xs.drop k)=(((!Yo s.op&&s.into==0)&&U7 s.kids)&&Ud (xs.drop (k+1))):=by rw [Y9 h,Ud,I3]
theorem Z7u {xs:List Z4} {k:Nat} {s:Z4} {w:Bool} (h:xs[k]? = some s) (hs:Yo s.op=true∨s.into≠0) (ha:Ud (xs.drop k)=w):false=w:=by
 rw [I4 h] at ha
 rw [<-ha]
 rcases hs with hs|hs
 ·rw [hs];rfl
 ·rw [show (s.into==0)=false by simpa using hs];simp
theorem Z7v {xs:List Z4} {k:Nat} {s:Z4} {w:Bool} (h:xs[k]? = some s) (hs:U7 s.kids=false) (ha:Ud (xs.drop k)=w):false=w:=by
 rw [I4 h,hs] at ha;simpa using ha
theorem Z7x {xs:List Z4} {k:Nat} {s:Z4} {w:Bool} (h:xs[k]? = some s) (h1:¬(Yo s.op=true∨s.into≠0)) (h2:U7 s.kids=true) (ha:Ud (xs.drop k)=w):Ud (xs.drop (k+1))=w:=by
 rw [I4 h,h2,To.2 (fun z=>h1 (.inl z)),show (s.into==0)=true by simpa using fun z=>h1 (.inr z)] at ha
 simpa using ha
theorem Z7w {xs:List Z4} {k:Nat} {w:Bool} (h:xs.length<=k) (ha:Ud (xs.drop k)=w):true=w:=by
 rw [Xf h,Ud] at ha;exact ha
theorem Z7r {xs:List Z5} {k:Nat} {s:Z5} {w:Bool} (h:xs[k]? = some s) (hs:¬Vm s=true) (ha:U7 (xs.drop k)=w):w=false:=by
 rw [Y9 h,U7,To.2 hs] at ha;exact ha.symm
theorem Z7t {xs:List Z5} {k:Nat} {s:Z5} {w:Bool} (h:xs[k]? = some s) (hs:Vm s=true) (ha:U7 (xs.drop k)=w):U7 (xs.drop (k+1))=w:=by
 rw [Y9 h,U7,hs,Bool.true_and] at ha;exact ha
theorem Z7s {xs:List Z5} {k:Nat} {w:Bool} (h:xs.length<=k) (ha:U7 (xs.drop k)=w):w=true:=by
 rw [Xf h,U7] at ha;exact ha.symm
theorem Z0s {xs ys:LI} (h:xs.length=ys.length) (ha:∀i,i<xs.length->xs[i]? = ys[i]?):xs=ys:=List.ext_getElem? fun i=>by
 by_cases hi:i<xs.length
 ·exact ha i hi
 ·rw [CJ om,CJ om]

mutual
def Z1.sz:Z1->Nat
 | .mk _ _ kids=>1+Xs kids
def Xs:List Z1->Nat
 | []=>0
 | e::r=>e.sz+Xs r
end
theorem Z1.sz_eq (e:Z1):e.sz=1+Xs e.kids:=by cases e;rw [Z1.sz];rfl
theorem D7:∀xs ys:List Z1,Xs (xs++ys)=Xs xs+Xs ys
 | [],ys=>by simp [Xs]
 | x::r,ys=>by rw [Qj,Xs,Xs,D7 r];omega
theorem Bj:∀{xs:List Z1} {k:Nat} {e:Z1},xs[k]? = some e->e.sz<=Xs xs
 | [],k,e,h=>by simp at h
 | x::r,0,e,h=>by simp at h;subst h;rw [Xs];omega
 | x::r,k+1,e,h=>by have:=Bj (xs:=r) (k:=k) (by simpa using h);rw [Xs];omega
theorem M6:∀{xs:List Z1},xs.length<=Xs xs
 | []=>K3 _
 | x::r=>by have:=M6 (xs:=r);have:=x.sz_eq;rw [Xs,YV];omega
def JG:Ze:=⟨0,0,[⟨[]⟩,⟨[0,1]⟩]⟩
def JH:Ze:=⟨0,0,[⟨[]⟩,⟨[3,0,3]⟩]⟩
def LP:List Ze:=[⟨0,0,[⟨[1,3]⟩]⟩,⟨1,0,[]⟩,⟨0,0,[⟨[1,1,0]⟩,⟨[0]⟩,⟨[3]⟩]⟩,⟨0,1,[]⟩]
def JT:List (List Ze):=[[JG,⟨0,0,[]⟩,JH],[JG,⟨0,0,[]⟩,JH,⟨0,0,[⟨[1,3]⟩]⟩],[JG,⟨0,0,[]⟩,JH,⟨1,0,[]⟩],[JG,⟨0,0,[]⟩,JH,⟨0,0,[⟨[1,1,0]⟩,⟨[0]⟩,⟨[3]⟩]⟩],[JG,⟨0,0,[]⟩,JH,⟨0,1,[]⟩]]
def GD (ds:List Ze):Prop:=ds∈JT
theorem GD.ok {ds:List Ze} (h:GD ds):Wb ds:=by
 have k:=(by decide:∀ds∈JT,ds.length<=4/\(∀d∈ds,d.cons.length<=3)/\∀d∈ds,∀c∈d.cons,c.fields.length<=3) ds h
 exact ⟨k.1,k.2.1,k.2.2⟩
theorem GD.len {ds:List Ze} (h:GD ds):3<=ds.length/\ds.length<=4:=by
 exact (by decide:∀ds∈JT,3<=ds.length/\ds.length<=4) ds h
def Kj (t:Int):Prop:=t=0∨t=1∨t=3
instance (t:Int):Decidable (Kj t):=inferInstanceAs (Decidable (_∨_∨_))
theorem GD.low {ds:List Ze} (h:GD ds):ZW ds 0=[]/\ZW ds 1=[0,1]/\ZW ds 2=[]/\ZW ds 3=[2,3]/\ZX ds 0=[]/\ZX ds 1=[0,1]/\ZX ds 2=[]/\ZX ds 3=[3,0,3]:=
 (by decide:∀ds∈JT,ZW ds 0=[]/\ZW ds 1=[0,1]/\ZW ds 2=[]/\ZW ds 3=[2,3]/\ZX ds 0=[]/\ZX ds 1=[0,1]/\ZX ds 2=[]/\ZX ds 3=[3,0,3]) ds h
theorem GD.fields {ds:List Ze} (h:GD ds):∀c∈ZW ds 1++(ZW ds 3++ZW ds 4),∀t∈ZX ds c,Kj t:=
 (by decide:∀ds∈JT,∀c∈ZW ds 1++(ZW ds 3++ZW ds 4),∀t∈ZX ds c,Kj t) ds h
theorem GD.cons_cases {ds:List Ze} (h:GD ds) {t:Int} {c:Int} (hc:c∈ZW ds t):(0<=c/\c<=9)/\(t=1∨t=3∨t=4)/\(ZX ds c).length<=3/\∀u∈ZX ds c,Kj u:=by
 have ht:1<=t/\t<=ds.length:=by
  by_cases q:1<=t/\t<=ds.length
  ·exact q
  ·rw [ZW,Z9 q] at hc;cases hc
 have hl:=h.len
 have hlow:=h.low
 have key:∀c∈ZW ds 1++(ZW ds 3++ZW ds 4),0<=c/\c<=9:=
  (by decide:∀ds∈JT,∀c∈ZW ds 1++(ZW ds 3++ZW ds 4),0<=c/\c<=9) ds h
 have h4:t=1∨t=2∨t=3∨t=4:=by omega
 have hf:=h.fields
 have hd:=VP h.ok c
 rcases h4 with rfl|rfl|rfl|rfl
 ·exact ⟨key c (Xb.2 (.inl hc)),.inl rfl,hd,hf c (Xb.2 (.inl hc))⟩
 ·rw [hlow.2.2.1] at hc;cases hc
 ·exact ⟨key c (Xb.2 (.inr (Xb.2 (.inl hc)))),.inr (.inl rfl),hd,hf c (Xb.2 (.inr (Xb.2 (.inl hc))))⟩
 ·exact ⟨key c (Xb.2 (.inr (Xb.2 (.inr hc)))),.inr (.inr rfl),hd,hf c (Xb.2 (.inr (Xb.2 (.inr hc))))⟩
def KX:List (LI × Int):=[([],0),([1],0),([1,1],1),([1],1),([1,0],1),([2,1],1),([1,1],0),([3],0),([0],1),([0,1],1),([3,0],3),([3],1),([1,3,0],0),([0],0),([0,0],0),([1,0],0)]
def T3 (f:Func):Prop:=(f.params,f.result)∈KX
theorem T3.bd {f:Func} (h:T3 f):f.params.length<=3/\(∀t∈f.params,0<=t/\t<=3)/\Kj f.result:=by
 have key:∀q∈KX,q.1.length<=3/\(∀t∈q.1,0<=t/\t<=3)/\Kj q.2:=by decide
 exact key _ h
theorem T3.clo {ds:List Ze} {f:Func} (hd:GD ds) (h:T3 f) (hp:0<U0 ds (gI f.params ((f.params.length:Int)-1)) f.result):∀t∈f.params.dropLast,Kj t:=by
 have key:∀q∈KX,0<U0 ds (gI q.1 ((q.1.length:Int)-1)) q.2->∀t∈q.1.dropLast,Kj t:=
  (by decide +kernel:∀ds∈JT,∀q∈KX,0<U0 ds (gI q.1 ((q.1.length:Int)-1)) q.2->∀t∈q.1.dropLast,Kj t) ds hd
 exact key _ h hp
structure GP (p:XZ):Prop where
 decls:GD p.decls
 len:1<=p.funcs.length/\p.funcs.length<=4
 sigs:∀f∈p.funcs,T3 f
def TF (ds:List Ze) (op num:Int) (m:Nat) (k:Nat):Nat:=
 if op=13 then m+k else if op=8 then (if k=0 then m else m+(ZX ds (gI (ZW ds num) ((k:Int)-1))).length) else m
mutual
def eW (ds:List Ze) (nf:Nat):Nat->Z1->Prop
 | m,.mk op num kids=>(0<=op/\op<=13)/\(op=12->kids=[]/\0<=num/\num<m)/\(op=13->kids.length=2)/\(op=7->kids.length=3)/\(op=8->kids.length=1+(ZW ds num).length)/\(op=9->0<=num/\num<nf)/\(-2000<=num/\num<=2000)/\kids.length<=4 /\
  Qq ds nf (TF ds op num m) 0 kids
def Qq (ds:List Ze) (nf:Nat) (sc:Nat->Nat):Nat->List Z1->Prop
 | _,[]=>True
 | k,e::r=>eW ds nf (sc k) e/\Qq ds nf sc (k+1) r
end
theorem Z0n {ds:List Ze} {nf m:Nat} (e:Z1):eW ds nf m e↔(0<=e.op/\e.op<=13)/\(e.op=12->e.kids=[]/\0<=e.num/\e.num<m)/\(e.op=13->e.kids.length=2)/\(e.op=7->e.kids.length=3)/\(e.op=8->e.kids.length=1+(ZW ds e.num).length)/\(e.op=9->0<=e.num/\e.num<nf)/\(-2000<=e.num/\e.num<=2000)/\e.kids.length<=4 /\
  Qq ds nf (TF ds e.op e.num m) 0 e.kids:=by cases e;rw [eW];rfl
theorem C6 {ds:List Ze} {nf:Nat} {sc:Nat->Nat}:∀{xs:List Z1} {j k:Nat} {e:Z1},Qq ds nf sc j xs->xs[k]? = some e->eW ds nf (sc (j+k)) e
 | [],j,k,e,_,h=>by simp at h
 | x::r,j,0,e,hw,h=>by simp at h;subst h;exact hw.1
 | x::r,j,k+1,e,hw,h=>by
  have:=C6 (xs:=r) (j:=j+1) (k:=k) hw.2 (by simpa using h)
  rw [show j+(k+1)=j+1+k by omega];exact this
theorem M2 {ds:List Ze} {nf:Nat} {sc:Nat->Nat}:∀{xs ys:List Z1} {j:Nat},Qq ds nf sc j (xs++ys)↔Qq ds nf sc j xs/\Qq ds nf sc (j+xs.length) ys
 | [],ys,j=>by simp [Qq]
 | x::r,ys,j=>by
  rw [Qj,Qq,Qq,M2 (xs:=r),and_assoc,YV,show j+1+r.length=j+(r.length+1) by omega]
theorem H6 {ds:List Ze} {nf m:Nat} {sc:Nat->Nat} (hs:∀k,sc k=m):∀{xs:List Z1} {j:Nat},(∀e∈xs,eW ds nf m e)->Qq ds nf sc j xs
 | [],_,_=>True.intro
 | x::r,j,h=>⟨by rw [hs];exact h x (Xh ..),H6 hs fun e he=>h e (XC _ he)⟩
theorem Bi {ds:List Ze} {nf m:Nat} {op num:Int} {kids:List Z1} (ho:0<=op/\op<=11/\op≠7/\op≠8) (hc:op=9->0<=num/\num<nf) (hn:-2000<=num/\num<=2000) (hl:kids.length<=4) (hk:∀e∈kids,eW ds nf m e):eW ds nf m (.mk op num kids):=by
 rw [eW]
 refine ⟨by omega,fun h=>by omega,fun h=>by omega,fun h=>by omega,fun h=>by omega,hc,hn,hl,H6 (m:=m) (fun k=>?_) hk⟩
 rw [TF,Z9 om,Z9 om]
theorem Z0o {ds:List Ze} {nf m:Nat} {z:Int} (hz:-2000<=z/\z<=2000):eW ds nf m (.mk 0 z []):=Bi om (fun h=>by omega) hz (by simp) (fun e he=>by cases he)
theorem Z0p {ds:List Ze} {nf m:Nat} {z:Int} (hz:0<=z/\z<m) (hm:m<=2000):eW ds nf m (.mk 12 z []):=by
 rw [eW]
 exact ⟨by omega,fun _=>⟨rfl,hz⟩,fun h=>by omega,fun h=>by omega,fun h=>by omega,fun h=>by omega,by omega,by simp,True.intro⟩
theorem M0 {ds:List Ze} {nf m:Nat} {num:Int} {kids:List Z1} (hn:-2000<=num/\num<=2000) (hl:kids.length=3) (hk:∀e∈kids,eW ds nf m e):eW ds nf m (.mk 7 num kids):=by
 rw [eW]
 refine ⟨by omega,fun h=>by omega,fun h=>by omega,fun _=>hl,fun h=>by omega,fun h=>by omega,hn,by omega,H6 (m:=m) (fun k=>?_) hk⟩
 rw [TF,Z9 om,Z9 om]
theorem M1 {ds:List Ze} {nf m:Nat} {num:Int} {a b:Z1} (hn:-2000<=num/\num<=2000) (ha:eW ds nf m a) (hb:eW ds nf (m+1) b):eW ds nf m (.mk 13 num [a,b]):=by
 rw [eW]
 exact ⟨by omega,fun h=>by omega,fun _=>rfl,fun h=>by omega,fun h=>by omega,fun h=>by omega,hn,by simp,ha,hb,True.intro⟩
theorem H5 {ds:List Ze} {nf m:Nat} {num:Int} {a:Z1} {arms:List Z1} (hn:-2000<=num/\num<=2000) (h3:arms.length<=3) (hl:arms.length=(ZW ds num).length) (ha:eW ds nf m a) (hk:Qq ds nf (TF ds 8 num m) 1 arms):eW ds nf m (.mk 8 num (a::arms)):=by
 rw [eW]
 refine ⟨by omega,fun h=>by omega,fun h=>by omega,fun h=>by omega,fun _=>by rw [YV];omega,fun h=>by omega,hn,by rw [YV];omega,?_,hk⟩
 rw [TF,Z9 om,Zj rfl,Zj rfl]
 exact ha
def bS (b:Nat):Nat:=max 4 (10*b-10)
def bC (b:Nat):Nat:=max 40 (100*b-100)
def YX:List Z4->Nat
 | []=>0
 | s::r=>(if Yo s.op=true then 0 else 1)+YX r
theorem KD:∀xs ys:List Z4,YX (xs++ys)=YX xs+YX ys
 | [],ys=>by simp [YX]
 | x::r,ys=>by rw [Qj,YX,YX,KD r];omega
theorem Aw:∀xs:List Z4,YX xs<=xs.length
 | []=>X9 _
 | x::r=>by have:=Aw r;rw [YX,YV];split<;>omega
def Uv (ds:List Ze) (op num:Int) (m:Nat) (k:Nat):Nat:=if op=8 then m+(ZX ds (gI (ZW ds num) k)).length else m
mutual
def fS (ds:List Ze) (nf:Nat):Nat->Z4->Prop
 | m,.mk op num into args kids=>((0<=op/\op<=11)∨(14<=op/\op<=17))/\(∀a∈args,0<=a/\a<m)/\(14<=op->num=0/\into=0/\kids=[]/\∃a,args=[a])/\(op=7->kids.length=2)/\(op=8->kids.length=(ZW ds num).length)/\(op=7∨op=8->∃a,args=[a]) /\
  (op=9->0<=num/\num<nf)/\(-2000<=num/\num<=2000)/\(0<=into/\into<=m)/\args.length<=4/\(op≠7/\op≠8->kids=[])/\Ti ds nf (Uv ds op num m) 0 kids
def Ti (ds:List Ze) (nf:Nat) (sc:Nat->Nat):Nat->List Z5->Prop
 | _,[]=>True
 | k,b::r=>fB ds nf (sc k) b/\Ti ds nf sc (k+1) r
def UP (ds:List Ze) (nf:Nat):Nat->List Z4->Prop
 | _,[]=>True
 | m,s::r=>fS ds nf m s/\UP ds nf (if Yo s.op=true then m else m+1) r
def fB (ds:List Ze) (nf:Nat):Nat->Z5->Prop
 | m,.mk steps result=>UP ds nf m steps/\0<=result/\result<(m+YX steps:Nat)
end
section
variable {ds:List Ze} {nf:Nat}
structure FS (ds:List Ze) (nf m:Nat) (s:Z4):Prop where
 op:(0<=s.op/\s.op<=11)∨(14<=s.op/\s.op<=17)
 args:∀a∈s.args,0<=a/\a<m
 cnt:14<=s.op->s.num=0/\s.into=0/\s.kids=[]/\∃a,s.args=[a]
 k7:s.op=7->s.kids.length=2
 k8:s.op=8->s.kids.length=(ZW ds s.num).length
 one:s.op=7∨s.op=8->∃a,s.args=[a]
 call:s.op=9->0<=s.num/\s.num<nf
 num:-2000<=s.num/\s.num<=2000
 into:0<=s.into/\s.into<=m
 alen:s.args.length<=4
 kn:s.op≠7/\s.op≠8->s.kids=[]
 kids:Ti ds nf (Uv ds s.op s.num m) 0 s.kids
theorem EE {m:Nat} (s:Z4):fS ds nf m s↔FS ds nf m s:=by
 cases s
 rw [fS]
 exact ⟨fun ⟨h1,h2,h3,h4,h5,h6,h7,h8,h9,h10,h11,h12⟩=>⟨h1,h2,h3,h4,h5,h6,h7,h8,h9,h10,h11,h12⟩,fun h=>⟨h.op,h.args,h.cnt,h.k7,h.k8,h.one,h.call,h.num,h.into,h.alen,h.kn,h.kids⟩⟩
theorem D9 {m:Nat} (b:Z5):fB ds nf m b↔UP ds nf m b.steps/\0<=b.result/\b.result<(m+YX b.steps:Nat):=by cases b;rw [fB];rfl
theorem Da {sc:Nat->Nat}:∀{xs:List Z5} {j k:Nat} {b:Z5},Ti ds nf sc j xs->xs[k]? = some b->fB ds nf (sc (j+k)) b
 | [],j,k,b,_,h=>by simp at h
 | x::r,j,0,b,hw,h=>by simp at h;subst h;exact hw.1
 | x::r,j,k+1,b,hw,h=>by
  have:=Da (xs:=r) (j:=j+1) (k:=k) hw.2 (by simpa using h)
  rw [show j+(k+1)=j+1+k by omega];exact this
theorem M8 {sc:Nat->Nat}:∀{xs ys:List Z5} {j:Nat},Ti ds nf sc j (xs++ys)↔Ti ds nf sc j xs/\Ti ds nf sc (j+xs.length) ys
 | [],ys,j=>by simp [Ti]
 | x::r,ys,j=>by
  rw [Qj,Ti,Ti,M8 (xs:=r),and_assoc,YV,show j+1+r.length=j+(r.length+1) by omega]
theorem M9 {sc:Nat->Nat} {xs:List Z5} {b:Z5} (h:Ti ds nf sc 0 xs) (hb:fB ds nf (sc xs.length) b):Ti ds nf sc 0 (xs++[b]):=
 M8.2 ⟨h,by rw [V0];exact hb,True.intro⟩
theorem C8:∀{xs ys:List Z4} {m:Nat},UP ds nf m (xs++ys)↔UP ds nf m xs/\UP ds nf (m+YX xs) ys
 | [],ys,m=>by simp [UP,YX]
 | x::r,ys,m=>by
  rw [Qj,UP,UP,C8 (xs:=r),and_assoc,YX]
  by_cases h:Yo x.op=true
  ·rw [Zj h,Zj h,V0]
  ·rw [Z9 h,Z9 h,Ag]
theorem EF {xs:List Z4} {s:Z4} {m:Nat} (h:UP ds nf m xs) (hs:fS ds nf (m+YX xs) s):UP ds nf m (xs++[s]):=C8.2 ⟨h,hs,True.intro⟩
theorem Db:∀{xs:List Z4} {k m:Nat} {s:Z4},UP ds nf m xs->xs[k]? = some s->fS ds nf (m+YX (xs.take k)) s
 | [],k,m,s,_,h=>by simp at h
 | x::r,0,m,s,hw,h=>by simp at h;subst h;exact hw.1
 | x::r,k+1,m,s,hw,h=>by
  have:=Db (xs:=r) (k:=k) hw.2 (by simpa using h)
  rw [BL,YX]
  by_cases hc:Yo x.op=true
  ·rw [Zj hc] at this ⊢;rw [V0];exact this
  ·rw [Z9 hc] at this ⊢;rw [<-Ag];exact this
mutual
theorem Zdj:∀(s:Z4) {m:Nat},fS ds nf m s->m+4*s.sz<=900000000->Wb ds->wS ds s
 | .mk op num into args kids,m,h,hb,hd=>by
  rw [fS] at h
  obtain ⟨h1,h2,h3,h4,h5,h6,h7,h8,h9,h10,h11,h12⟩:=h
  rw [Z4.sz] at hb
  rw [wS]
  refine ⟨?_,fun hc=>h3 (show 14<=op/\op<=17 by simpa [Yo] using hc).1,fun h8'=>⟨?_,h5 h8'⟩,R9 kids h12 (fun k=>?_) hd⟩
  ·rcases h1 with h1|h1
   ·have e1:Yo op=false:=by simp [Yo];omega
    have e2:XT op=true:=by simp [XT];omega
    rw [e1,e2];rfl
   ·have e1:Yo op=true:=by simp [Yo];omega
    have e2:XT op=false:=by simp [XT];omega
    rw [e1,e2];rfl
  ·obtain ⟨a,ha⟩:=h6 (.inr h8')
   have:=h2 a (by rw [ha];exact W2.2 rfl)
   exact ⟨a,ha,by omega⟩
  ·have hf:=VP hd (gI (ZW ds num) k)
   show Uv ds op num m k+4*X1 kids<=900000003
   rw [Uv];split<;>omega
theorem R9:∀(bs:List Z5) {sc:Nat->Nat} {k:Nat},Ti ds nf sc k bs->(∀k,sc k+4*X1 bs<=900000003)->Wb ds->Ab ds bs
 | [],_,_,_,_,_=>True.intro
 | b::r,sc,k,h,hb,hd=>by
  have hp:=b.sz_eq
  exact ⟨R8 b h.1 (by have:=hb k;rw [X1] at this;omega) hd,R9 r h.2 (fun j=>by have:=hb j;rw [X1] at this;omega) hd⟩
theorem Ra:∀(xs:List Z4) {m:Nat},UP ds nf m xs->m+4*Yw xs<=900000000->Wb ds->QF ds xs
 | [],_,_,_,_=>True.intro
 | s::r,m,h,hb,hd=>by
  rw [Yw] at hb
  have hp:=s.sz_pos
  refine ⟨Zdj s h.1 om hd,Ra r h.2 ?_ hd⟩
  split<;>omega
theorem R8:∀(b:Z5) {m:Nat},fB ds nf m b->m+4*b.sz<=900000004->Wb ds->wB ds b
 | .mk steps result,m,h,hb,hd=>by
  rw [Z5.sz] at hb
  rw [fB] at h
  rw [wB]
  exact Ra steps h.1 om hd
end
mutual
theorem Z8o:∀(s:Z4) {m:Nat},fS ds nf m s->s.rng
 | .mk op num into args kids,m,h=>by
  rw [fS] at h
  obtain ⟨h1,h2,h3,h4,h5,h6,h7,h8,h9,h10,h11,h12⟩:=h
  rw [Z4.rng]
  exact ⟨by omega,OF kids h12⟩
theorem OF:∀(bs:List Z5) {sc:Nat->Nat} {k:Nat},Ti ds nf sc k bs->Qn bs
 | [],_,_,_=>True.intro
 | b::r,sc,k,h=>⟨Ib b h.1,OF r h.2⟩
theorem OG:∀(xs:List Z4) {m:Nat},UP ds nf m xs->QZ xs
 | [],_,_=>True.intro
 | s::r,m,h=>⟨Z8o s h.1,OG r h.2⟩
theorem Ib:∀(b:Z5) {m:Nat},fB ds nf m b->b.rng
 | .mk steps result,m,h=>by rw [fB] at h;rw [Z5.rng];exact OG steps h.1
end
end
structure FN (n:Zq) (q:Nat):Prop where
 decls:GD n.decls
 len:1<=n.routines.length/\n.routines.length<=4
 sigs:∀r∈n.routines,(r.params,r.result)∈KX
 lent:∀r∈n.routines,r.lent.length<=3/\∀i∈r.lent,0<=i/\i<r.params.length
 body:∀r∈n.routines,fB n.decls n.routines.length r.params.length r.body/\r.body.sz<=q
theorem FN.ok {n:Zq} {q:Nat} (h:FN n q):Xe n:=
 ⟨h.decls.ok,h.len.2,fun r hr=>(T3.bd (f:=⟨r.params,r.result,default⟩) (h.sigs r hr)).1,fun r hr=>by have:=(h.lent r hr).1;omega⟩
def Pk (n k:Int):Prop:=0<=k/\(0<n->k<n)/\(n<=0->k=0)
theorem Pk.lt {n k:Int} (h:Pk n k) (hn:0<n):0<=k/\k<n:=⟨h.1,h.2.1 hn⟩
theorem Pk.zero {n:Int}:Pk n 0:=⟨Int.le_refl _,fun h=>h,fun _=>rfl⟩
theorem Pk.rem {n a:Int} (ha:0<=a) (hn:0<n):Pk n (a % n):=⟨Int.emod_nonneg _ om,fun _=>Int.emod_lt_of_pos _ hn,fun _=>by omega⟩
def AD (ds:List Ze):Prop:=ds.length<=8/\∀d∈ds,d.cons.length<=4/\∀c∈d.cons,c.fields.length<=4
theorem GD.ad {ds:List Ze} (h:GD ds):AD ds:=(by decide:∀ds∈JT,ds.length<=8/\∀d∈ds,d.cons.length<=4/\∀c∈d.cons,c.fields.length<=4) ds h
theorem AD.set {ds:List Ze} (h:AD ds) (k:Nat) {d:Ze} (hd:d.cons.length<=4/\∀c∈d.cons,c.fields.length<=4):AD (ds.set k d):=
 ⟨by rw [Tp];exact h.1,fun x hx=>(List.mem_or_eq_of_mem_set hx).elim (h.2 x) fun e=>by rw [e];exact hd⟩
theorem AD.app {ds es:List Ze} (h:AD ds) (hl:ds.length+es.length<=8) (hd:∀d∈es,d.cons.length<=4/\∀c∈d.cons,c.fields.length<=4):AD (ds++es):=
 ⟨by rw [Yx];exact hl,fun x hx=>(Xb.1 hx).elim (h.2 x) (hd x)⟩
theorem GD.three:GD [JG,⟨0,0,[]⟩,JH]:=List.Mem.head _
theorem GD.four:∀{k:Nat} {x:Ze},LP[k]? = some x->GD ([JG,⟨0,0,[]⟩,JH]++[x])
 | 0,x,h=>by cases h;exact .tail _ (.head _)
 | 1,x,h=>by cases h;exact .tail _ (.tail _ (.head _))
 | 2,x,h=>by cases h;exact .tail _ (.tail _ (.tail _ (.head _)))
 | 3,x,h=>by cases h;exact .tail _ (.tail _ (.tail _ (.tail _ (.head _))))
 | k+4,x,h=>by simp [LP] at h
theorem AL {l:LI} {z a b:Int} (h:z∈l) (hl:l.all (fun x=>decide (a<=x/\x<=b))=true):a<=z/\z<=b:=by
 have:=KR.1 hl z h
 exact of_decide_eq_true this
def rk (t:Int):Nat:=if Kj t then 0 else 1
theorem Ia (t:Int):rk t<=1:=by rw [rk];split<;>omega
theorem OE {t:Int} (h:Kj t):rk t=0:=Zj h
def SE (g:XZ) (q:Nat) (e:Z1):Prop:=(∀m,eW g.decls g.funcs.length m e)/\e.sz<=q
def GE (g:XZ) (m q:Nat) (e:Z1):Prop:=eW g.decls g.funcs.length m e/\e.sz<=q
theorem SE.ge {g:XZ} {q q' m:Nat} {e:Z1} (h:SE g q e) (hq:q<=q'):GE g m q' e:=⟨h.1 m,V9 h.2 hq⟩
theorem GE.le {g:XZ} {m q q':Nat} {e:Z1} (h:GE g m q e) (hq:q<=q'):GE g m q' e:=⟨h.1,V9 h.2 hq⟩
theorem ED {m:Nat}:∀{xs:List Z1},(∀e∈xs,e.sz<=m)->Xs xs<=xs.length*m
 | [],_=>K3 _
 | x::r,h=>by
  have h1:=h x (Xh ..)
  have h2:=ED (xs:=r) fun e he=>h e (XC _ he)
  rw [Xs,YV,Q0];omega
theorem Xu {α:Type} {p:α->Prop} {xs:List α} {a:α} (h:∀x∈xs,p x) (ha:p a):∀x∈xs++[a],p x:=fun x hx=>(Xb.1 hx).elim (h x) fun q=>by rw [W2.1 q];exact ha
theorem SE.int {g:XZ} {z:Int} {q:Nat} (hz:-2000<=z/\z<=2000) (hq:1<=q):SE g q (.mk 0 z []):=⟨fun _=>Z0o hz,by simpa [Z1.sz,Xs] using hq⟩
theorem SE.node {g:XZ} {op num:Int} {ys:List Z1} {q k:Nat} (ho:op=6∨op=10) (hn:0<=num/\num<=2000) (hy:∀e∈ys,SE g 1 e) (hl:ys.length<=k) (hk:k<=3) (hq:1+k<=q):SE g q (.mk op num ys):=by
 refine ⟨fun m=>Bi om (fun h=>by omega) om om fun e he=>(hy e he).1 m,?_⟩
 have:=ED (xs:=ys) (m:=1) fun e he=>(hy e he).2
 rw [Z1.sz];omega
def Am (ds:List Ze) (t c:Int):Prop:=(0<=c/\c<=9)/\(ZX ds c).length<=3*rk t/\∀u∈ZX ds c,Kj u
instance (ds:List Ze) (t c:Int):Decidable (Am ds t c):=inferInstanceAs (Decidable (_/\_/\_))
theorem P0 {ds:List Ze} (h:GD ds):∀t∈[(1:Int),2,3,4],∀c∈ZW ds t,(t∈ZX ds c->∀c0,(ZW ds t)[0]? = some c0->Am ds t c0)/\(¬t∈ZX ds c->Am ds t c):=by
 intro t ht c hc
 have k1:=(by decide:∀ds∈JT,∀t∈[(1:Int),2,3,4],∀c∈ZW ds t,(t∈ZX ds c->Am ds t (gI (ZW ds t) 0))/\(¬t∈ZX ds c->Am ds t c)) ds h t ht c hc
 refine ⟨fun q c0 h0=>?_,k1.2⟩
 have:=k1.1 q
 rwa [Tj (i:=0) h0] at this
theorem LM {ds:List Ze} (h:GD ds) {t c:Int} (hc:c∈ZW ds t):t∈[(1:Int),2,3,4]:=by
 obtain ⟨_,h2,_⟩:=h.cons_cases hc
 rcases h2 with rfl|rfl|rfl<;>simp
theorem Z9u {ds:List Ze} (h:GD ds) {t c c0:Int} (hc:c∈ZW ds t) (ht:t∈ZX ds c) (h0:(ZW ds t)[0]? = some c0):Am ds t c0:=(P0 h t (LM h hc) c hc).1 ht c0 h0
theorem Z9t {ds:List Ze} (h:GD ds) {t c:Int} (hc:c∈ZW ds t) (ht:¬t∈ZX ds c):Am ds t c:=(P0 h t (LM h hc) c hc).2 ht
theorem Z8n {ds:List Ze} (h:GD ds) {t:Int} (h0:(ZW ds t).length=0) (ht:0<t):rk t=1:=by
 rw [rk,Z9]
 rintro (q|q|q)
 ·omega
 ·rw [q,h.low.2.1] at h0;cases h0
 ·rw [q,h.low.2.2.2.1] at h0;cases h0
def Jv (g:XZ) (t i:Int):Prop:=0<=i/\∃f,g.funcs[i.toNat]? = some f/\0<f.params.length/\U0 g.decls (gI f.params ((f.params.length:Int)-1)) f.result=t
theorem Jv.lt {g:XZ} {t i:Int} (h:Jv g t i):0<=i/\i<g.funcs.length:=by
 obtain ⟨h1,f,h2,_⟩:=h
 have:=(XS.1 h2).1
 omega
theorem Jv.mk {g:XZ} {t x2:Int} {k:Nat} {f:Func} (hf:g.funcs[k]? = some f) (hl:0<f.params.length) (hx:f.params[f.params.length-1]? = some x2) (ha:U0 g.decls x2 f.result=t):Jv g t (k:Int):=by
 refine ⟨by omega,f,by simpa using hf,hl,?_⟩
 rw [Tj (i:=(f.params.length:Int)-1) (by rw [show ((f.params.length:Int)-1).toNat=f.params.length-1 by omega];exact hx)]
 exact ha
theorem Jv.low {g:XZ} {t i u:Int} {f:Func} {j:Nat} (hg:GP g) (h:Jv g t i) (ht:0<t) (hf:g.funcs[i.toNat]? = some f) (hj:j+1<f.params.length) (hu:f.params[j]? = some u):rk u=0:=by
 obtain ⟨_,f',h2,_,h4⟩:=h
 have e:f'=f:=Ah (h2.symm.trans hf)
 subst e
 have h5:=(hg.sigs f' (Y1 hf)).clo hg.decls (by rw [h4];exact ht)
 refine OE (h5 u ?_)
 rw [List.dropLast_eq_take]
 exact Y1 (i:=j) (by rw [List.getElem?_take_of_lt om];exact hu)
end Go.Abs
section
namespace Go.Abs
theorem J1 (b:Nat):bS b=max 4 (10*b-10):=rfl
theorem J0 (b:Nat):bC b=max 40 (100*b-100):=rfl
theorem DA {L q b:Nat} (hL:L<=3) (hb:3<=b) (hq:L*q<=b-1):1+L*bS q<=bS b:=by
 rw [J1,J1]
 have:L=0∨L=1∨L=2∨L=3:=by omega
 rcases this with rfl|rfl|rfl|rfl<;>omega
theorem Z6k {L q b:Nat} (hL:L<=3) (hb:3<=b) (hq:L*q<=b-2):5+L*bS q<=bS b:=by
 rw [J1,J1]
 have:L=0∨L=1∨L=2∨L=3:=by omega
 rcases this with rfl|rfl|rfl|rfl<;>omega
theorem Z6c {b:Nat} (hb:3<=b):1+(bS (b / 2)+bS (b / 2))<=bS b:=by rw [J1,J1];omega
theorem RC {b:Nat} (hb:3<=b):5+bS (b-2)<=bS b:=by rw [J1,J1];omega
theorem A3 {L q b:Nat} (hL:L<=3) (hb:3<=b) (hq:L*q<=b-1):10+L*bC q<=bC b:=by
 rw [J0,J0]
 have:L=0∨L=1∨L=2∨L=3:=by omega
 rcases this with rfl|rfl|rfl|rfl<;>omega
theorem Z6j {L q b:Nat} (hL:L<=3) (hb:3<=b) (hq:L*q<=b-2):40+L*bC q<=bC b:=by
 rw [J0,J0]
 have:L=0∨L=1∨L=2∨L=3:=by omega
 rcases this with rfl|rfl|rfl|rfl<;>omega
theorem Z6b {b:Nat} (hb:3<=b):10+(bC (b / 2)+bC (b / 2))<=bC b:=by rw [J0,J0];omega
theorem RB {b:Nat} (hb:3<=b):40+bC (b-2)<=bC b:=by rw [J0,J0];omega
theorem Ln (b:Nat):4<=bS b:=by rw [J1];omega
theorem Lm (b:Nat):40<=bC b:=by rw [J0];omega
theorem TK (L b:Nat):L*(b / L)<=b:=Nat.mul_div_le b L
theorem NF {k L C:Nat} (h:k<L):(k+1)*C=k*C+C/\(k+1)*C<=L*C:=⟨by rw [Q0,Nat.one_mul],Qk C h⟩
theorem CD {ds:List Ze} {d x:Int} {m k:Nat} (h:(ZW ds d)[k]? = some x):TF ds 8 d m (1+k)=m+(ZX ds x).length:=by
 rw [TF,Z9 om,Zj rfl,Z9 om,Tj (i:=((1+k:Nat):Int)-1) (by rw [show (((1+k:Nat):Int)-1).toNat=k by omega];exact h)]
section
variable {g:XZ} {m:Nat}
theorem GE.var {z:Int} {q:Nat} (hz:0<=z/\z<m) (hm:m<=2000) (hq:1<=q):GE g m q (.mk 12 z []):=⟨Z0p hz hm,by simpa [Z1.sz,Xs] using hq⟩
theorem GE.list {ys:List Z1} {L s:Nat} (h:∀e∈ys,GE g m s e) (hl:ys.length=L):Xs ys<=L*s:=by rw [<-hl];exact ED fun e he=>(h e he).2
theorem GE.node {op num:Int} {ys:List Z1} {L s q:Nat} (ho:0<=op/\op<=11/\op≠7/\op≠8) (hc:op=9->0<=num/\num<g.funcs.length) (hn:-2000<=num/\num<=2000) (h:∀e∈ys,GE g m s e) (hl:ys.length=L) (hL:L<=3) (hq:1+L*s<=q):GE g m q (.mk op num ys):=by
 have:=GE.list h hl
 exact ⟨Bi ho hc hn om fun e he=>(h e he).1,by rw [Z1.sz];omega⟩
theorem GE.if_ {num:Int} {ys:List Z1} {s q:Nat} (hn:-2000<=num/\num<=2000) (h:∀e∈ys,GE g m s e) (hl:ys.length=3) (hq:1+3*s<=q):GE g m q (.mk 7 num ys):=by
 have:=GE.list h hl
 exact ⟨M0 hn hl fun e he=>(h e he).1,by rw [Z1.sz];omega⟩
theorem GE.let_ {a b:Z1} {s q:Nat} (ha:GE g m s a) (hb:GE g (m+1) s b) (hq:1+(s+s)<=q):GE g m q (.mk 13 0 [a,b]):=by
 refine ⟨M1 om ha.1 hb.1,?_⟩
 have h1:=ha.2
 have h2:=hb.2
 simp only [Z1.sz,Xs];omega
theorem GE.two {op num:Int} {a b:Z1} {s1 s2 q:Nat} (ho:0<=op/\op<=11/\op≠7/\op≠8/\op≠9) (hn:-2000<=num/\num<=2000) (ha:GE g m s1 a) (hb:GE g m s2 b) (hq:1+(s1+s2)<=q):GE g m q (.mk op num [a,b]):=by
 refine ⟨Bi om (fun h=>by omega) hn (by simp) fun e he=>?_,?_⟩
 ·rcases YH.1 he with rfl|he
  ·exact ha.1
  ·rw [W2.1 he];exact hb.1
 ·have h1:=ha.2
  have h2:=hb.2
  simp only [Z1.sz,Xs];omega
theorem GE.match_ {d:Int} {e:Z1} {ys:List Z1} {L s q:Nat} (hd:-2000<=d/\d<=2000) (he:GE g m 4 e) (hw:Qq g.decls g.funcs.length (TF g.decls 8 d m) 1 ys) (hs:∀e∈ys,e.sz<=s) (hl:ys.length=L) (hL:L=(ZW g.decls d).length) (h3:L<=3) (hq:5+L*s<=q):GE g m q (.mk 8 d (e::ys)):=by
 refine ⟨H5 hd om om he.1 hw,?_⟩
 have h1:=ED hs
 rw [hl] at h1
 have h2:=he.2
 rw [Z1.sz,Xs];omega
end
def NL (s:Nat) (left w:Int):Prop:=((s:Int)<=left/\w=left-s)∨(left<s/\w=-1)
end Go.Abs
namespace Go.Abs
theorem Bw {L b p pp M:Nat} (hL:L<=3) (hb:3<=b) (h:pp<=p+8) (hp:p+(bC b-1)<=M):pp+L*bC ((b-1) / L)<=M:=by
 have:=A3 hL hb (TK L (b-1))
 omega
end Go.Abs
end
namespace Go.Abs
theorem Z0x (a b:Z1):Xs [a,b]=a.sz+b.sz:=by simp only [Xs];omega
theorem EC (a b c:Z1):Xs [a,b,c]=a.sz+b.sz+c.sz:=by simp only [Xs];omega
theorem CS:bS 3=20/\bS 4=30/\bS 12=110/\bS 16=150/\bS 18=170/\bC 3=200/\bC 4=300/\bC 16=1500:=by decide
theorem Ef {b:Nat} (h:b<=20):bS b<=190/\bC b<=1900/\(b<=2->bS b<=10):=by rw [J1,J0];omega
section
variable {g:XZ} {m:Nat}
theorem SE.ofs {op num:Int} {ys:List Z1} {q:Nat} (ho:0<=op/\op<=11/\op≠7/\op≠8/\op≠9) (hn:-2000<=num/\num<=2000) (hl:ys.length<=4) (hy:∀e∈ys,∃s,SE g s e) (hq:1+Xs ys<=q):SE g q (.mk op num ys):=
 ⟨fun m=>Bi om (fun h=>by omega) hn hl fun e he=>let ⟨_,h⟩:=hy e he;h.1 m,by rw [Z1.sz];exact hq⟩
theorem SE.nil {op num:Int} {q:Nat} (ho:0<=op/\op<=11/\op≠7/\op≠8/\op≠9) (hn:-2000<=num/\num<=2000) (hq:1<=q):SE g q (.mk op num []):=
 SE.ofs ho hn (by simp) (fun e he=>by cases he) (by simpa [Xs] using hq)
theorem SE.two {op num:Int} {a b:Z1} {s1 s2 q:Nat} (ho:0<=op/\op<=11/\op≠7/\op≠8/\op≠9) (hn:-2000<=num/\num<=2000) (ha:SE g s1 a) (hb:SE g s2 b) (hq:1+(s1+s2)<=q):SE g q (.mk op num [a,b]):=by
 refine SE.ofs ho hn (by simp) (fun e he=>?_) ?_
 ·rcases YH.1 he with rfl|he
  ·exact ⟨_,ha⟩
  ·rw [W2.1 he];exact ⟨_,hb⟩
 ·have h1:=ha.2
  have h2:=hb.2
  rw [Z0x];omega
theorem SE.three {op num:Int} {a b c:Z1} {s1 s2 s3 q:Nat} (ho:0<=op/\op<=11/\op≠7/\op≠8/\op≠9) (hn:-2000<=num/\num<=2000) (ha:SE g s1 a) (hb:SE g s2 b) (hc:SE g s3 c) (hq:1+(s1+s2+s3)<=q):SE g q (.mk op num [a,b,c]):=by
 refine SE.ofs ho hn (by simp) (fun e he=>?_) ?_
 ·rcases YH.1 he with rfl|he
  ·exact ⟨_,ha⟩
  ·rcases YH.1 he with rfl|he
   ·exact ⟨_,hb⟩
   ·rw [W2.1 he];exact ⟨_,hc⟩
 ·have h1:=ha.2
  have h2:=hb.2
  have h3:=hc.2
  rw [EC];omega
theorem GE.int {z:Int} {q:Nat} (hz:-2000<=z/\z<=2000) (hq:1<=q):GE g m q (.mk 0 z []):=(SE.int (g:=g) (q:=q) hz hq).ge (X9 _)
theorem GE.three {op num:Int} {a b c:Z1} {s1 s2 s3 q:Nat} (ho:0<=op/\op<=11/\op≠8/\op≠9) (hn:-2000<=num/\num<=2000) (ha:GE g m s1 a) (hb:GE g m s2 b) (hc:GE g m s3 c) (hq:1+(s1+s2+s3)<=q):GE g m q (.mk op num [a,b,c]):=by
 have hk:∀e∈[a,b,c],eW g.decls g.funcs.length m e:=fun e he=>by
  rcases YH.1 he with rfl|he
  ·exact ha.1
  ·rcases YH.1 he with rfl|he
   ·exact hb.1
   ·rw [W2.1 he];exact hc.1
 refine ⟨?_,?_⟩
 ·by_cases h7:op=7
  ·subst h7;exact M0 hn rfl hk
  ·exact Bi om (fun h=>by omega) hn (by simp) hk
 ·have h1:=ha.2
  have h2:=hb.2
  have h3:=hc.2
  rw [Z1.sz,EC];omega
theorem GE.one {op num:Int} {a:Z1} {s1 q:Nat} (ho:0<=op/\op<=11/\op≠7/\op≠8/\op≠9) (hn:-2000<=num/\num<=2000) (ha:GE g m s1 a) (hq:1+s1<=q):GE g m q (.mk op num [a]):=by
 refine ⟨Bi om (fun h=>by omega) hn (by simp) fun e he=>?_,?_⟩
 ·rw [W2.1 he];exact ha.1
 ·have h1:=ha.2
  simp only [Z1.sz,Xs];omega
theorem GE.letS {a b:Z1} {s1 s2 q:Nat} (ha:GE g m s1 a) (hb:GE g (m+1) s2 b) (hq:1+(s1+s2)<=q):GE g m q (.mk 13 0 [a,b]):=by
 refine ⟨M1 om ha.1 hb.1,?_⟩
 have h1:=ha.2
 have h2:=hb.2
 simp only [Z1.sz,Xs];omega
theorem GE.matchL (hg:GP g) {e a b:Z1} {s1 s2 s3 q:Nat} (he:GE g m s1 e) (ha:GE g m s2 a) (hb:GE g (m+2) s3 b) (hq:1+(s1+s2+s3)<=q):GE g m q (.mk 8 1 [e,a,b]):=by
 have hl:=hg.decls.low
 refine ⟨H5 om (by simp) (by rw [hl.2.1];rfl) he.1 ⟨?_,?_,True.intro⟩,?_⟩
 ·rw [CD (k:=0) (x:=0) (by rw [hl.2.1];rfl),hl.2.2.2.2.1];exact ha.1
 ·rw [CD (k:=1) (x:=1) (by rw [hl.2.1];rfl),hl.2.2.2.2.2.1];exact hb.1
 ·have h1:=he.2
  have h2:=ha.2
  have h3:=hb.2
  rw [Z1.sz,EC];omega
theorem GE.matchT (hg:GP g) {e a b:Z1} {s1 s2 s3 q:Nat} (he:GE g m s1 e) (ha:GE g m s2 a) (hb:GE g (m+3) s3 b) (hq:1+(s1+s2+s3)<=q):GE g m q (.mk 8 3 [e,a,b]):=by
 have hl:=hg.decls.low
 refine ⟨H5 om (by simp) (by rw [hl.2.2.2.1];rfl) he.1 ⟨?_,?_,True.intro⟩,?_⟩
 ·rw [CD (k:=0) (x:=2) (by rw [hl.2.2.2.1];rfl),hl.2.2.2.2.2.2.1];exact ha.1
 ·rw [CD (k:=1) (x:=3) (by rw [hl.2.2.2.1];rfl),hl.2.2.2.2.2.2.2];exact hb.1
 ·have h1:=he.2
  have h2:=ha.2
  have h3:=hb.2
  rw [Z1.sz,EC];omega
theorem Gv {α:Type} {p:α->Prop} {a:α} (h:p a):∀x∈[a],p x:=fun x hx=>by rw [W2.1 hx];exact h
end
structure Gk (g:XZ):Prop where
 gp:GP g
 body:∀f∈g.funcs,eW g.decls g.funcs.length f.params.length f.body/\f.body.sz<=30
structure GL (ds:List Ze) (k j:Nat) (rq:List Func):Prop where
 len:rq.length=4
 sigs:∀f∈rq,T3 f
 zero:∀f,rq[0]? = some f->f.params.length=0
 body:∀i f,j<=i->i<k->rq[i]? = some f->eW ds k f.params.length f.body/\f.body.sz<=30
theorem GL.gp {ds:List Ze} {k j:Nat} {rq:List Func} (h:GL ds k j rq) (hd:GD ds) (hk:1<=k/\k<=4):GP ⟨ds,rq.take k⟩:=
 ⟨hd,by show 1<=(rq.take k).length/\_;rw [Wr,h.len];omega,fun f hf=>h.sigs f (TZ hf)⟩
theorem GL.len_take {ds:List Ze} {k j:Nat} {rq:List Func} (h:GL ds k j rq) (hk:k<=4):(rq.take k).length=k:=by rw [Wr,h.len];omega
theorem GL.set {ds:List Ze} {k j:Nat} {rq:List Func} {f:Func} {e:Z1} (h:GL ds k j rq) (hj:1<=j) (hf:rq[j-1]? = some f) (he:eW ds k f.params.length e/\e.sz<=30):GL ds k (j-1) (rq.set (j-1) ⟨f.params,f.result,e⟩):=by
 have hl:=(XS.1 hf).1
 refine ⟨by rw [Tp];exact h.len,fun x hx=>?_,fun x hx=>?_,fun i x h1 h2 hx=>?_⟩
 ·rcases List.mem_or_eq_of_mem_set hx with hx|rfl
  ·exact h.sigs x hx
  ·exact h.sigs f (Y1 hf)
 ·rw [List.getElem?_set] at hx
  split at hx
  ·rename_i h0
   cases hx
   exact h.zero f (by rw [<-h0];exact hf)
  ·exact h.zero x hx
 ·rw [List.getElem?_set] at hx
  split at hx
  ·cases hx
   exact he
  ·exact h.body i x om h2 hx
theorem GL.done {ds:List Ze} {k:Nat} {rq:List Func} (h:GL ds k 0 rq) (hd:GD ds) (hk:1<=k/\k<=4):Gk ⟨ds,rq.take k⟩:=by
 refine ⟨h.gp hd hk,fun f hf=>?_⟩
 show eW ds (rq.take k).length _ _/\_
 rw [h.len_take hk.2]
 obtain ⟨i,hi⟩:=List.getElem?_of_mem hf
 have hi2:i<(rq.take k).length:=(XS.1 hi).1
 rw [h.len_take hk.2] at hi2
 rw [List.getElem?_take_of_lt hi2] at hi
 exact h.body i f om hi2 hi
theorem Ir {l:List Func} {f:Func} {k:Nat} (h:l[k]? = some f) (hl:l.all (fun f=>decide ((f.params,f.result)∈KX))=true):T3 f:=show (f.params,f.result)∈KX from of_decide_eq_true (KR.1 hl f (Y1 h))
theorem GL.start {ds:List Ze} {k:Nat} {e:Z1} {a b c:Func} (ha:T3 a) (hb:T3 b) (hc:T3 c):GL ds k k [⟨[],0,e⟩,a,b,c]:=by
 refine ⟨rfl,fun f hf=>?_,fun f hf=>?_,fun i f h1 h2=>by omega⟩
 ·rcases YH.1 hf with rfl|hf
  ·exact List.Mem.head _
  ·rcases YH.1 hf with rfl|hf
   ·exact ha
   ·rcases YH.1 hf with rfl|hf
    ·exact hb
    ·rw [W2.1 hf];exact hc
 ·cases hf;rfl
theorem Z6z {l:LI} {k:Nat} {a b:Nat} (h:(k:Int)∈l) (hl:l.all (fun x=>decide ((a:Int)<=x/\x<=b))=true):a<=k/\k<=b:=by
 have:=of_decide_eq_true (KR.1 hl _ h)
 omega
mutual
def QA (p:Int->Prop):Z4->Prop
 | .mk op _ _ _ kids=>p op/\Qz p kids
def Qz (p:Int->Prop):List Z5->Prop
 | []=>True
 | b::r=>V5 p b/\Qz p r
def TA (p:Int->Prop):List Z4->Prop
 | []=>True
 | s::r=>QA p s/\TA p r
def V5 (p:Int->Prop):Z5->Prop
 | .mk steps _=>TA p steps
end
section
variable {p q:Int->Prop}
theorem DG (s:Z4):QA p s↔p s.op/\Qz p s.kids:=by cases s;rw [QA];rfl
theorem Ft (b:Z5):V5 p b↔TA p b.steps:=by cases b;rw [V5];rfl
theorem Ct:∀{xs:List Z5},Qz p xs↔∀b∈xs,V5 p b
 | []=>by simp [Qz]
 | b::r=>by rw [Qz,Ct];simp
theorem BA:∀{xs:List Z4},TA p xs↔∀b∈xs,QA p b
 | []=>by simp [TA]
 | b::r=>by rw [TA,BA];simp
theorem Fu {xs ys:List Z4}:TA p (xs++ys)↔TA p xs/\TA p ys:=by simp only [BA,Xb];exact ⟨fun h=>⟨fun b hb=>h b (.inl hb),fun b hb=>h b (.inr hb)⟩,fun h b hb=>hb.elim (h.1 b) (h.2 b)⟩
theorem NU {xs:List Z5} {b:Z5} (h:Qz p xs) (hb:V5 p b):Qz p (xs++[b]):=Ct.2 (Xu (Ct.1 h) hb)
theorem Fv {xs:List Z4} {b:Z4} (h:TA p xs) (hb:QA p b):TA p (xs++[b]):=BA.2 (Xu (BA.1 h) hb)
end
def WB (op:Int):Prop:=op<=11
def Vk (op:Int):Prop:=op<=15
end Go.Abs
section
namespace Go.Abs
structure LW (ds:List Ze) (nf q:Nat) (e:Z1) (ys:List Z4) (v:Int):Prop where
 fs:UP ds nf q ys
 v:0<=v/\v<(q+YX ys:Nat)
 sz:Yw ys<=6*e.sz
 op:TA WB ys
theorem LW.dn {ds:List Ze} {nf q:Nat} {e:Z1} {ys:List Z4} {v:Int} (h:LW ds nf q e ys v):YX ys<=6*e.sz/\ys.length<=6*e.sz:=by
 have h1:=Aw ys
 have h2:=KL ys
 have h3:=h.sz
 omega
structure LB (ds:List Ze) (nf q:Nat) (e:Z1) (b:Z5):Prop where
 fb:fB ds nf q b
 sz:b.sz<=1+6*e.sz
 op:V5 WB b
section
variable {ds:List Ze} {nf q:Nat}
theorem CT:∀xs ys:List Z5,X1 (xs++ys)=X1 xs+X1 ys
 | [],ys=>by simp [X1]
 | x::r,ys=>by rw [Qj,X1,X1,CT r];omega
theorem LW.block {e:Z1} {ys:List Z4} {v:Int} (h:LW ds nf q e ys v):LB ds nf q e ⟨ys,v⟩:=
 ⟨by rw [fB];exact ⟨h.fs,h.v⟩,by rw [Z5.sz];have:=h.sz;omega,by rw [V5];exact h.op⟩
theorem LW.var {e:Z1} {v:Int} (hv:0<=v/\v<q):LW ds nf q e [] v:=⟨True.intro,by simpa [YX] using hv,by simp [Yw],True.intro⟩
theorem LW.let_ {e a b:Z1} {ys zs:List Z4} {v1 v2:Int} (ha:LW ds nf q a ys v1) (hb:LW ds nf (q+YX ys) b zs v2) (he:a.sz+b.sz<e.sz):LW ds nf q e (ys++zs) v2:=by
 refine ⟨C8.2 ⟨ha.fs,hb.fs⟩,by rw [KD,<-Ag];exact hb.v,?_,Fu.2 ⟨ha.op,hb.op⟩⟩
 have h1:=ha.sz
 have h2:=hb.sz
 rw [Tc];omega
theorem CY {ys:List Z4} {s:Z4} (h:Yo s.op=false):YX (ys++[s])=YX ys+1:=by
 rw [KD]
 simp [YX,h]
theorem LW.node {e:Z1} {ys:List Z4} {as1:LI} (ho:0<=e.op/\e.op<=11/\e.op≠7/\e.op≠8) (hc:e.op=9->0<=e.num/\e.num<nf) (hn:-2000<=e.num/\e.num<=2000) (hf:UP ds nf q ys) (ha:∀a∈as1,0<=a/\a<(q+YX ys:Nat)) (hl:as1.length<=4) (hs:Yw ys<=6*Xs e.kids) (hop:TA WB ys) :
  LW ds nf q e (ys++[⟨e.op,e.num,0,as1,[]⟩]) ((q+YX ys:Nat):Int):=by
 have hcb:Yo e.op=false:=by simp [Yo];omega
 refine ⟨EF hf ?_,?_,?_,Fv hop (by rw [QA];exact ⟨by show e.op<=11;omega,True.intro⟩)⟩
 ·rw [fS]
  exact ⟨.inl ⟨by omega,by omega⟩,ha,fun h=>by omega,fun h=>by omega,fun h=>by omega,fun h=>by omega,hc,hn,by omega,hl,fun _=>rfl,True.intro⟩
 ·rw [CY (show Yo (Z4.mk e.op e.num 0 as1 []).op=false from hcb)];omega
 ·rw [Tc,e.sz_eq]
  simp only [Yw,Z4.sz,X1]
  omega
theorem LW.branch {e:Z1} {ys:List Z4} {v:Int} {bs:List Z5} {s0 sr:Nat} (ho:e.op=7∨e.op=8) (h7:e.op=7->bs.length=2) (h8:e.op=8->bs.length=(ZW ds e.num).length) (hn:-2000<=e.num/\e.num<=2000) (hf:UP ds nf q ys) (hv:0<=v/\v<(q+YX ys:Nat))
  (hb:Ti ds nf (Uv ds e.op e.num (q+YX ys)) 0 bs) (hl:bs.length<=3) (h0:Yw ys<=6*s0) (h1:X1 bs<=bs.length+6*sr) (hs:s0+sr<=Xs e.kids) (hop:TA WB ys) (hob:Qz WB bs):LW ds nf q e (ys++[⟨e.op,e.num,0,[v],bs⟩]) ((q+YX ys:Nat):Int):=by
 have hcb:Yo e.op=false:=by simp [Yo];omega
 refine ⟨EF hf ?_,?_,?_,Fv hop (by rw [QA];exact ⟨by show e.op<=11;omega,hob⟩)⟩
 ·rw [fS]
  exact ⟨.inl ⟨by omega,by omega⟩,fun a ha=>by rw [W2.1 ha];exact hv,fun h=>by omega,h7,h8,fun _=>⟨v,rfl⟩,fun h=>by omega,hn,by omega,by simp,fun h=>by omega,hb⟩
 ·rw [CY (show Yo (Z4.mk e.op e.num 0 [v] bs).op=false from hcb)];omega
 ·rw [Tc,e.sz_eq]
  simp only [Yw,Z4.sz,YV,Xn]
  omega
theorem OY {ds:List Ze} {op num:Int} {m k:Nat} (h:op=13):TF ds op num m k=m+k:=Zj h
theorem Z9r {ds:List Ze} {op num:Int} {m:Nat} (h:op≠13):TF ds op num m 0=m:=by simp [TF,h]
theorem OZ {ds:List Ze} {op num:Int} {m k:Nat} (h:op≠13/\op≠8):TF ds op num m k=m:=by simp [TF,h.1,h.2]
theorem Z9s {ds:List Ze} {op num x:Int} {m k j:Nat} (h:op=8) (hk:k=j+1) (hx:(ZW ds num)[j]? = some x):TF ds op num m k=m+(ZX ds x).length:=by
 subst h;subst hk;rw [Nat.add_comm j 1];exact CD hx
theorem In {ds:List Ze} {op num x:Int} {m j:Nat} (h:op=8) (hx:(ZW ds num)[j]? = some x):Uv ds op num m j=m+(ZX ds x).length:=by
 rw [Uv,Zj h,Tj (i:=(j:Int)) (by simpa using hx)]
theorem Io {ds:List Ze} {op num:Int} {m j:Nat} (h:op≠8):Uv ds op num m j=m:=Z9 h
theorem Ax {xs:List Z1} {k:Nat} {e:Z1} (h:xs[k]? = some e):Xs (xs.take (k+1))=Xs (xs.take k)+e.sz:=by rw [Ww h,D7,Xs,Xs];rfl
theorem JO {xs:List Z1} (k:Nat):Xs (xs.take k)<=Xs xs:=by
 have h:=Yp Xs (T1 k xs)
 rw [D7] at h;omega
theorem M7 {xs:List Z1} {a b:Z1} (ha:xs[0]? = some a) (hb:xs[1]? = some b):a.sz+b.sz<=Xs xs:=by
 have h1:Xs (xs.take 1)=Xs (xs.take 0)+a.sz:=Ax ha
 have h2:Xs (xs.take 2)=Xs (xs.take 1)+b.sz:=Ax hb
 have h3:=JO (xs:=xs) 2
 omega
theorem E4 {us:LI} {v:Int} {d:Nat} (hu:∀a∈us,0<=a/\a<(q:Int)) (hv:0<=v/\v<(q+d:Nat)):∀a∈us++[v],0<=a/\a<((q+d:Nat):Int):=
 Xu (fun a ha=>by have:=hu a ha;omega) hv
theorem G5 {us:LI} {d:Nat} (hu:∀a∈us,0<=a/\a<(q:Int)):∀a∈us,0<=a/\a<((q+d:Nat):Int):=fun a ha=>by have:=hu a ha;omega
theorem Zd2 {us ns:LI} {d mf:Nat} (hu:∀a∈us,0<=a/\a<(q:Int)) (hn:∀i∈ns,((q+d:Nat):Int)<=i/\i<((q+d:Nat):Int)+mf):∀a∈us++ns,0<=a/\a<((q+d+mf:Nat):Int):=fun a ha=>by
 rcases Xb.1 ha with h|h
 ·have:=hu a h;omega
 ·have:=hn a h;omega
theorem Ei:∀bs:List Z5,bs.length<=X1 bs
 | []=>X9 _
 | b::r=>by have:=Ei r;have:=b.sz_pos;rw [X1,YV];omega
end
end Go.Abs
namespace Go.Abs
structure RF (ds:List Ze) (nf q:Nat) (p:Int->Prop) (r:ZV):Prop where
 sig:(r.params,r.result)∈KX
 lent:r.lent.length<=3/\∀i∈r.lent,0<=i/\i<r.params.length
 body:fB ds nf r.params.length r.body/\r.body.sz<=q
 op:V5 p r.body
structure FO (n:Zq) (q:Nat) (p:Int->Prop):Prop where
 fn:FN n q
 op:∀r∈n.routines,V5 p r.body
theorem FO.rf {n:Zq} {q:Nat} {p:Int->Prop} (h:FO n q p) {r:ZV} (hr:r∈n.routines):RF n.decls n.routines.length q p r:=⟨h.fn.sigs r hr,h.fn.lent r hr,h.fn.body r hr,h.op r hr⟩
theorem FO.all {n:Zq} {q:Nat} {p:Int->Prop} (hd:GD n.decls) (hl:1<=n.routines.length/\n.routines.length<=4) (h:∀r∈n.routines,RF n.decls n.routines.length q p r):FO n q p:=
 ⟨⟨hd,hl,fun r hr=>(h r hr).sig,fun r hr=>(h r hr).lent,fun r hr=>(h r hr).body⟩,fun r hr=>(h r hr).op⟩
structure RN (ds:List Ze) (nf:Nat) (r:ZV):Prop where
 sig:(r.params,r.result)∈KX
 lent:r.lent=[]
 body:fB ds nf r.params.length r.body/\r.body.sz<=181
 op:V5 WB r.body
theorem RN.all {n:Zq} {q:Nat} (hd:GD n.decls) (hl:1<=n.routines.length/\n.routines.length<=4) (h:∀r∈n.routines,RN n.decls n.routines.length r) (hq:181<=q):FO n q WB:=
 FO.all hd hl fun r hr=>⟨(h r hr).sig,by rw [(h r hr).lent];exact ⟨by simp,fun i hi=>by cases hi⟩,⟨(h r hr).body.1,V9 (h r hr).body.2 hq⟩,(h r hr).op⟩
end Go.Abs
namespace Go.Abs
theorem RN.of {ds:List Ze} {nf:Nat} {ps:LI} {rt:Int} {b:Z5} {e:Z1} (hs:(ps,rt)∈KX) (h:LB ds nf ps.length e b) (he:e.sz<=30):RN ds nf ⟨ps,[],rt,Z5.mk b.steps b.result⟩:=by
 have e1:Z5.mk b.steps b.result=b:=by cases b;rfl
 rw [e1]
 exact ⟨hs,rfl,⟨h.fb,by have:=h.sz;show b.sz<=181;omega⟩,h.op⟩
end Go.Abs
end
namespace Go.Abs
theorem IC:∀{xs:List Z4} {s:Z4},s∈xs->s.sz<=Yw xs
 | [],s,h=>by cases h
 | x::r,s,h=>by
  rw [Yw]
  rcases YH.1 h with rfl|h
  ·omega
  ·have:=IC h;omega
theorem Gz:∀{xs:List Z5} {b:Z5},b∈xs->b.sz<=X1 xs
 | [],b,h=>by cases h
 | x::r,b,h=>by
  rw [X1]
  rcases YH.1 h with rfl|h
  ·omega
  ·have:=Gz h;omega
structure LC (n:Zq) (k:Nat) (xs:List LI):Prop where
 len:xs.length=k
 ok:∀(i:Nat) (l:LI),xs[i]? = some l->l.length<=3/\∀r,n.routines[i]? = some r->∀v∈l,0<=v/\v<(r.params.length:Int)
theorem LC.nil {n:Zq}:LC n 0 []:=⟨rfl,fun i l h=>by simp at h⟩
theorem LC.snoc {n:Zq} {k:Nat} {xs:List LI} {l:LI} (h:LC n k xs) (hl:l.length<=3) (hv:∀r,n.routines[k]? = some r->∀v∈l,0<=v/\v<(r.params.length:Int)):LC n (k+1) (xs++[l]):=by
 refine ⟨by rw [Yx,h.len];rfl,fun i l' hi=>?_⟩
 by_cases hk:i<xs.length
 ·rw [E6 hk] at hi
  exact h.ok i l' hi
 ·rw [E7 om] at hi
  have h0:i-xs.length=0:=by
   cases e:i-xs.length with
   | zero=>rfl
   | succ q=>rw [e] at hi;simp at hi
  rw [h0] at hi
  cases hi
  have e:i=k:=by have:=h.len;omega
  subst e
  exact ⟨hl,hv⟩
def VT:LI->Int->LI
 | [],y=>[y]
 | x::r,y=>if x>y then y::x::r else if x=y then x::r else x::VT r y
def TQ (d:Bool) (xs:LI) (y:Int):LI:=if d=true then xs else VT xs y
theorem F8 {xs:LI} {y:Int}:TQ true xs y=xs:=rfl
theorem F7 {xs:LI} {y:Int}:TQ false xs y=VT xs y:=rfl
theorem N2 {xs acc r:LI} {y x:Int} {k:Nat} {d:Bool} (hx:xs[k]? = some x) (hd:d=true) (h:acc++TQ d (xs.drop k) y=r):(acc++[x])++TQ d (xs.drop (k+1)) y=r:=by
 subst hd
 rw [F8,Y9 hx] at h
 rw [F8,<-h];simp
theorem Z56 {xs acc r:LI} {y x:Int} {k:Nat} {d:Bool} (hx:xs[k]? = some x) (hd:¬d=true) (hl:¬x>=y) (h:acc++TQ d (xs.drop k) y=r):(acc++[x])++TQ d (xs.drop (k+1)) y=r:=by
 have hd:=To.2 hd
 subst hd
 rw [F7,Y9 hx,VT,Z9 om,Z9 om] at h
 rw [F7,<-h];simp
theorem Z57 {xs acc r:LI} {y x:Int} {k:Nat} {d:Bool} (hx:xs[k]? = some x) (hd:¬d=true) (hl:x>y) (h:acc++TQ d (xs.drop k) y=r):((acc++[y])++[x])++TQ true (xs.drop (k+1)) y=r:=by
 have hd:=To.2 hd
 subst hd
 rw [F7,Y9 hx,VT,Zj hl] at h
 rw [F8,<-h];simp
theorem Z58 {xs acc r:LI} {y x:Int} {k:Nat} {d:Bool} (hx:xs[k]? = some x) (hd:¬d=true) (hl:x=y) (h:acc++TQ d (xs.drop k) y=r):(acc++[x])++TQ true (xs.drop (k+1)) y=r:=by
 have hd:=To.2 hd
 subst hd
 rw [F7,Y9 hx,VT,Z9 om,Zj hl] at h
 rw [F8,<-h];simp
theorem Z55 {xs acc acc2 r:LI} {y x:Int} {k:Nat} {d d2:Bool} (hx:xs[k]? = some x) (h:acc++TQ d (xs.drop k) y=r)
  (hc:(acc2=acc/\d2=d/\(d=true∨¬x>=y))∨(acc2=acc++[y]/\d2=true/\¬d=true/\x>y)∨(acc2=acc/\d2=true/\¬d=true/\x=y)):(acc2++[x])++TQ d2 (xs.drop (k+1)) y=r:=by
 rcases hc with ⟨rfl,rfl,h3⟩|⟨rfl,rfl,h3,h4⟩|⟨rfl,rfl,h3,h4⟩
 ·rcases h3 with h3|h3
  ·exact N2 hx h3 h
  ·by_cases q:d2=true
   ·exact N2 hx q h
   ·exact Z56 hx q h3 h
 ·exact Z57 hx h3 h4 h
 ·exact Z58 hx h3 h4 h
theorem Z54 {xs acc r:LI} {y:Int} {k:Nat} {d:Bool} (hk:xs.length<=k) (h:acc++TQ d (xs.drop k) y=r):(if d=true then acc else acc++[y])=r:=by
 rw [Xf hk] at h
 by_cases q:d=true
 ·rw [TQ,Zj q,KS] at h;rw [Zj q];exact h
 ·rw [TQ,Z9 q,VT] at h;rw [Z9 q];exact h
theorem Ck:∀(xs:LI) (y:Int),(VT xs y).length<=xs.length+1
 | [],y=>X9 _
 | x::r,y=>by
  have:=Ck r y
  rw [VT]
  split
  ·simp
  ·split
   ·simp
   ·simp only [YV];omega
theorem Ds:∀{xs:LI} {y z:Int},z∈VT xs y↔z∈xs∨z=y
 | [],y,z=>by simp [VT]
 | x::r,y,z=>by
  rw [VT]
  split
  ·simp only [YH];exact ⟨fun h=>h.elim .inr .inl,fun h=>h.elim .inr .inl⟩
  ·split
   ·rename_i h;subst h;simp only [YH];exact ⟨fun h=>.inl h,fun h=>h.elim id .inl⟩
   ·simp only [YH,Ds (xs:=r)];exact ⟨fun h=>by rcases h with h|h|h<;>simp [h],fun h=>by rcases h with (h|h)|h<;>simp [h]⟩
def B8 (xs:LI):Prop:=xs.Pairwise (·<·)
theorem N1:∀{xs:LI} {y:Int},B8 xs->B8 (VT xs y)
 | [],y,_=>by simp [VT,B8]
 | x::r,y,h=>by
  obtain ⟨h1,h2⟩:=WG.1 h
  rw [VT]
  split
  ·rename_i q
   refine WG.2 ⟨fun z hz=>?_,h⟩
   rcases YH.1 hz with rfl|hz
   ·omega
   ·have:=h1 z hz;omega
  ·split
   ·exact h
   ·refine WG.2 ⟨fun z hz=>?_,N1 h2⟩
    rcases Ds.1 hz with hz|rfl
    ·exact h1 z hz
    ·omega
def TB:LI->Int->LI
 | [],_=>[]
 | x::r,y=>if x=y then TB r y else x::TB r y
theorem DI:∀(xs:LI) (y:Int),(TB xs y).length<=xs.length
 | [],y=>X9 _
 | x::r,y=>by
  have:=DI r y
  rw [TB]
  split
  ·rw [YV];omega
  ·rw [YV,YV];omega
theorem Cu:∀{xs:LI} {y z:Int},z∈TB xs y->z∈xs
 | [],y,z,h=>by rw [TB] at h;exact h
 | x::r,y,z,h=>by
  rw [TB] at h
  split at h
  ·exact XC _ (Cu h)
  ·rcases YH.1 h with rfl|h
   ·exact Xh ..
   ·exact XC _ (Cu h)
theorem Z7k {xs acc r:LI} {y x:Int} {k:Nat} (hx:xs[k]? = some x) (h:acc++TB (xs.drop k) y=r):(if x≠y then acc++[x] else acc)++TB (xs.drop (k+1)) y=r:=by
 rw [Y9 hx,TB] at h
 by_cases q:x=y
 ·rw [Zj q] at h;rw [Z9 (fun z=>z q)];exact h
 ·rw [Z9 q] at h;rw [Zj q,<-h];simp
theorem Z7j {xs acc r:LI} {y:Int} {k:Nat} (hk:xs.length<=k) (h:acc++TB (xs.drop k) y=r):acc=r:=by
 rw [Xf hk,TB,KS] at h;exact h
def Ux (n:Int) (xs:LI) (a:Int):LI:=if 0<=a/\a<n then VT xs a else xs
def Qg (n:Int):LI->LI->LI
 | [],xs=>xs
 | a::r,xs=>Qg n r (Ux n xs a)
mutual
def KP (n:Int):Z4->LI->LI
 | .mk op _ _ args kids,xs=>if Yo op=true then xs else Kq n kids (Qg n args xs)
def Kq (n:Int):List Z5->LI->LI
 | [],xs=>xs
 | b::r,xs=>Kq n r (UH n b xs)
def UI (n:Int):List Z4->LI->LI
 | [],xs=>xs
 | s::r,xs=>UI n r (KP n s xs)
def UH (n:Int):Z5->LI->LI
 | .mk steps result,xs=>Ux n (UI n steps xs) result
end
section
variable {n:Int}
theorem R3 (s:Z4) (xs:LI):KP n s xs=if Yo s.op=true then xs else Kq n s.kids (Qg n s.args xs):=by cases s;rw [KP];rfl
theorem PZ (b:Z5) (xs:LI):UH n b xs=Ux n (UI n b.steps xs) b.result:=by cases b;rw [UH];rfl
theorem G4 (xs:LI) (a:Int):(Ux n xs a).length<=xs.length+1:=by
 rw [Ux];split
 ·exact Ck xs a
 ·omega
theorem PY:∀(as1 xs:LI),(Qg n as1 xs).length<=xs.length+as1.length
 | [],xs=>X9 _
 | a::r,xs=>by
  have h1:=PY r (Ux n xs a)
  have h2:=G4 (n:=n) xs a
  rw [Qg,YV];omega
mutual
theorem R4:∀(s:Z4) (xs:LI),(KP n s xs).length<=xs.length+s.sz
 | .mk op num into args kids,xs=>by
  have h1:=R0 kids (Qg n args xs)
  have h2:=PY (n:=n) args xs
  rw [KP,Z4.sz];split<;>omega
theorem R0:∀(bs:List Z5) (xs:LI),(Kq n bs xs).length<=xs.length+X1 bs
 | [],xs=>X9 _
 | b::r,xs=>by
  have h1:=R0 r (UH n b xs)
  have h2:=G3 b xs
  rw [Kq,X1];omega
theorem IN:∀(bs:List Z4) (xs:LI),(UI n bs xs).length<=xs.length+Yw bs
 | [],xs=>X9 _
 | b::r,xs=>by
  have h1:=IN r (KP n b xs)
  have h2:=R4 b xs
  rw [UI,Yw];omega
theorem G3:∀(b:Z5) (xs:LI),(UH n b xs).length<=xs.length+b.sz
 | .mk steps result,xs=>by
  have h1:=IN steps xs
  have h2:=G4 (n:=n) (UI n steps xs) result
  rw [UH,Z5.sz];omega
end
theorem Zcx {as1 ys r:LI} {k:Nat} {a:Int} (h:as1[k]? = some a) (ha:Qg n (as1.drop k) ys=r):Qg n (as1.drop (k+1)) (Ux n ys a)=r:=by
 rw [Y9 h,Qg] at ha;exact ha
theorem Zcz {bs:List Z5} {ys r:LI} {k:Nat} {b:Z5} (h:bs[k]? = some b) (ha:Kq n (bs.drop k) ys=r):Kq n (bs.drop (k+1)) (UH n b ys)=r:=by
 rw [Y9 h,Kq] at ha;exact ha
theorem Zd1 {bs:List Z4} {ys r:LI} {k:Nat} {b:Z4} (h:bs[k]? = some b) (ha:UI n (bs.drop k) ys=r):UI n (bs.drop (k+1)) (KP n b ys)=r:=by
 rw [Y9 h,UI] at ha;exact ha
theorem Zcw {as1 ys r:LI} {k:Nat} (h:as1.length<=k) (ha:Qg n (as1.drop k) ys=r):ys=r:=by rw [Xf h,Qg] at ha;exact ha
theorem Zcy {bs:List Z5} {ys r:LI} {k:Nat} (h:bs.length<=k) (ha:Kq n (bs.drop k) ys=r):ys=r:=by rw [Xf h,Kq] at ha;exact ha
theorem Zd0 {bs:List Z4} {ys r:LI} {k:Nat} (h:bs.length<=k) (ha:UI n (bs.drop k) ys=r):ys=r:=by rw [Xf h,UI] at ha;exact ha
end
end Go.Abs
section
namespace Go.Abs
theorem Z5z {xs:List Z4} {k:Nat} {s:Z4} {r:Nat} (h:xs[k]? = some s) (hs:Yo s.op=true) (ha:k+YT (xs.drop k)=r):k+1+YT (xs.drop (k+1))=r:=by
 rw [Y9 h,YT,Zj hs] at ha;omega
theorem Z60 {xs:List Z4} {k:Nat} {s:Z4} {r:Nat} (h:xs[k]? = some s) (hs:¬Yo s.op=true) (ha:k+YT (xs.drop k)=r):k=r:=by
 rw [Y9 h,YT,Z9 hs] at ha;omega
theorem Z5y {xs:List Z4} {k:Nat} {r:Nat} (h:xs.length<=k) (ha:k+YT (xs.drop k)=r):k=r:=by
 rw [Xf h,YT] at ha;omega
theorem RT {op x:Int} {xs:List Z4} {k:Nat} {s:Z4} {r:Int} (h:xs[k]? = some s) (hs:s.op=op/\gI s.args 0=x) (ha:W0 op x (xs.drop k) k=r):(k:Int)=r:=by
 rw [Y9 h,W0,Zj hs] at ha;exact ha
theorem Lj {op x:Int} {xs:List Z4} {k:Nat} {s:Z4} {r:Int} (h:xs[k]? = some s) (hs:¬(s.op=op/\gI s.args 0=x)) (ha:W0 op x (xs.drop k) k=r):W0 op x (xs.drop (k+1)) ((k+1:Nat):Int)=r:=by
 rw [Y9 h,W0,Z9 hs] at ha;rw [<-ha];congr 1
theorem RS {op x:Int} {xs:List Z4} {k:Nat} {r:Int} (h:xs.length<=k) (ha:W0 op x (xs.drop k) k=r):-1=r:=by
 rw [Xf h,W0] at ha;exact ha
theorem Sk {many:Nat} {xs:List Z4} {k:Nat} {s:Z4} {r:Int} (h:xs[k]? = some s) (hs:QN many s) (ha:Wk many (xs.drop k) k=r):(k:Int)=r:=by
 rw [Y9 h,Wk,Zj hs] at ha;exact ha
theorem Sj {many:Nat} {xs:List Z4} {k:Nat} {s:Z4} {r:Int} (h:xs[k]? = some s) (hs:¬QN many s) (ha:Wk many (xs.drop k) k=r):Wk many (xs.drop (k+1)) ((k+1:Nat):Int)=r:=by
 rw [Y9 h,Wk,Z9 hs] at ha;rw [<-ha];congr 1
theorem Si {many:Nat} {xs:List Z4} {k:Nat} {r:Int} (h:xs.length<=k) (ha:Wk many (xs.drop k) k=r):-1=r:=by
 rw [Xf h,Wk] at ha;exact ha
theorem Z8j {xs:List Z4} {x:Int} {many:Nat} (h:Vf xs x<0∨Wy xs many<0):VX xs x many=xs:=Zj h
theorem Z8k {xs:List Z4} {x:Int} {many:Nat} {s:Z4} (h:¬(Vf xs x<0∨Wy xs many<0)) (hs:Az xs (Wy xs many)=s):(xs.set (Vf xs x).toNat (Zx 17 x)).set (Wy xs many).toNat (Q7 (1+x) s)=VX xs x many:=by
 rw [VX,Z9 h,hs]
theorem Qr (xs:List Z4):(Zb (Zv xs)).length=xs.length*5:=by rw [U5 _ (Xc _)];simp
theorem EI (s:Z4) (r:List Z4):Zb (Zv (s::r))=Xm s++Zb (Zv r):=by rw [Vc,Vc];rfl
theorem Mj {xs:List Z4} {k:Nat} {x:Z4} (h:xs[k]? = some x):Zb (Zv (xs.take k))++Zb [YC x]=Zb (Zv (xs.take (k+1))):=by
 rw [Ww h,WC,Vv,EI]
 have:Zb (Zv [])=[]:=by rw [Vc];rfl
 rw [this];rfl
theorem Mk {xs:List Z4} {i:Nat} {s:Z4} (h:xs[i]? = some s):Zb (Zv xs)=Zb (Zv (xs.take i))++(Xm s++Zb (Zv (xs.drop (i+1)))):=by
 have hi:=(XS.1 h).1
 have e:xs=xs.take i++(s::xs.drop (i+1)):=by rw [<-Y9 h,T1]
 conv=>lhs;rw [e,WC,Vv,EI]
theorem EJ {xs:List Z4} {i:Nat} {s t:Z4} (h:xs[i]? = some s):(Zb (Zv xs)).take (i*5)++Xm t++(Zb (Zv xs)).drop (i*5+(Xm t).length)=Zb (Zv (xs.set i t)):=by
 have hi:=(XS.1 h).1
 have hl:(Zb (Zv (xs.take i))).length=i*5:=by rw [Qr,Wr,Vn om]
 rw [Mk h,Cz (xs:=Xm s) (ys:=Xm t) hl rfl]
 have e:xs.set i t=xs.take i++(t::xs.drop (i+1)):=by rw [E8,Zj hi]
 rw [e,WC,Vv,EI]
theorem He {xs:List Z4} {i:Nat} {s:Z4} (h:xs[i]? = some s):((Zb (Zv xs)).drop (i*5)).take (Xm s).length=Xm s:=by
 have hi:=(XS.1 h).1
 have hl:(Zb (Zv (xs.take i))).length=i*5:=by rw [Qr,Wr,Vn om]
 rw [Mk h]
 exact Ih hl
structure K6 (xs:LI) (v:Int) (k:Nat) (acc:LI) (d:Bool):Prop where
 len:acc.length<=k+(if d=true then 1 else 0)
 sub:∀z∈acc,z∈xs.take k∨z=v
 all:∀z∈xs.take k,z∈acc
 done:d=true->v∈acc
theorem K6.zero (xs:LI) (v:Int):K6 xs v 0 [] false:=⟨by simp,by simp,by simp,by simp⟩
theorem K6.step {xs:LI} {v:Int} {k:Nat} {acc:LI} {d:Bool} {x:Int} (h:K6 xs v k acc d) (hx:xs[k]? = some x) {acc2:LI} {d2:Bool}
  (hc:(acc2=acc++[x]/\d2=d)∨(acc2=(acc++[v])++[x]/\d2=true/\¬d=true)∨(acc2=acc++[x]/\d2=true/\x=v)):K6 xs v (k+1) acc2 d2:=by
 obtain ⟨h1,h2,h3,h4⟩:=h
 have ht:∀z,z∈xs.take (k+1)↔z∈xs.take k∨z=x:=fun z=>by rw [Ww hx];simp
 rcases hc with ⟨rfl,rfl⟩|⟨rfl,rfl,hd⟩|⟨rfl,rfl,rfl⟩
 ·refine ⟨by simp;omega,fun z hz=>?_,fun z hz=>?_,fun q=>List.mem_append_left _ (h4 q)⟩
  ·rw [ht]
   rcases Xb.1 hz with hz|hz
   ·rcases h2 z hz with q|q
    ·exact .inl (.inl q)
    ·exact .inr q
   ·exact .inl (.inr (W2.1 hz))
  ·rcases (ht z).1 hz with q|q
   ·exact List.mem_append_left _ (h3 z q)
   ·subst q;simp
 ·rw [Z9 hd] at h1
  refine ⟨by simp;omega,fun z hz=>?_,fun z hz=>?_,fun _=>by simp⟩
  ·rw [ht]
   simp only [Xb,W2] at hz
   rcases hz with (hz|hz)|hz
   ·rcases h2 z hz with q|q
    ·exact .inl (.inl q)
    ·exact .inr q
   ·exact .inr hz
   ·exact .inl (.inr hz)
  ·rcases (ht z).1 hz with q|q
   ·exact List.mem_append_left _ (List.mem_append_left _ (h3 z q))
   ·subst q;simp
 ·refine ⟨by simp;split at h1<;>omega,fun z hz=>?_,fun z hz=>?_,fun _=>by simp⟩
  ·rw [ht]
   rcases Xb.1 hz with hz|hz
   ·rcases h2 z hz with q|q
    ·exact .inl (.inl q)
    ·exact .inr q
   ·exact .inl (.inr (W2.1 hz))
  ·rcases (ht z).1 hz with q|q
   ·exact List.mem_append_left _ (h3 z q)
   ·subst q;simp
theorem K6.fin {xs:LI} {v:Int} {k:Nat} {acc:LI} {d:Bool} (h:K6 xs v k acc d) (hk:k=xs.length) :
  (d=true->acc.length<=xs.length+1/\∀z,z∈acc↔z∈xs∨z=v)/\(¬d=true->(acc++[v]).length<=xs.length+1/\∀z,z∈acc++[v]↔z∈xs∨z=v):=by
 obtain ⟨h1,h2,h3,h4⟩:=h
 subst hk
 rw [Vi] at h2 h3
 refine ⟨fun hd=>?_,fun hd=>?_⟩
 ·rw [Zj hd] at h1
  exact ⟨h1,fun z=>⟨h2 z,fun q=>q.elim (h3 z) fun e=>e▸h4 hd⟩⟩
 ·rw [Z9 hd] at h1
  refine ⟨by simp;omega,fun z=>?_⟩
  rw [Xb,W2]
  exact ⟨fun q=>q.elim (h2 z) .inr,fun q=>q.elim (fun e=>.inl (h3 z e)) .inr⟩
end Go.Abs
namespace Go.Abs
theorem K6.go {xs:LI} {v:Int} {k:Nat} {acc:LI} {d:Bool} {x:Int} (h:K6 xs v k acc d) (hx:xs[k]? = some x) {acc2:LI} {d2:Bool}
  (hc:(acc2=acc/\d2=d)∨(acc2=acc++[v]/\d2=true/\¬d=true)∨(acc2=acc/\d2=true/\x=v)):K6 xs v (k+1) (acc2++[x]) d2:=by
 refine h.step hx ?_
 rcases hc with ⟨e1,e2⟩|⟨e1,e2,e3⟩|⟨e1,e2,e3⟩
 ·exact .inl ⟨by rw [e1],e2⟩
 ·exact .inr (.inl ⟨by rw [e1],e2,e3⟩)
 ·exact .inr (.inr ⟨by rw [e1],e2,e3⟩)
section
variable {ds:List Ze} {kept K2:LI} {op num x:Int} {args:LI} {j many:Nat} {kd:Z5}
theorem Z98 (h8:op=8) (hx:gI args 0=x) (hk:¬x∈kept) (hm:(UD ds num j).length=many) (hq:¬(Vf kd.steps x<0∨Wy kd.steps many<0)) (hK:∀z,z∈K2↔z∈kept∨z=x):Wq ds K2 (VJ kd x many)=TD ds kept op num args j kd:=by
 subst hx hm
 have e:∀z,z∈K2↔z∈gI args 0::kept:=fun z=>by rw [hK z,YH];exact Or.comm
 rw [TD,Zj ⟨h8,hk⟩,Fb,Z9 hq,ON,Ii kd e]
theorem Z99 (h8:op=8) (hx:gI args 0=x) (hk:¬x∈kept) (hm:(UD ds num j).length=many) (hq:Vf kd.steps x<0∨Wy kd.steps many<0):Wq ds kept (VJ kd x many)=TD ds kept op num args j kd:=by
 subst hx hm
 rw [TD,Zj ⟨h8,hk⟩,Fb,Zj hq,ON]
theorem OO (h:¬(op=8/\¬gI args 0∈kept)):Wq ds kept kd=TD ds kept op num args j kd:=by rw [TD,Z9 h]
end
end Go.Abs
namespace Go.Abs
theorem Ek:∀{xs:List Z5} {k:Nat} {b:Z5},xs[k]? = some b->X1 (xs.take k)+b.sz<=X1 xs
 | [],_,_,h=>by simp at h
 | x::r,0,b,h=>by simp at h;subst h;simp [X1]
 | x::r,k+1,b,h=>by
  have:=Ek (xs:=r) (k:=k) (by simpa using h)
  rw [BL,X1,X1];omega
theorem GC {xs:List Z5} {k:Nat} (h:xs.length<=k):X1 (xs.take k)=X1 xs:=by rw [Wx h]
end Go.Abs
end
namespace Go.Abs
theorem Px {xs:List Z4} {k:Nat} {s:Z4} (h:xs[k]? = some s):Yw (xs.drop k)=s.sz+Yw (xs.drop (k+1)):=by rw [Y9 h,Yw]
theorem Py (xs:List Z4) (k:Nat):Yw (xs.drop k)<=Yw xs:=by
 have h:=Yp Yw (T1 k xs)
 rw [Tc] at h;omega
theorem Ej {xs:List Z5} {k:Nat} {b:Z5} (h:xs[k]? = some b):X1 (xs.take (k+1))=X1 (xs.take k)+b.sz:=by rw [Ww h,CT,X1,X1];rfl
structure CL (ds:List Ze) (nf m:Nat) (xs:List Z4) (d z:Nat):Prop where
 fs:UP ds nf m xs
 dn:YX xs=d
 op:TA Vk xs
 sz:Yw xs<=z
section
variable {ds:List Ze} {nf m d z:Nat} {xs:List Z4}
theorem CL.nil:CL ds nf m [] 0 0:=⟨True.intro,rfl,True.intro,X9 _⟩
theorem CL.len (h:CL ds nf m xs d z):xs.length<=z:=V9 (KL xs) h.sz
theorem CL.le (h:CL ds nf m xs d z) {z2:Nat} (hz:z<=z2):CL ds nf m xs d z2:=⟨h.fs,h.dn,h.op,V9 h.sz hz⟩
theorem Z0z {op v:Int} (ho:op=14∨op=15) (hv:0<=v/\v<(m:Int)):fS ds nf m (Zx op v):=by
 rw [Zx,fS]
 exact ⟨.inr om,fun a ha=>by rw [W2.1 ha];exact hv,fun _=>⟨rfl,rfl,rfl,v,rfl⟩,fun h=>by omega,fun h=>by omega,fun h=>by omega,fun h=>by omega,by omega,by omega,by simp,fun _=>rfl,True.intro⟩
theorem LN {op:Int} (ho:op=14∨op=15):Yo op=true:=by simp [Yo];omega
theorem CL.cnt (h:CL ds nf m xs d z) {op v:Int} (ho:op=14∨op=15) (hv:0<=v/\v<((m+d:Nat):Int)):CL ds nf m (xs++[Zx op v]) d (z+2):=by
 have hc:Yo (Zx op v).op=true:=LN ho
 refine ⟨EF h.fs (by rw [h.dn];exact Z0z ho hv),?_,Fv h.op ?_,?_⟩
 ·rw [KD,h.dn,YX,Zj hc];rfl
 ·rw [DG];exact ⟨by show op<=15;omega,True.intro⟩
 ·have:=h.sz
  have e:(Zx op v).sz=2:=rfl
  rw [Tc,Yw,e,Yw];omega
theorem CL.cnts {op:Int} (ho:op=14∨op=15):∀{vs:LI} {xs:List Z4} {z:Nat},CL ds nf m xs d z->(∀v∈vs,0<=v/\v<((m+d:Nat):Int))->CL ds nf m (xs++vs.map (Zx op)) d (z+2*vs.length)
 | [],xs,z,h,_=>by simpa using h
 | v::r,xs,z,h,hv=>by
  have h1:=CL.cnts ho (vs:=r) (h.cnt ho (hv v (Xh ..))) fun x hx=>hv x (XC _ hx)
  rw [VM,show xs++Zx op v::r.map (Zx op)=xs++[Zx op v]++r.map (Zx op) by simp]
  exact h1.le (by rw [YV];omega)
theorem CL.one (h:CL ds nf m xs d z) {s:Z4} (hs:fS ds nf (m+d) s) (hc:Yo s.op=false) (ho:QA Vk s):CL ds nf m (xs++[s]) (d+1) (z+s.sz):=by
 refine ⟨EF h.fs (by rw [h.dn];exact hs),by rw [CY hc,h.dn],Fv h.op ho,?_⟩
 have:=h.sz
 rw [Tc,Yw,Yw];omega
theorem CL.app (h:CL ds nf m xs d z) {ys:List Z4} {d2 z2:Nat} (h2:CL ds nf (m+d) ys d2 z2):CL ds nf m (xs++ys) (d+d2) (z+z2):=by
 refine ⟨C8.2 ⟨h.fs,by rw [h.dn];exact h2.fs⟩,by rw [KD,h.dn,h2.dn],Fu.2 ⟨h.op,h2.op⟩,?_⟩
 have:=h.sz
 have:=h2.sz
 rw [Tc];omega
end
structure KB (ds:List Ze) (nf m:Nat) (b:Z5) (z:Nat):Prop where
 fb:fB ds nf m b
 op:V5 Vk b
 sz:b.sz<=z
section
variable {ds:List Ze} {nf m d z:Nat} {xs:List Z4}
theorem CL.block (h:CL ds nf m xs d z) {r:Int} (hr:0<=r/\r<((m+d:Nat):Int)):KB ds nf m ⟨xs,r⟩ (1+z):=by
 refine ⟨by rw [fB,h.dn];exact ⟨h.fs,hr⟩,by rw [V5];exact h.op,?_⟩
 have:=h.sz
 rw [Z5.sz];omega
theorem KB.le {b:Z5} (h:KB ds nf m b z) {z2:Nat} (hz:z<=z2):KB ds nf m b z2:=⟨h.fb,h.op,V9 h.sz hz⟩
theorem KB.cl {b:Z5} (h:KB ds nf m b z):CL ds nf m b.steps (YX b.steps) (z-1)/\0<=b.result/\b.result<((m+YX b.steps:Nat):Int):=by
 obtain ⟨h1,h2⟩:=(D9 b).1 h.fb
 refine ⟨⟨h1,rfl,(Ft b).1 h.op,?_⟩,h2⟩
 have:=h.sz
 have:=b.sz_eq
 omega
theorem KB.put {b:Z5} (h:KB ds nf m b z) {as1 bs:LI} (ha:∀v∈as1,0<=v/\v<(m:Int)) (hb:∀v∈bs,0<=v/\v<(m:Int)):KB ds nf m ⟨as1.map (Zx 14)++bs.map (Zx 15)++b.steps,b.result⟩ (z+2*as1.length+2*bs.length):=by
 obtain ⟨h1,h2⟩:=h.cl
 have q1:CL ds nf m ([]++as1.map (Zx 14)) 0 (0+2*as1.length):=CL.nil.cnts (.inl rfl) ha
 have q2:=(q1.cnts (op:=15) (.inr rfl) hb).app h1
 have:=h.sz
 have:=b.sz_eq
 rw [B5,V0] at q2
 exact (q2.block h2).le om
end
structure KK (ds:List Ze) (nf:Nat) (sc:Nat->Nat) (ks:List Z5) (z:Nat):Prop where
 fb:Ti ds nf sc 0 ks
 op:Qz Vk ks
 sz:X1 ks<=z
section
variable {ds:List Ze} {nf m z:Nat} {sc:Nat->Nat}
theorem KK.nil:KK ds nf sc [] 0:=⟨True.intro,True.intro,X9 _⟩
theorem KK.snoc {ks:List Z5} {b:Z5} {j z2:Nat} (h:KK ds nf sc ks z) (hj:ks.length=j) (hb:KB ds nf (sc j) b z2):KK ds nf sc (ks++[b]) (z+z2):=by
 refine ⟨M9 h.fb (by rw [hj];exact hb.fb),NU h.op hb.op,?_⟩
 have:=h.sz
 have:=hb.sz
 rw [CT];simp only [X1];omega
theorem KK.le {ks:List Z5} (h:KK ds nf sc ks z) {z2:Nat} (hz:z<=z2):KK ds nf sc ks z2:=⟨h.fb,h.op,V9 h.sz hz⟩
theorem Ma {s:Z4} {ks:List Z5} {into:Int} (h:FS ds nf m s) (h11:s.op<=11) (hl:ks.length=s.kids.length) (hi:0<=into/\into<=m) (hk:KK ds nf (Uv ds s.op s.num m) ks z):fS ds nf m ⟨s.op,s.num,into,s.args,ks⟩/\QA Vk ⟨s.op,s.num,into,s.args,ks⟩/\(Z4.mk s.op s.num into s.args ks).sz<=5+z:=by
 refine ⟨?_,?_,?_⟩
 ·rw [fS]
  refine ⟨h.op,h.args,fun q=>by omega,fun q=>by rw [hl];exact h.k7 q,fun q=>by rw [hl];exact h.k8 q,h.one,h.call,h.num,hi,h.alen,fun q=>?_,hk.fb⟩
  have:=h.kn q
  rw [this] at hl
  exact List.eq_nil_of_length_eq_zero hl
 ·rw [QA];exact ⟨by show s.op<=15;omega,hk.op⟩
 ·have:=h.alen
  have:=hk.sz
  rw [Z4.sz];omega
end
structure KT (ds:List Ze) (nf m:Nat) (st:Z4) (z:Nat):Prop where
 fs:fS ds nf m st
 cb:Yo st.op=false
 op:QA Vk st
 sz:st.sz<=z
theorem KT.of {ds:List Ze} {nf m z:Nat} {s:Z4} {ks:List Z5} {into:Int} (h:FS ds nf m s) (h11:s.op<=11) (hl:ks.length=s.kids.length) (hi:0<=into/\into<=m) (hk:KK ds nf (Uv ds s.op s.num m) ks z):KT ds nf m ⟨s.op,s.num,into,s.args,ks⟩ (5+z):=by
 obtain ⟨h1,h2,h3⟩:=Ma h h11 hl hi hk
 exact ⟨h1,by show Yo s.op=false;simp [Yo];omega,h2,h3⟩
theorem CL.kt {ds:List Ze} {nf m d z z2:Nat} {xs:List Z4} {st:Z4} (h:CL ds nf m xs d z) (hs:KT ds nf (m+d) st z2):CL ds nf m (xs++[st]) (d+1) (z+z2):=(h.one hs.fs hs.cb hs.op).le (by have:=hs.sz;omega)
theorem FS.few {ds:List Ze} {nf m:Nat} {s:Z4} (h:FS ds nf m s) (hd:Wb ds):s.kids.length<=3:=by
 by_cases h7:s.op=7
 ·have:=h.k7 h7;omega
 ·by_cases h8:s.op=8
  ·have:=h.k8 h8
   have:=I0 hd s.num
   omega
  ·rw [h.kn ⟨h7,h8⟩];simp
theorem RF.lend {ds:List Ze} {nf q:Nat} {p:Int->Prop} {r:ZV} {l:LI} (h:RF ds nf q p r) (h1:l.length<=3) (h2:∀v∈l,0<=v/\v<(r.params.length:Int)):RF ds nf q p ⟨r.params,l,r.result,r.body⟩:=⟨h.sig,⟨h1,h2⟩,h.body,h.op⟩
theorem RF.with {ds:List Ze} {nf q q2:Nat} {p p2:Int->Prop} {r:ZV} {b:Z5} (h:RF ds nf q p r) (h1:fB ds nf r.params.length b) (h2:b.sz<=q2) (h3:V5 p2 b):RF ds nf q2 p2 ⟨r.params,r.lent,r.result,b⟩:=⟨h.sig,h.lent,⟨h1,h2⟩,h3⟩
theorem Z5.eta (b:Z5):Z5.mk b.steps b.result=b:=by cases b;rfl
theorem LC.at {n:Zq} {k:Nat} {xs:List LI} {i:Nat} {l:LI} {r:ZV} (h:LC n k xs) (hl:xs[i]? = some l) (hr:n.routines[i]? = some r):l.length<=3/\∀v∈l,0<=v/\v<(r.params.length:Int):=⟨(h.ok i l hl).1,(h.ok i l hl).2 r hr⟩
theorem GS:∀{xs:List Z4},(∀s∈xs,QA WB s)->∀k,k<=xs.length->YX (xs.take k)=k
 | _,_,0,_=>rfl
 | [],_,k+1,h=>absurd h (by simp)
 | x::r,h,k+1,hk=>by
  have h1:=((DG x).1 (h x (Xh ..))).1
  have hc:Yo x.op=false:=by have:x.op<=11:=h1;simp [Yo];omega
  rw [BL,YX,Z9 (by rw [hc];simp),GS (fun s hs=>h s (XC _ hs)) k (by simpa using hk)]
  omega
theorem KB.put1 {ds:List Ze} {nf m z:Nat} {b:Z5} (h:KB ds nf m b z) {op:Int} (ho:op=14∨op=15) {as1:LI} (ha:∀v∈as1,0<=v/\v<(m:Int)):KB ds nf m ⟨as1.map (Zx op)++b.steps,b.result⟩ (z+2*as1.length):=by
 obtain ⟨h1,h2⟩:=h.cl
 have q1:CL ds nf m ([]++as1.map (Zx op)) 0 (0+2*as1.length):=CL.nil.cnts ho ha
 have q2:=q1.app h1
 have:=h.sz
 have:=b.sz_eq
 rw [B5,V0] at q2
 exact (q2.block h2).le om
theorem FO.fin {n:Zq} {rs:List ZV} {q q2:Nat} {p:Int->Prop} (h:FN n q2) (e:rs.length=n.routines.length) (hr:∀r∈rs,RF n.decls n.routines.length q p r):FO ⟨n.decls,rs⟩ q p/\rs.length=n.routines.length:=
 ⟨FO.all h.decls (by show 1<=rs.length/\rs.length<=4;rw [e];exact h.len) (by show ∀r∈rs,RF n.decls rs.length q p r;rw [e];exact hr),e⟩
theorem KT.le {ds:List Ze} {nf m z z2:Nat} {st:Z4} (h:KT ds nf m st z) (hz:z<=z2):KT ds nf m st z2:=⟨h.fs,h.cb,h.op,V9 h.sz hz⟩
theorem KB.len {ds:List Ze} {nf m z:Nat} {b:Z5} (h:KB ds nf m b z):b.steps.length<=z:=by
 have:=h.sz
 have:=b.sz_eq
 have:=KL b.steps
 omega
def Vp:List Z4->Int->Nat
 | [],_=>0
 | s::r,v=>(if gI s.args 0=v then 1 else 0)+Vp r v
def Vh (rn:List Z4):LI->Nat
 | []=>0
 | v::r=>Vp rn v+Vh rn r
theorem GI:∀(xs ys:List Z4) (v:Int),Vp (xs++ys) v=Vp xs v+Vp ys v
 | [],ys,v=>by simp [Vp]
 | x::r,ys,v=>by rw [Qj,Vp,Vp,GI r];omega
theorem Sd {xs:List Z4} {k:Nat} {s:Z4} (h:xs[k]? = some s) (v:Int):Vp (xs.take (k+1)) v=Vp (xs.take k) v+(if gI s.args 0=v then 1 else 0):=by
 rw [Ww h,GI,Vp,Vp];omega
theorem LF:∀(xs:List Z4) (v:Int),Vp xs v<=xs.length
 | [],v=>X9 _
 | x::r,v=>by have:=LF r v;rw [Vp,YV];split<;>omega
theorem Se (xs:List Z4) (k:Nat) (v:Int):Vp (xs.take k) v<=Vp xs v:=by
 have h:=Yp (Vp · v) (T1 k xs)
 simp only [GI] at h;omega
theorem IE (rn:List Z4):∀xs ys:LI,Vh rn (xs++ys)=Vh rn xs+Vh rn ys
 | [],ys=>by simp [Vh]
 | x::r,ys=>by rw [Qj,Vh,Vh,IE rn r];omega
theorem Zcb {rn:List Z4} {xs:LI} {k:Nat} {v:Int} (h:xs[k]? = some v):Vh rn (xs.take (k+1))=Vh rn (xs.take k)+Vp rn v:=by
 rw [Ww h,IE,Vh,Vh];rfl
theorem PK (s:Z4) (r:List Z4):∀vs:LI,B8 vs->Vh (s::r) vs<=1+Vh r vs/\(¬gI s.args 0∈vs->Vh (s::r) vs=Vh r vs)
 | [],_=>by simp [Vh]
 | v::vs,h=>by
  obtain ⟨h1,h2⟩:=WG.1 h
  obtain ⟨q1,q2⟩:=PK s r vs h2
  rw [Vh,Vh,Vp]
  by_cases e:gI s.args 0=v
  ·have hn:¬gI s.args 0∈vs:=fun z=>by have:=h1 _ z;omega
   rw [Zj e,q2 hn]
   exact ⟨by omega,fun z=>absurd (YH.2 (.inl e)) z⟩
  ·rw [Z9 e]
   exact ⟨by omega,fun z=>by rw [q2 fun y=>z (XC _ y)];omega⟩
theorem PL:∀(rn:List Z4) {vs:LI},B8 vs->Vh rn vs<=rn.length
 | [],vs,_=>by
  have:∀xs:LI,Vh [] xs=0:=fun xs=>by
   induction xs with
   | nil=>rfl
   | cons x r ih=>rw [Vh,ih];rfl
  rw [this];exact K3 _
 | s::r,vs,h=>by
  have h1:=(PK s r vs h).1
  have h2:=PL r h
  rw [YV];omega
theorem IF (rn:List Z4) (xs:LI) (k:Nat):Vh rn (xs.take k)<=Vh rn xs:=by
 have h:=Yp (Vh rn) (T1 k xs)
 rw [IE] at h;omega
def L0 (m:Nat) (rn:List Z4):Prop:=∀s∈rn,∃a,s.args=[a]/\0<=a/\a<(m:Int)
theorem LS {xs:List Z4} {k:Nat} {s:Z4} (h:xs[k]? = some s):YX (xs.take (k+1))=YX (xs.take k)+(if Yo s.op=true then 0 else 1):=by rw [Ww h,KD,YX,YX];rfl
theorem KT.eq {ds:List Ze} {nf m z:Nat} {s:Z4} {ks:List Z5} (h:FS ds nf m s) (h11:s.op<=11) (hl:ks.length=s.kids.length) (hk:KK ds nf (Uv ds s.op s.num m) ks z):KT ds nf m ⟨s.op,s.num,s.into,s.args,ks⟩ (1+s.args.length+z):=by
 obtain ⟨h1,h2,h3⟩:=Ma h h11 hl h.into hk
 refine ⟨h1,by show Yo s.op=false;simp [Yo];omega,h2,?_⟩
 have:=hk.sz
 rw [Z4.sz];omega
theorem FS.pair {ds:List Ze} {nf m:Nat} {s:Z4} (h:FS ds nf m s) (hp:s.op=14∨s.op=15):(∃a,s.args=[a]/\0<=a/\a<(m:Int))/\s.sz=2/\Yo s.op=true:=by
 obtain ⟨h1,h2,h3,a,h4⟩:=h.cnt om
 have h5:=h.args a (by rw [h4];exact W2.2 rfl)
 refine ⟨⟨a,h4,h5⟩,?_,LN hp⟩
 rw [s.sz_eq,h3,h4];rfl
theorem FS.not_pair {ds:List Ze} {nf m:Nat} {s:Z4} (h:FS ds nf m s) (hp:¬(s.op=14∨s.op=15)) (h15:Vk s.op):s.op<=11/\Yo s.op=false:=by
 have h1:s.op<=15:=h15
 have h2:=h.op
 exact ⟨by omega,by simp [Yo];omega⟩
theorem CL.run {ds:List Ze} {nf m d z:Nat} {xs:List Z4} {D R:LI} {rn:List Z4} (h:CL ds nf m xs d z) (hr:L0 (m+d) rn) (hD:∀v∈D,∃s∈rn,s.args=[v]) (hR:∀v∈R,∃s∈rn,s.args=[v]):CL ds nf m (xs++(D.map (Zx 14)++R.map (Zx 15))) d (z+2*(D.length+R.length)):=by
 have key:∀(A:LI),(∀v∈A,∃s∈rn,s.args=[v])->∀v∈A,0<=v/\v<((m+d:Nat):Int):=fun A hA v hv=>by
  obtain ⟨s,hs,e⟩:=hA v hv
  obtain ⟨a,e2,e3⟩:=hr s hs
  rw [e] at e2
  cases e2
  exact e3
 have h2:=(h.cnts (op:=14) (.inl rfl) (key D hD)).cnts (op:=15) (.inr rfl) (key R hR)
 rw [<-Ul]
 exact h2.le om
def Wp (xs:List Z4) (i:Nat) (s:Z4):List Z4:=xs.take i++[s]++xs.drop i
theorem DN {xs:List Z4} (i:Nat) (s:Z4):Yw (Wp xs i s)=Yw xs+s.sz:=by
 have h:=Yp Yw (T1 i xs)
 rw [Tc] at h
 rw [Wp,Tc,Tc,Yw,Yw];omega
theorem On {xs:List Z4} {i:Nat} {s:Z4} (h:i<=xs.length):(Wp xs i s).length=xs.length+1:=by
 simp [Wp,Vn h];omega
def Ci (b:Z5) (i j:Nat) (v:Int):Z5:=⟨Wp (Wp b.steps j (Zx 15 v)) i (Zx 14 v),b.result⟩
def withR (n:Zq) (f:Nat) (rt:ZV) (b:Z5):Zq:=⟨n.decls,n.routines.set f ⟨rt.params,rt.lent,rt.result,b⟩⟩
def Gl (n n2:Zq):Prop:=n2=n∨∃f rt i j v,n.routines[f]? = some rt/\i<=j/\j<=rt.body.steps.length/\0<=v/\v<((rt.params.length+YX (rt.body.steps.take i):Nat):Int)/\n2=withR n f rt (Ci rt.body i j v)
theorem CL.put {ds:List Ze} {nf m:Nat} {xs:List Z4} {d z:Nat} (h:CL ds nf m xs d z) {i:Nat} {op v:Int} (ho:op=14∨op=15) (hv:0<=v/\v<((m+YX (xs.take i):Nat):Int)):CL ds nf m (Wp xs i (Zx op v)) d (z+2):=by
 have hs:=h.fs
 have hp:=h.op
 have e:=T1 i xs
 rw [<-e] at hs hp
 rw [C8] at hs
 rw [Fu] at hp
 have h1:CL ds nf m (xs.take i) (YX (xs.take i)) (Yw (xs.take i)):=⟨hs.1,rfl,hp.1,X9 _⟩
 have h2:CL ds nf (m+YX (xs.take i)) (xs.drop i) (YX (xs.drop i)) (Yw (xs.drop i)):=⟨hs.2,rfl,hp.2,X9 _⟩
 have h3:=(h1.cnt ho hv).app h2
 have e1:=Yp Yw e
 have e2:=Yp YX e
 rw [Tc] at e1
 rw [KD,h.dn] at e2
 have:=h.sz
 rw [e2] at h3
 exact h3.le om
theorem Z87 {xs:List Z4} {i j:Nat} {s:Z4} (h:i<=j) (hj:j<=xs.length):(Wp xs j s).take i=xs.take i:=by
 rw [Wp,Ul,List.take_append_of_le_length (by rw [Wr];omega),List.take_take,Vn h]
theorem Z3k {ds:List Ze} {nf m z:Nat} {b:Z5} (h:KB ds nf m b z) {i j:Nat} {v:Int} (hij:i<=j) (hj:j<=b.steps.length) (hv:0<=v/\v<((m+YX (b.steps.take i):Nat):Int)):KB ds nf m (Ci b i j v) (z+4):=by
 obtain ⟨h1,h2⟩:=h.cl
 have hm:YX (b.steps.take i)<=YX (b.steps.take j):=by
  have e:=Yp YX (T1 i (b.steps.take j))
  rw [KD,List.take_take,Vn hij] at e;omega
 have h3:=(h1.put (i:=j) (op:=15) (v:=v) (.inr rfl) om).put (i:=i) (op:=14) (v:=v) (.inl rfl) (by rw [Z87 hij hj];exact hv)
 have:=h.sz
 have:=b.sz_eq
 exact (h3.block h2).le om
theorem FO.held {n n2:Zq} {q:Nat} (h:FO n q Vk) (hh:Gl n n2):FO n2 (q+4) Vk:=by
 rcases hh with rfl|⟨f,rt,i,j,v,h1,h2,h3,h4,h5,rfl⟩
 ·exact ⟨⟨h.fn.decls,h.fn.len,h.fn.sigs,h.fn.lent,fun r hr=>⟨(h.fn.body r hr).1,by have:=(h.fn.body r hr).2;omega⟩⟩,h.op⟩
 ·have hr:=h.rf (Y1 h1)
  have hk:KB n.decls n.routines.length rt.params.length (Ci rt.body i j v) (q+4):=Z3k ⟨hr.body.1,hr.op,hr.body.2⟩ h2 h3 ⟨h4,h5⟩
  refine FO.all h.fn.decls (by show 1<=(n.routines.set _ _).length/\(n.routines.set _ _).length<=4;rw [Tp];exact h.fn.len) fun r hm=>?_
  show RF n.decls (n.routines.set _ _).length _ _ r
  rw [Tp]
  rcases List.mem_or_eq_of_mem_set hm with hm|rfl
  ·have hq:=h.rf hm
   exact ⟨hq.sig,hq.lent,⟨hq.body.1,by have:=hq.body.2;omega⟩,hq.op⟩
  ·exact ⟨hr.sig,hr.lent,⟨hk.fb,hk.sz⟩,hk.op⟩
end Go.Abs
