/-
  A part of the proof of FnBalancedRoutineUptoSaid (see the last file): no condition.
-/
import Derived.Test.YtjmahledcmocoaaGreatBarA
import Derived.Test.YtjmahledcmocoaaGreatRows
import Derived.Deep.Slices
import Derived.ChangeArms
set_option linter.all false
set_option linter.unusedVariables false
set_option linter.unusedSimpArgs false
set_option linter.unusedSectionVars false
set_option maxRecDepth 10000
set_option maxHeartbeats 4000000
namespace Go.Abs
theorem JK.mono {w:World} {G G':Ya} {v:Value} {k:Nat} {ls:List AV} (hA:VY G w w G') (h:JK w G v k ls):JK w G' v k ls:=by
 rcases h with ⟨rfl,h0⟩|⟨g,len,cap,cur,el,rfl,h1,h2,h3,h4,h5⟩
 ·exact .inl ⟨rfl,h0⟩
 ·exact .inr ⟨g,len,cap,cur,el,rfl,h1,h2,h3,h4,h5.mono hA⟩
theorem Qf.same {w:World} {G G':Ya} {r:Res} (hA:VY G w w G') (h:Qf w G r):Qf w G' r:=by
 cases r with
 | obj b ls=>obtain ⟨cs,e,h1,h2⟩:=h;exact ⟨cs,e,h1,h2.mono hA⟩
 | tail v k=>exact h
 | ge s=>exact h
 | vec v ls=>
  rcases h with ⟨rfl,h0⟩|⟨g,cap,cur,el,rfl,h1,h2,h3,h4⟩
  ·exact .inl ⟨rfl,h0⟩
  ·exact .inr ⟨g,cap,cur,el,rfl,h1,h2,h3,h4.mono hA⟩
 | many ts=>exact h
 | own B m=>exact h
 | row v k ls=>exact h.mono hA
theorem Yx.alloc_rrow {w:World} {G:Ya} {h:List Res} (hh:Yx w G h) (cs:Array Value) (t:TypeId) {ls:List AV} {len cap k:Nat} (hcap:len<=cap) (Xo:cs.size=cap*k) (hl:ls.length=len*k)
  (hls:YT w G ls (cs.toList.take (len*k))) :
  Yx (w.alloc (.cells cs t)) G (.row (.slice (some ⟨w.heap.size,0,none⟩) len cap) k ls::h)/\YW w G h (w.alloc (.cells cs t)) G (.row (.slice (some ⟨w.heap.size,0,none⟩) len cap) k ls::h):=by
 have hA:VY G w (w.alloc (.cells cs t)) G:=⟨fun b j hg=>DM w _ (hh.lt b j hg),fun _ _ h=>h⟩
 refine hh.alloc (.cells cs t) (h':=[.row (.slice (some ⟨w.heap.size,0,none⟩) len cap) k ls]) (fun _ _ h=>h) (fun _ _ h=>.inl h) ?_ ?_ (BN _ _) ?_
 ·intro r hr
  rw [XD.1 hr]
  exact .inr ⟨_,len,cap,cs,t,rfl,D0 w _,hcap,Xo,hl,hls.mono hA⟩
 ·intro r hr b j hf
  rw [XD.1 hr] at hf
  exact hf
 ·intro r hr b j hf hg
  rw [XD.1 hr] at hf
  have:=hh.lt b j hg
  have:b=w.heap.size:=hf
  omega
theorem Yx.rwrite {w:World} {G:Ya} {h2:List Res} {g len cap k:Nat} {ls ls':List AV} (hh:Yx w G (.row (.slice (some ⟨g,0,none⟩) len cap) k ls::h2)) {cs cs':Array Value} {e:TypeId}
  (hb:w.heap[g]? = some (.cells cs e (0,0))) (Xo:cs'.size=cs.size) (hle:len<=cap) (hcap:cs.size=cap*k) (hl:ls'.length=len*k) (hls:YT w G ls' (cs'.toList.take (len*k))) :
  Yx (w.setRow g cs') G (.row (.slice (some ⟨g,0,none⟩) len cap) k ls'::h2) /\
   YW w G (.row (.slice (some ⟨g,0,none⟩) len cap) k ls::h2) (w.setRow g cs') G (.row (.slice (some ⟨g,0,none⟩) len cap) k ls'::h2):=by
 have hmem:Res.row (.slice (some ⟨g,0,none⟩) len cap) k ls∈Res.row (.slice (some ⟨g,0,none⟩) len cap) k ls::h2:=Xl ..
 have hA:VY G w (w.setRow g cs') G:=⟨fun c j hg=>by
  have hne:c≠g:=fun he=>hh.prot _ hmem c j he hg
  simp [World.cell?,VU w g c cs' hne],fun _ _ h=>h⟩
 have hpw:=WT.1 hh.apart
 have hother:∀r∈h2,∀c j,r.fp c j->c≠g:=fun r hr c j hf hc=>hpw.1 r hr c j hc hf
 have e1:YW w G [.row (.slice (some ⟨g,0,none⟩) len cap) k ls] (w.setRow g cs') G [.row (.slice (some ⟨g,0,none⟩) len cap) k ls']:=by
  refine ⟨rfl,rfl,rfl,by simp [World.setRow],fun _ _ h=>h,?_,fun _ _ _ h=>.inl h,?_⟩
  ·intro c hc
   by_cases hcb:c=g
   ·subst hcb
    exact .inr ⟨cs,cs',e,(0,0),hb,setRow_heap w c cs cs' e (0,0) hb,Xo,fun j hj=>absurd ⟨_,Xl ..,rfl⟩ hj⟩
   ·exact .inl (VU w g c cs' hcb)
  ·rintro c j _ ⟨r,hr,hf⟩
   rw [XD.1 hr] at hf
   exact ⟨_,Xl ..,hf⟩
 have e2:Yx (w.setRow g cs') G [.row (.slice (some ⟨g,0,none⟩) len cap) k ls']:=by
  refine ⟨fun r hr=>?_,BN _ _,fun r hr c j hf hg=>?_,fun c j hg=>?_⟩
  ·rw [XD.1 hr]
   exact .inr ⟨g,len,cap,cs',e,rfl,setRow_heap w g cs cs' e (0,0) hb,hle,Xo.trans hcap,hl,hls.mono hA⟩
  ·rw [XD.1 hr] at hf
   exact hh.prot _ hmem c j hf hg
  ·have:=hh.lt c j hg
   simpa [World.setRow] using this
 exact Yx.frame (h:=[.row (.slice (some ⟨g,0,none⟩) len cap) k ls]) (k:=h2) hh e1 e2
theorem Zel {w:World} {G:Ya} {h:List Res} {k:Nat} (hh:Yx w G h):Yx w G (.row (.slice none 0 0) k []::h)/\YW w G h w G (.row (.slice none 0 0) k []::h):=
 ⟨⟨fun r hr=>by
   rcases YF.1 hr with rfl|hr
   ·exact .inl ⟨rfl,rfl⟩
   ·exact hh.ok r hr,WT.2 ⟨fun _ _ _ _ hf=>hf.elim,hh.apart⟩,fun r hr b o hf hg=>by
   rcases YF.1 hr with rfl|hr
   ·exact hf.elim
   ·exact hh.prot r hr b o hf hg,hh.lt⟩,
  ⟨rfl,rfl,rfl,X3 _,fun _ _ h=>h,fun _ _=>.inl rfl,fun _ _ _ h=>.inl h,fun b o _ ⟨r,hr,hf⟩=>by
   rcases YF.1 hr with rfl|hr
   ·exact hf.elim
   ·exact ⟨r,hr,hf⟩⟩⟩
theorem JK.form {w:World} {G:Ya} {v:Value} {k:Nat} {ls:List AV} (h:JK w G v k ls):∃a len cap,v=.slice a len cap/\ls.length=len*k:=by
 rcases h with ⟨rfl,rfl⟩|⟨g,len,cap,cur,e,rfl,_,_,_,h4,_⟩
 ·exact ⟨none,0,0,rfl,by simp⟩
 ·exact ⟨_,len,cap,rfl,h4⟩
theorem Cm {w:World} {G:Ya} {v:Value} {k:Nat} {es:List AV} {h2:List Res} (hh:Yx w G (.row v k (Zf es)::h2)) (hes:∀y∈es,y.leaves.length=k) (hk:0<k) :
  ∃G',Yx w G' (.tail v k::h2)/\YW w G (.row v k (Zf es)::h2) w G' (.tail v k::h2)/\RV w G' (.sl es (some v)) v:=by
 have hpw:=WT.1 hh.apart
 have hfl:=UW es hes
 rcases hh.ok _ (Xl ..) with ⟨rfl,h0⟩|⟨g,len,cap,cur,e,rfl,h1,h3,h4,h5,h6⟩
 ·have hes0:es=[]:=by
   cases es with
   | nil=>rfl
   | cons y r=>
    have h7:0<(r.length+1)*k:=Nat.mul_pos om hk
    rw [h0,YS] at hfl
    rw [<-hfl] at h7
    simp at h7
  subst hes0
  obtain ⟨k1,k2⟩:=Ms (sz:=k) (hh.sub (BO _ _))
  refine ⟨G,k1,⟨rfl,rfl,rfl,X3 _,fun _ _ h=>h,fun _ _=>.inl rfl,fun _ _ _ h=>.inl h,?_⟩,.nil (by simp)⟩
  rintro b o _ ⟨r,hr,hf⟩
  rcases YF.1 hr with rfl|hr
  ·exact hf.elim
  ·exact ⟨r,XC _ hr,hf⟩
 ·have hlen:len=es.length:=Hv hk (h5.symm.trans hfl)
  subst hlen
  let G':Ya:=fun b o=>G b o∨(b=g/\o<es.length*k)
  have hA:VY G w w G':=⟨fun _ _ _=>rfl,fun _ _ h=>.inl h⟩
  have hmem:Res.row (.slice (some ⟨g,0,none⟩) es.length cap) k (Zf es)∈Res.row (.slice (some ⟨g,0,none⟩) es.length cap) k (Zf es)::h2:=Xl ..
  refine ⟨G',⟨fun r hr=>?_,WT.2 ⟨fun r hr b o f1 f2=>hpw.1 r hr b o f1.1 f2,hpw.2⟩,fun r hr b o hf hg=>?_,fun b o hg=>?_⟩,
   ⟨rfl,rfl,rfl,X3 _,fun _ _ h=>.inl h,fun _ _=>.inl rfl,fun b o _ hg=>hg.imp id fun ⟨e1,_⟩=>⟨_,hmem,e1⟩,?_⟩,?_⟩
  ·rcases YF.1 hr with rfl|hr
   ·exact .inr ⟨g,es.length,cap,cur,e,rfl,h1,h3,h4⟩
   ·exact (hh.ok r (XC _ hr)).same hA
  ·rcases YF.1 hr with rfl|hr2
   ·obtain ⟨hbg,hf2⟩:=hf
    rcases hg with hg|⟨_,hg⟩
    ·exact hh.prot _ hmem b o hbg hg
    ·omega
   ·rcases hg with hg|⟨hbg,_⟩
    ·exact hh.prot r (XC _ hr2) b o hf hg
    ·exact hpw.1 r hr2 b o hbg hf
  ·rcases hg with hg|⟨rfl,_⟩
   ·exact hh.lt b o hg
   ·exact (T6.1 h1).1
  ·rintro b o _ ⟨r,hr,hf⟩
   rcases YF.1 hr with rfl|hr
   ·exact ⟨_,hmem,hf.1⟩
   ·exact ⟨r,XC _ hr,hf⟩
  ·refine .sl (k:=k) (fun x hx=>by cases hx;rfl) h3 (V7.of_flat es hes (Ww.of_cells (h6.mono hA) fun j u hj=>?_))
   have hjl:j<es.length*k:=by
    have:=(Xk.1 hj).1
    have h7:=h6.length
    omega
   rw [Q2,Ze hjl] at hj
   refine ⟨?_,.inr ⟨rfl,by omega⟩⟩
   rw [Vm,cell_of_row w g j cur e (0,0) h1]
   simpa using hj
section
variable {P:Program} {n:Nat} {ops:Array Oper} {B:Fr->List Res->Prop} {k:Nat} {F:Fr} {h h2:List Res}
theorem H8 {k:Nat}:Tq h (.row (.slice none 0 0) k []::h):=fun _ _ hh=>let ⟨a,b⟩:=Zel hh;⟨_,a,b⟩
theorem Zhc (j:Nat) {v:Value} {kk m:Nat} {ls:List AV} (hl:De P ops F k=some (.val v)) (hj:h[j]? = some (.row v kk ls)) (hm:ls.length=m*kk) (hk:0<kk):Xx P (ZA ops k) F h [] (.val (.int .i64 m)):=by
 unfold De at hl
 generalize hoo:ZA ops k=o at hl
 obtain ⟨dst,op,type,pos,after,guard⟩:=o
 cases op<;>simp only at hl<;>try (cases hl)
 rename_i c
 obtain ⟨callee,args,tys⟩:=c
 simp only at hl
 split at hl
 ·rename_i x t hargs htys
  split at hl
  ·rename_i el hu
   simp only [Wi] at hl
   intro n w G a hF hh
   have hv:=hF.ev x
   rw [hl] at hv
   have hv:=hv.val_inv
   obtain ⟨ad,len,cap,rfl,hlen⟩:=JK.form (hh.ok _ (ZZ hj))
   have:len=m:=Hv hk (hlen.symm.trans hm)
   subst this
   have e1:args=#[x]:=by rw [<-Ug (xs:=args),hargs]
   have e2:tys=#[t]:=by rw [<-Ug (xs:=tys),htys]
   subst e1;subst e2
   exact ⟨_,.val,fun w' _ _=>by simp [execOp,resolve,invoke,builtin,hv,Builtin.len_,Vt hu,goInt]⟩
  ·cases hl
 ·cases hl
def Lk (ops:Array Oper) (F:Fr) (k:Nat):Option (TypeId × AV):=
 match (ZA ops k).op with
 | .load t x=>some (t,F.ev x)
 | _=>none
theorem Zhd (j:Nat) {g len cap kk o:Nat} {ls zs:List AV} {t:TypeId} {y:AV} (hl:Lk ops F k=some (t,.val (.pointer (some ⟨g,o,none⟩)))) (hj:h[j]? = some (.row (.slice (some ⟨g,0,none⟩) len cap) kk ls))
  (hz:(ls.drop o).take zs.length=zs) (hy:AH P t zs=some y):Xx P (ZA ops k) F h [g] y:=by
 unfold Lk at hl
 generalize hoo:ZA ops k=q at hl
 obtain ⟨dst,op,type,pos,after,guard⟩:=q
 cases op<;>simp only at hl<;>try (cases hl)
 rename_i t' x
 intro n w G a hF hh
 simp only [Wi,Prod.mk.injEq] at hl
 obtain ⟨rfl,hl⟩:=hl
 have hv:=hF.ev x
 rw [hl] at hv
 have hv:=hv.val_inv
 rcases hh.ok _ (ZZ hj) with ⟨h0,_⟩|⟨g',len',cap',cur,e,h0,h1,h2,h3,h4,h5⟩
 ·cases h0
 ·cases h0
  have hc:=(h5.drop o).take zs.length
  rw [hz] at hc
  obtain ⟨v,j1,j2⟩:=GN (P:=P) (b:=g) (o:=o) hy hc
  refine ⟨v,j1,fun w' _ hw=>?_⟩
  have hrow:=hw g (by simp)
  rw [h1] at hrow
  simp only [execOp,hv]
  refine Vc ?_
  simp only [Instr.loadAt,Instr.sureAddr,Sem.run_bind,Sem.run_pure,Result.andThen_ok]
  refine j2 w' fun j u hj=>?_
  rw [cell_of_row w' g (o+j) cur e (0,0) hrow]
  rw [Q2] at hj
  split at hj
  ·rw [BK,Q2] at hj
   split at hj
   ·simpa using hj
   ·cases hj
  ·cases hj
theorem Rn {K:Fr->List Res->Prop} {g len cap kk:Nat} {ls xs:List AV} {i:Nat} (hs:storeAt P ops F k=some (g,i,xs)) (hlt:i+xs.length<=ls.length)
  (hK:K F (.row (.slice (some ⟨g,0,none⟩) len cap) kk (ls.take i++xs++ls.drop (i+xs.length))::h2)):WE P n (ZA ops k) F (.row (.slice (some ⟨g,0,none⟩) len cap) kk ls::h2) K:=by
 unfold storeAt at hs
 generalize hoo:ZA ops k=q at hs
 obtain ⟨dst,op,type,pos,after,guard⟩:=q
 cases op<;>simp only at hs<;>try (cases hs)
 rename_i t x z
 split at hs
 ·rename_i b' o' inf hx hi
  split at hs
  ·rename_i hc
   simp only [W7] at hc
   simp only [Wi,Prod.mk.injEq] at hs
   obtain ⟨rfl,rfl,hz⟩:=hs
   intro Q w G a hF hh
   have hvx:=hF.ev x
   rw [hx] at hvx
   have hvx:=hvx.val_inv
   have hvy:=hF.ev z
   have hcs:=hvy.cells hc.2.1
   rw [hz] at hcs hc
   have hone:=hcs.one_cells hc.2.2
   have Xo:inf.size=xs.length:=UO hc.1
   have hlen:(a.eval z).cells.size=xs.length:=by have:=hcs.length;simpa using this
   rcases hh.ok (.row (.slice (some ⟨b',0,none⟩) len cap) kk ls) (Xl ..) with ⟨h0,_⟩|⟨g',len',cap',cur,e,h0,h1,h2',h3,h4,h5⟩
   ·cases h0
   ·cases h0
    have hlc:len*kk<=cap*kk:=QR _ h2'
    have hst:=run_storeCells_at P b' o' e (a.eval z).cells.toList 0 cur w h1 (by simp [hlen];omega) hone
    simp only [Cw,KL] at hst
    have hr:(execOp a.eval { dst:=none,op:=.store t x z,type:=type,pos:=pos,after:=after,guard:=guard }).run P w =
      .ok .skip (w.setRow b' (cur.toList.take o'++(a.eval z).cells.toList++cur.toList.drop (o'+(a.eval z).cells.size)).toArray):=by
     simp only [execOp,hvx]
     simp [Instr.storeAt,Instr.sureAddr,storeVar,Qu hi,hlen,Xo,hst]
    unfold Oper.wp
    rw [hr]
    have hcl:(a.eval z).cells.toList.length=xs.length:=by simpa using hlen
    obtain ⟨j1,j2⟩:=hh.rwrite (ls':=ls.take o'++xs++ls.drop (o'+xs.length)) (cs':=(cur.toList.take o'++(a.eval z).cells.toList++cur.toList.drop (o'+(a.eval z).cells.size)).toArray) h1
     (by simp [hlen];omega) h2' h3 (by simp;omega) (by
      rw [DC,hlen]
      have e1:(cur.toList.take o'++(a.eval z).cells.toList++cur.toList.drop (o'+xs.length)).take (len*kk) =
        (cur.toList.take (len*kk)).take o'++(a.eval z).cells.toList++(cur.toList.take (len*kk)).drop (o'+xs.length):=by
       have q1:(cur.toList.take o'++(a.eval z).cells.toList).length=o'+xs.length:=by simp [hlen];omega
       rw [List.take_append,q1,Ve om,List.take_take,VO om,List.drop_take]
      rw [e1]
      exact ((h5.take o').append hcs).append (h5.drop _))
    refine ⟨F,_,G,hK,?_,j1,j2⟩
    have:=hF.mono (j2.agree hh)
    simpa [Act.put] using this
  ·cases hs
 ·cases hs
theorem Zco {K:Fr->List Res->Prop} {sz:Nat} (hd:Vw n (ZA ops k)=true) (ha:TQ P ops F k=some ([],0,sz))
  (hK:∀g,K (F.put (ZA ops k).dst (.val (.slice (some ⟨g,0,none⟩) 0 0))) (.row (.slice (some ⟨g,0,none⟩) 0 0) sz []::h)):WE P n (ZA ops k) F h K:=by
 unfold TQ at ha
 generalize hoo:ZA ops k=q at ha hd hK
 obtain ⟨dst,op,type,pos,after,guard⟩:=q
 cases op<;>simp only at ha<;>try (cases ha)
 rename_i t ln parts
 split at ha
 case h_2=>cases ha
 rename_i e ht
 split at ha
 case h_2=>cases ha
 rename_i i hi
 split at ha
 case h_2=>cases ha
 rename_i hc
 simp only [W7] at hc
 split at ha
 case h_2=>cases ha
 rename_i ls' hf
 simp only [Wi,Prod.mk.injEq] at ha
 obtain ⟨rfl,rfl,Xo⟩:=ha
 intro Q w G a hF hh
 obtain ⟨cs,h1,h2⟩:=GM hF parts ht hi rfl hc.1 hc.2 hf
 have hr:(execOp a.eval { dst:=dst,op:=.buildSlice t 0 parts,type:=type,pos:=pos,after:=after,guard:=guard }).run P w =
   .ok (.value (.slice (some ⟨w.heap.size,0,none⟩) 0 0)) (w.alloc (.cells cs e)):=by
  simp only [execOp]
  exact Vc h2
 unfold Oper.wp
 rw [hr]
 have hlc:=h1.length
 simp only [KL] at hlc
 obtain ⟨j1,j2⟩:=hh.alloc_rrow cs e (ls:=[]) (len:=0) (cap:=0) (k:=sz) (X3 _) (by simpa using hlc) (by simp) (by simpa using YT.nil)
 exact ⟨_,_,G,hK _,(hF.mono (j2.agree hh)).put (Ta hd) .val,j1,j2⟩
theorem Zcm {K:Fr->List Res->Prop} {g sz:Nat} {xs:List AV} {hx:Option Value} (hd:Vw n (ZA ops k)=true) (ha:UQ P ops F k=some (.val (.slice (some ⟨g,0,none⟩) 0 0),.sl xs hx,sz))
  (hxs:∀y∈xs,y.leaves.length=sz) (hbound:xs.length<=4294967296)
  (hK:∀v:Hd,K (F.put (ZA ops k).dst (.val v.v)) (.row v.v sz (Zf xs)::h2)):WE P n (ZA ops k) F (.row (.slice (some ⟨g,0,none⟩) 0 0) sz []::h2) K:=by
 unfold UQ at ha
 generalize hoo:ZA ops k=o at ha hd hK
 obtain ⟨dst,op,type,pos,after,guard⟩:=o
 cases op<;>simp only at ha<;>try (cases ha)
 rename_i c
 obtain ⟨callee,args,tys⟩:=c
 simp only at ha
 split at ha
 case h_2=>cases ha
 rename_i s x t t' hargs htys
 split at ha
 case h_2=>cases ha
 rename_i e htt ht
 have:=UO htt
 subst this
 split at ha
 case h_2=>cases ha
 rename_i i hinfo
 split at ha
 case h_2=>cases ha
 rename_i z hz
 split at ha
 case h_2=>cases ha
 rename_i hb
 simp only [W7] at hb
 simp only [Wi,Prod.mk.injEq] at ha
 obtain ⟨h3,h4,hk1⟩:=ha
 have e1:args=#[s,x]:=by rw [<-Ug (xs:=args),hargs]
 have e2:tys=#[t,t]:=by rw [<-Ug (xs:=tys),htys]
 subst e1;subst e2
 have hzs:z.cells.size=sz:=by rw [UO hb.1,hk1]
 have hby:=Vf hb.2
 intro Q w G a hF hh
 have v1:=hF.ev s
 have v2:=hF.ev x
 rw [h3] at v1
 rw [h4] at v2
 have v1:=v1.val_inv
 have v2:=v2.forget
 have finish:∀(v':Hd) w',(Builtin.append_ #[t,t] type #[.slice (some ⟨g,0,none⟩) 0 0,a.eval x]).run P w=.ok v'.v w'->Yx w' G (.row v'.v sz (Zf xs)::h2) ->
   YW w G (.row (.slice (some ⟨g,0,none⟩) 0 0) sz []::h2) w' G (.row v'.v sz (Zf xs)::h2) ->
   ({ dst:=dst,op:=.call { callee:=.builtin .append,args:=#[s,x],argTypes:=#[t,t] },type:=type,pos:=pos,after:=after,guard:=guard }:Oper).wp P a w
    (fun a' w'=>∃F' h' G',K F' h'/\FR w' G' n F' a'/\Yx w' G' h'/\YW w G (.row (.slice (some ⟨g,0,none⟩) 0 0) sz []::h2) w' G' h') Q:=by
  intro v' w' hr j1 j2
  have hrun:(execOp a.eval { dst:=dst,op:=.call { callee:=.builtin .append,args:=#[s,x],argTypes:=#[t,t] },type:=type,pos:=pos,after:=after,guard:=guard }).run P w=.ok (.value v'.v) w':=by
   simp only [execOp,resolve,invoke,builtin,Sem.run_bind,Sem.run_pure,Result.andThen_ok,BM,Ut,BL,v1,hr]
  unfold Oper.wp
  rw [hrun]
  exact ⟨_,_,G,hK v',(hF.mono (j2.agree hh)).put (Ta hd) .val,j1,j2⟩
 by_cases hxe:xs=[]
 ·subst hxe
  cases v2q:a.eval x with
  | slice ad' l' c'=>
   rw [v2q] at v2
   cases v2<;>exact finish ⟨some ⟨g,0,none⟩,0,0⟩ _ (by rw [v2q];exact Do ht hinfo (X3 _) w) hh (YW.refl w G _)
  | _=>rw [v2q] at v2;cases v2
 ·generalize hax:a.eval x=ax at v2 finish
  cases v2 with
  | nil _=>exact absurd rfl hxe
  | sl hq hcc hm=>
   rename_i b o' k' c
   have hpos:0<xs.length:=Ht.2 hxe
   have hfm:=hm.flat_mem
   obtain ⟨news,hn,hnc⟩:=hfm.cells
   have hfl:=UW xs hxs
   have hnl:news.length=xs.length*i.size:=by rw [hn.length,hfl,hk1]
   have hnews:∀j u,news[j]? = some u->w.cell? ((⟨b,o',none⟩:Addr).add j)=some u:=fun j u hj=>by rw [KU];exact (hnc j u hj).1
   have hbb:(0+xs.length)*i.bytes<=140737488355328:=by
    have:=Nat.mul_le_mul hbound hby
    rw [Vm]
    omega
   have hr:=run_append_grow (P:=P) w t type e i z ht hinfo hz ⟨g,0,none⟩ 0 0 [] (by simp) (fun j u hj=>by simp at hj) ⟨b,o',none⟩ xs.length c news hnl hnews om om (growslice_fits om hbb)
   simp only [Vm] at hr
   have Xh:=grownCap_ge w xs.length 0 e
   obtain ⟨j1,j2⟩:=hh.drew.alloc_rrow ([].toArray++news.toArray++Builtin.zeroCells z.cells (grownCap w xs.length 0 e-xs.length)) e
    (ls:=Zf xs) (len:=xs.length) (cap:=grownCap w xs.length 0 e) (k:=sz) Xh
    (by
     have q2:(grownCap w xs.length 0 e-xs.length)*sz=grownCap w xs.length 0 e*sz-xs.length*sz:=Nat.sub_mul ..
     have q3:xs.length*sz<=grownCap w xs.length 0 e*sz:=QR _ Xh
     simp only [Array.size_append,DB,size_zeroCells,hzs,Xw,Vm,hnl,hk1]
     omega) hfl
    (by
     have q1:([].toArray++news.toArray++Builtin.zeroCells z.cells (grownCap w xs.length 0 e-xs.length)).toList.take (xs.length*sz)=news:=by
      simp only [Dz,Cv]
      rw [<-hk1,<-hnl]
      exact Aa
     rw [q1]
     exact hn.mono (B4 w G))
   have hs:List.Sublist (.row (.slice (some ⟨w.drew.heap.size,0,none⟩) xs.length (grownCap w xs.length 0 e)) sz (Zf xs)::h2)
     (.row (.slice (some ⟨w.drew.heap.size,0,none⟩) xs.length (grownCap w xs.length 0 e)) sz (Zf xs)::.row (.slice (some ⟨g,0,none⟩) 0 0) sz []::h2):=List.Sublist.cons_cons _ (BO _ _)
   exact finish ⟨some ⟨w.heap.size,0,none⟩,xs.length,grownCap w xs.length 0 e⟩ _ hr (j1.sub hs) ((YW.drew w G _).trans (j2.sub' hs))
theorem LV {w:World} {G:Ya} {v:Hd} {kk m:Nat} {ls:List AV} (h:JK w G v.v kk ls) (hm:ls.length=m*kk) (hk:0<kk) (h0:0<m):∃g c,v=⟨some ⟨g,0,none⟩,m,c⟩:=by
 obtain ⟨a,l,c⟩:=v
 rcases h with ⟨h1,h2⟩|⟨g,len,cap,cur,e,h1,h2,h3,h4,h5,h6⟩
 ·subst h2
  have:=Nat.mul_pos h0 hk
  rw [Xw] at hm
  omega
 ·cases h1
  have:l=m:=Hv hk (h5.symm.trans hm)
  subst this
  exact ⟨g,c,rfl⟩
theorem Z1q (j m:Nat) {v:Hd} {kk:Nat} {ls:List AV} {c:Code} {A:V1} (hj:h[j]? = some (.row v.v kk ls)) (hm:ls.length=m*kk) (hk:0<kk) (h0:0<m)
  (H:∀g c',v=⟨some ⟨g,0,none⟩,m,c'⟩->Yw P n c A F h):Yw P n c A F h:=by
 intro w G a hF hh
 obtain ⟨g,c',e⟩:=LV (hh.ok _ (ZZ hj)) hm hk h0
 exact H g c' e w G a hF hh
theorem Z1p (t j:Nat) {v:Hd} {kk:Nat} {es:List AV} {c:Code} {A:V1} (hF':F.get t=.h v) (hp:Wp [j] h=some [.row v.v kk (Zf es)]) (hes:∀y∈es,y.leaves.length=kk) (hk:0<kk)
  (H:Yw P n c A ((t,.sl es (some v.v))::F) (.tail v.v kk::XL [j] h)):Yw P n c A F h:=by
 intro w G a hF hh
 have hp':=Uz (VD hp)
 obtain ⟨G',h1,h2',h3⟩:=Cm (hh.perm hp') hes hk
 have e:=h2'.perm hp'.symm (Qw _)
 have hF2:=hF.mono (e.agree hh)
 have hv:=hF2.get t
 rw [hF'] at hv
 have hv:=hv.val_inv
 refine wp_mono (H w G' a ⟨hF2.defers,hF2.size,fun s=>?_⟩ h1) fun e' a' w' hc=>hc.trans e
 show RV w G' (match Nat.beq t s with|true=>_|false=>Fr.get F s) _
 cases hb:Nat.beq t s with
 | true=>
  have:=UO hb
  subst this
  rw [hv]
  exact h3
 | false=>exact hF2.get s
theorem Z0r (j i p:Nat) {u v:Value} {kk kv:Nat} {es ls:List AV} (hp:Wp [j,i] h=some [.row u kk (Zf es),.row v kv ls]) (hes:∀y∈es,y.leaves.length=kk) (hk:0<kk) (hl:ls[p]? = some (.val u)) :
  Tq h (.row v kv (ls.set p (.sl es (some u)))::.tail u kk::XL [j,i] h):=by
 intro w G hh
 have hp':=Uz (VD hp)
 have hh':=hh.perm hp'
 obtain ⟨G',h1,h2',h3⟩:=Cm (h2:=.row v kv ls::XL [j,i] h) hh' hes hk
 have e:=h2'.perm hp'.symm (Qw _)
 have h1:Yx w G' (.tail u kk::.row v kv ls::XL [j,i] h):=h1
 have perm:(Res.tail u kk::.row v kv ls::XL [j,i] h).Perm (.row v kv ls::.tail u kk::XL [j,i] h):=List.Perm.swap ..
 have h4:=h1.perm perm
 have e4:=e.perm (Qw _) perm
 have hset:∀{w:World} {G:Ya},RV w G (.sl es (some u)) u->JK w G v kv ls->JK w G v kv (ls.set p (.sl es (some u))):=by
  intro w G hu hr
  rcases hr with ⟨rfl,h0⟩|⟨g,len,cap,cur,el,rfl,k1,k2,k3,k4,k5⟩
  ·exact .inl ⟨rfl,by rw [h0];rfl⟩
  ·refine .inr ⟨g,len,cap,cur,el,rfl,k1,k2,k3,by rw [VN];exact k4,?_⟩
   obtain ⟨c,c1,c2⟩:=k5.get p _ hl
   have:=c2.val_inv
   subst this
   have h6:=k5.set p hu
   rwa [show (cur.toList.take (len*kv)).set p c=cur.toList.take (len*kv) from by
    apply List.ext_getElem?
    intro q
    rw [List.getElem?_set]
    split
    ·rename_i hq;subst hq;split
     ·exact c1.symm
     ·rename_i hq2;rw [ME om]
    ·rfl] at h6
 refine ⟨G',⟨fun r hr=>?_,?_,fun r hr=>?_,h4.lt⟩,⟨e4.os,e4.tape,e4.output,e4.size,e4.sub,e4.same,e4.newG,fun b o hb ⟨r,hr,hf⟩=>e4.newfp b o hb ?_⟩⟩
 ·rcases YF.1 hr with rfl|hr
  ·exact hset h3 (h4.ok _ (Xl ..))
  ·exact h4.ok r (XC _ hr)
 ·have:=WT.1 h4.apart
  refine WT.2 ⟨fun r hr b o f1 f2=>this.1 r hr b o ?_ f2,this.2⟩
  cases v with
  | slice a _ _=>cases a with
   | none=>exact f1.elim
   | some a=>exact f1
  | _=>exact f1.elim
 ·rcases YF.1 hr with rfl|hr
  ·intro b o f1 hg
   refine h4.prot (.row v kv ls) (Xl ..) b o ?_ hg
   cases v with
   | slice a _ _=>cases a with
    | none=>exact f1.elim
    | some a=>exact f1
   | _=>exact f1.elim
  ·exact h4.prot r (XC _ hr)
 ·rcases YF.1 hr with rfl|hr
  ·refine ⟨.row v kv ls,Xl ..,?_⟩
   cases v with
   | slice a _ _=>cases a with
    | none=>exact hf.elim
    | some a=>exact hf
   | _=>exact hf.elim
  ·exact ⟨r,XC _ hr,hf⟩
def QV:List Res->Option (List (Value × Nat))
 | []=>some []
 | .tail v k::r=>(QV r).map ((v,k)::·)
 | .many ts::r=>(QV r).map (ts++·)
 | _=>none
theorem BZ {b o:Nat}:∀{hs:List Res} {L:List (Value × Nat)},QV hs=some L->((∃p∈L,EO p.1 p.2 b o)↔V9 hs b o)
 | [],L,h=>by cases h;simp [V9]
 | .tail v k::r,L,h=>by
  rw [QV] at h
  cases hr:QV r with
  | none=>rw [hr] at h;cases h
  | some L'=>
   rw [hr] at h
   cases h
   have ih:=BZ (b:=b) (o:=o) hr
   have ht:Res.fp (.tail v k) b o↔EO v k b o:=by
    cases v with
    | slice a _ _=>cases a<;>exact Iff.rfl
    | _=>exact Iff.rfl
   simp only [V9,YF,exists_eq_or_imp] at ih ⊢
   rw [ht,ih]
 | .many ts::r,L,h=>by
  rw [QV] at h
  cases hr:QV r with
  | none=>rw [hr] at h;cases h
  | some L'=>
   rw [hr] at h
   cases h
   have ih:=BZ (b:=b) (o:=o) hr
   simp only [V9,YF,exists_eq_or_imp] at ih ⊢
   rw [<-ih]
   simp only [Xa,Res.fp]
   constructor
   ·rintro ⟨p,hp|hp,hf⟩
    ·exact .inl ⟨p,hp,hf⟩
    ·exact .inr ⟨p,hp,hf⟩
   ·rintro (⟨p,hp,hf⟩|⟨p,hp,hf⟩)
    ·exact ⟨p,.inl hp,hf⟩
    ·exact ⟨p,.inr hp,hf⟩
 | .obj _ _::_,_,h=>by cases h
 | .ge _::_,_,h=>by cases h
 | .vec _ _::_,_,h=>by cases h
 | .own _ _::_,_,h=>by cases h
 | .row _ _ _::_,_,h=>by cases h
theorem HT {w:World} {G:Ya}:∀{hs:List Res} {L:List (Value × Nat)},QV hs=some L->(∀r∈hs,Qf w G r)->hs.Pairwise Af->Qf w G (.many L)
 | [],L,h,_,_=>by cases h;exact ⟨by simp,.nil⟩
 | .tail v k::r,L,h,h1,h2=>by
  rw [QV] at h
  cases hr:QV r with
  | none=>rw [hr] at h;cases h
  | some L'=>
   rw [hr] at h
   cases h
   have hpw:=WT.1 h2
   obtain ⟨i1,i2⟩:=HT (w:=w) (G:=G) hr (fun q hq=>h1 q (XC _ hq)) hpw.2
   refine ⟨fun p hp=>?_,WT.2 ⟨fun p hp b o f1 f2=>?_,i2⟩⟩
   ·rcases YF.1 hp with rfl|hp
    ·exact h1 (.tail v k) (Xl ..)
    ·exact i1 p hp
   ·obtain ⟨q,hq,hf⟩:=(BZ hr).1 ⟨p,hp,f2⟩
    refine hpw.1 q hq b o ?_ hf
    cases v with
    | slice a _ _=>cases a<;>exact f1
    | _=>exact f1
 | .many ts::r,L,h,h1,h2=>by
  rw [QV] at h
  cases hr:QV r with
  | none=>rw [hr] at h;cases h
  | some L'=>
   rw [hr] at h
   cases h
   have hpw:=WT.1 h2
   obtain ⟨i1,i2⟩:=HT (w:=w) (G:=G) hr (fun q hq=>h1 q (XC _ hq)) hpw.2
   obtain ⟨t1,t2⟩:=h1 (.many ts) (Xl ..)
   refine ⟨fun p hp=>?_,JJ.2 ⟨t2,i2,fun p hp q hq b o f1 f2=>?_⟩⟩
   ·rcases Xa.1 hp with hp|hp
    ·exact t1 p hp
    ·exact i1 p hp
   ·obtain ⟨s,hs,hf⟩:=(BZ hr).1 ⟨q,hq,f2⟩
    exact hpw.1 s hs b o ⟨p,hp,f1⟩ hf
 | .obj _ _::_,_,h,_,_=>by cases h
 | .ge _::_,_,h,_,_=>by cases h
 | .vec _ _::_,_,h,_,_=>by cases h
 | .own _ _::_,_,h,_,_=>by cases h
 | .row _ _ _::_,_,h,_,_=>by cases h
theorem Zhx (is:List Nat) {L:List (Value × Nat)} {hs:List Res} (hp:Wp is h=some hs) (hb:QV hs=some L):Tq h (.many L::XL is h):=by
 intro w G hh
 have hp':=Uz (VD hp)
 have hh':=hh.perm hp'
 have hpw:=JJ.1 hh'.apart
 have hmany:=HT (w:=w) (G:=G) hb (fun r hr=>hh'.ok r (Xa.2 (.inl hr))) hpw.1
 refine ⟨G,⟨fun r hr=>?_,WT.2 ⟨fun r hr b o f1 f2=>?_,hpw.2.1⟩,fun r hr b o hf hg=>?_,hh'.lt⟩,
  ⟨rfl,rfl,rfl,X3 _,fun _ _ h=>h,fun _ _=>.inl rfl,fun _ _ _ h=>.inl h,fun b o _ ⟨r,hr,hf⟩=>?_⟩⟩
 ·rcases YF.1 hr with rfl|hr
  ·exact hmany
  ·exact hh'.ok r (Xa.2 (.inr hr))
 ·exact hh'.cross ((BZ hb).1 f1) ⟨r,hr,f2⟩
 ·rcases YF.1 hr with rfl|hr
  ·obtain ⟨q,hq,hf⟩:=(BZ hb).1 hf
   exact hh'.prot q (Xa.2 (.inl hq)) b o hf hg
  ·exact hh'.prot r (Xa.2 (.inr hr)) b o hf hg
 ·refine (Be hp').2 ?_
  rcases YF.1 hr with rfl|hr
  ·exact JY.2 (.inl ((BZ hb).1 hf))
  ·exact JY.2 (.inr ⟨r,hr,hf⟩)
end
end Go.Abs
section
namespace Go.Abs
structure Vp where
 fields:LI
 fv:Value
structure Vq where
 frm:Int
 to_:Int
 cons:List Vp
 cv:Value
mutual
inductive BV where
 | mk (op num into:Int) (args:LI) (av:Value) (kids:List AY) (kv:Value)
inductive AY where
 | mk (steps:List BV) (sv:Value) (result:Int)
end
namespace BV
end BV
namespace AY
end AY
structure EW where
 params:LI
 pv:Value
 lent:LI
 lv:Value
 result:Int
 body:AY
structure MJ where
 decls:List Vq
 dv:Value
 routines:List EW
 rv:Value
abbrev PE (c:Vp):List AV:=[ZQ c.fields c.fv]
abbrev MM (c:Vp):AV:=.agg (PE c)
def Ul (cs:List Vp):List AV:=cs.map MM
abbrev Et (xs:List Vp) (v:Value):AV:=.sl (Ul xs) (some v)
abbrev PF (d:Vq):List AV:=[.i d.frm,.i d.to_,Et d.cons d.cv]
abbrev MN (d:Vq):AV:=.agg (PF d)
def Vo (ds:List Vq):List AV:=ds.map MN
abbrev Zc9 (xs:List Vq) (v:Value):AV:=.sl (Vo xs) (some v)
@[simp] theorem Zj0 (xs:List Vp):(Ul xs).length=xs.length:=by simp [Ul]
theorem Z5j (xs ys:List Vp):Ul (xs++ys)=Ul xs++Ul ys:=by simp [Ul]
theorem NQ (xs:List Vp):∀y∈Ul xs,y.leaves.length=1:=by intro y hy;simp only [Ul,W4] at hy;obtain ⟨x,_,rfl⟩:=hy;rfl
@[simp] theorem Zj1 (xs:List Vq):(Vo xs).length=xs.length:=by simp [Vo]
theorem Z5k (xs ys:List Vq):Vo (xs++ys)=Vo xs++Vo ys:=by simp [Vo]
theorem NR (xs:List Vq):∀y∈Vo xs,y.leaves.length=3:=by intro y hy;simp only [Vo,W4] at hy;obtain ⟨x,_,rfl⟩:=hy;rfl
def E8 (c:Vp):List (Value × Nat):=[(c.fv,1)]
def Qn (cs:List Vp):List (Value × Nat):=cs.flatMap E8
def E9 (d:Vq):List (Value × Nat):=Qn d.cons++[(d.cv,1)]
def QC (ds:List Vq):List (Value × Nat):=ds.flatMap E9
mutual
def Eb:BV->List (Value × Nat)
 | .mk _ _ _ _ av kids kv=>(av,1)::(K3 kids++[(kv,2)])
def CZ:AY->List (Value × Nat)
 | .mk steps sv _=>K4 steps++[(sv,5)]
def K4:List BV->List (Value × Nat)
 | []=>[]
 | s::r=>Eb s++K4 r
def K3:List AY->List (Value × Nat)
 | []=>[]
 | b::r=>CZ b++K3 r
end
def Ea (r:EW):List (Value × Nat):=(r.pv,1)::(r.lv,1)::CZ r.body
def AE (rs:List EW):List (Value × Nat):=rs.flatMap Ea
def FX (n:MJ):List (Value × Nat):=QC n.decls++((n.dv,3)::(AE n.routines++[(n.rv,5)]))
theorem Ec:∀(xs:List BV) (ys:List BV),K4 (xs++ys)=K4 xs++K4 ys
 | [],ys=>by simp [K4]
 | x::r,ys=>by rw [QQ,K4,K4,Ec r ys,UN]
theorem E7:∀(xs:List AY) (ys:List AY),K3 (xs++ys)=K3 xs++K3 ys
 | [],ys=>by simp [K3]
 | x::r,ys=>by rw [QQ,K3,K3,E7 r ys,UN]
theorem FZ:K4 []=[]:=by rw [K4]
theorem FU:K3 []=[]:=by rw [K3]
theorem FV (xs ys:List Vp):Qn (xs++ys)=Qn xs++Qn ys:=by simp [Qn]
theorem FW (xs ys:List Vq):QC (xs++ys)=QC xs++QC ys:=by simp [QC]
theorem FY (xs ys:List EW):AE (xs++ys)=AE xs++AE ys:=by simp [AE]
def Vp.er (c:Vp):Yh:=⟨c.fields⟩
def Vq.er (d:Vq):Zg:=⟨d.frm,d.to_,d.cons.map Vp.er⟩
inductive Qz:List AV->List AV->Prop
 | nil:Qz [] []
 | cons {x y:AV} {xs ys:List AV} (hl:x.leaves.length=y.leaves.length) (h:VF x.leaves y.leaves) (t:Qz xs ys):Qz (x::xs) (y::ys)
theorem Qz.length:∀{xs ys:List AV},Qz xs ys->xs.length=ys.length
 | _,_,.nil=>rfl
 | _,_,.cons _ _ t=>by simp [t.length]
theorem Qz.els {w:World} {G:Ya} {k b:Nat}:∀{o:Nat} {xs ys:List AV},Qz xs ys->V7 w G k b o xs->V7 w G k b o ys
 | _,_,_,.nil,_=>.nil
 | _,_,_,.cons hl h t,.cons hk hm r=>.cons (hl▸hk) (h.mem hm) (t.els r)
theorem Zc.els {es es':List AV} (hv:Option Value) (h:Qz es es'):Zc (.sl es hv) (.sl es' none):=by
 intro w G v hr
 cases hr with
 | nil _=>cases h;exact .nil (by simp)
 | sl _ hc hm=>rw [h.length] at hc ⊢;exact .sl (by simp) hc (h.els hm)
theorem Qz.map {α β:Type} {f:α->AV} {g:β->AV} {e:α->β} (h:∀x,(f x).leaves.length=(g (e x)).leaves.length/\VF (f x).leaves (g (e x)).leaves):∀xs:List α,Qz (xs.map f) ((xs.map e).map g)
 | []=>.nil
 | x::r=>.cons (h x).1 (h x).2 (Qz.map h r)
theorem Zbu (c:Vp):VF (PE c) (Dd c.er):=.cons (Zc.forget _ _) .nil
theorem Z5y (cs:List Vp):Qz (Ul cs) (XO (cs.map Vp.er)):=Qz.map (f:=MM) (g:=Cx) (e:=Vp.er) (fun c=>⟨rfl,Zbu c⟩) cs
theorem Zbv (d:Vq):VF (PF d) (TP d.er):=.cons (Zc.refl _) (.cons (Zc.refl _) (.cons (Zc.els _ (Z5y _)) .nil))
theorem Z5z (ds:List Vq):Qz (Vo ds) (YA (ds.map Vq.er)):=Qz.map (f:=MN) (g:=Ah) (e:=Vq.er) (fun c=>⟨rfl,Zbv c⟩) ds
theorem Q8 {es:List AV} {k:Nat} (h:es.all (fun y=>Nat.beq y.leaves.length k)=true):∀y∈es,y.leaves.length=k:=fun y hy=>UO (JI.1 h y hy)
abbrev rK (g:Hd) (k:Nat) (ls:List AV):Res:=.row g.v k ls
section
variable {P:Program} {n:Nat} {c:Code} {A:V1} {F:Fr} {h:List Res} {ops:Array Oper} {B:Fr->List Res->Prop} {k:Nat}
variable {T:List (Nat × List Nat)} {fuel:Nat} {done:List Nat}
theorem tB (is:List Nat) (hs:List Res) (L' L:List (Value × Nat)) (e:L'=L) (hp:Wp is h=some hs:=by kernel_rfl) (hb:QV hs=some L':=by kernel_rfl):Tq h (.many L::XL is h):=e▸Zhx is hp hb
theorem rr {v:Value} {q:Nat} {ls ls':List AV} {t t':List Res} (h:ls=ls') (e:t=t'):Res.row v q ls::t=.row v q ls'::t':=h▸e▸rfl
theorem Pm (j m:Nat) (v:Hd) (kk:Nat) (ls:List AV) (hm:ls.length=m*kk) (hk:0<kk:=by omega) (hl:De P ops F k=some (.h v):=by kernel_rfl) (hj:h[j]? = some (rK v kk ls):=by kernel_rfl):Xx P (ZA ops k) F h [] (.i m):=
 Zhc j hl hj hm hk
theorem W8 (b l c' q sz:Nat) (j:Int) (hq:j=(q:Int)/\q<l:=by omega) (hi:Bl P ops F k=some (.val (.slice (some ⟨b,0,none⟩) l c'),j,sz):=by kernel_rfl):Xx P (ZA ops k) F h [] (.val (.pointer (some ⟨b,q*sz,none⟩))):=by
 have:=Z08 (P:=P) (F:=F) (h:=h) hi om om
 rw [hq.1,Uh,Vm] at this
 exact this
theorem Vl (j g len cap kk o:Nat) (ls zs:List AV) (t:TypeId) (y:AV) (hz:(ls.drop o).take zs.length=zs) (hl:Lk ops F k=some (t,.val (.pointer (some ⟨g,o,none⟩))):=by kernel_rfl) (hj:h[j]? = some (.row (.slice (some ⟨g,0,none⟩) len cap) kk ls):=by kernel_rfl)
  (hy:AH P t zs=some y:=by kernel_rfl):Xx P (ZA ops k) F h [g] y:=Zhd j hl hj hz hy
theorem D4 (j g len cap kk o:Nat) (xs ls:List AV) (ls':List AV) (hlt:o+xs.length<=ls.length) (he:ls.take o++xs++ls.drop (o+xs.length)=ls') (H:SI P n ops B (k+1) F (.row (.slice (some ⟨g,0,none⟩) len cap) kk ls'::XL [j] h)) (hk:X9 n ops F k=true:=by kernel_rfl)
  (hs:storeAt P ops F k=some (g,o,xs):=by kernel_rfl) (hp:Wp [j] h=some [.row (.slice (some ⟨g,0,none⟩) len cap) kk ls]:=by kernel_rfl):SI P n ops B k F h:=
 Q1 hk (WE.perm (Uz (VD hp)) (Rn hs hlt (by rw [he];exact H)))
theorem An (i j:Nat) (js bs:List Nat) (g len cap kk o:Nat) (xs ls:List AV) (ls':List AV) (hlt:o+xs.length<=ls.length) (he:ls.take o++xs++ls.drop (o+xs.length)=ls')
  (H:YV P n ops B (T.filter fun t=>!V8 ops i t.1) fuel (done++[i]) F (.row (.slice (some ⟨g,0,none⟩) len cap) kk ls'::XL [j] h)) (hk:X9 n ops F i=true:=by kernel_rfl)
  (hs:storeAt P ops F i=some (g,o,xs):=by kernel_rfl) (hp:Wp [j] h=some [.row (.slice (some ⟨g,0,none⟩) len cap) kk ls]:=by kernel_rfl) (ho:Ud ops i T=bs:=by kernel_rfl)
  (hj:js.map (fun q=>(WK (XL [j] h))[q]?)=bs.map some:=by kernel_rfl):Vv P n ops B T fuel done F h i:=
 Kx [j] js bs hk (VD hp) ho hj (Rn (h2:=[]) hs hlt (by rw [he];exact H))
theorem Bk (sz:Nat) (hK:∀g,SI P n ops B (k+1) (F.put (ZA ops k).dst (.val (.slice (some ⟨g,0,none⟩) 0 0))) (.row (.slice (some ⟨g,0,none⟩) 0 0) sz []::h)) (hk:X9 n ops F k=true:=by kernel_rfl)
  (ha:TQ P ops F k=some ([],0,sz):=by kernel_rfl):SI P n ops B k F h:=Q1 hk (Zco (VT hk).2.1 ha hK)
theorem Ef (j g sz:Nat) (xs:List AV) (hx:Option Value) (hxs:∀y∈xs,y.leaves.length=sz) (hbound:xs.length<=4294967296) (hK:∀v:Hd,SI P n ops B (k+1) (F.put (ZA ops k).dst (.h v)) (rK v sz (Zf xs)::XL [j] h))
  (hk:X9 n ops F k=true:=by kernel_rfl) (ha:UQ P ops F k=some (.val (.slice (some ⟨g,0,none⟩) 0 0),.sl xs hx,sz):=by kernel_rfl) (hp:Wp [j] h=some [.row (.slice (some ⟨g,0,none⟩) 0 0) sz []]:=by kernel_rfl):SI P n ops B k F h:=
 Q1 hk (WE.perm (Uz (VD hp)) (Zcm (VT hk).2.1 ha hxs hbound hK))
theorem Pi (j m:Nat) {v:Hd} {kk:Nat} {ls:List AV} (hm:ls.length=m*kk) (h0:0<m) (H:∀g c',v=⟨some ⟨g,0,none⟩,m,c'⟩->Yw P n c A F h) (hk:0<kk:=by omega) (hj:h[j]? = some (rK v kk ls):=by kernel_rfl):Yw P n c A F h:=
 Z1q j m hj hm hk h0 H
theorem Pl (t j:Nat) {v:Hd} {kk:Nat} (es:List AV) (hes:∀y∈es,y.leaves.length=kk) (H:Yw P n c A ((t,.sl es (some v.v))::F) (.tail v.v kk::XL [j] h)) (hk:0<kk:=by omega) (hF':F.get t=.h v:=by kernel_rfl)
  (hp:Wp [j] h=some [rK v kk (Zf es)]:=by kernel_rfl):Yw P n c A F h:=Z1p t j hF' hp hes hk H
theorem Zht (j i p:Nat) (u v:Value) (kk kv:Nat) (es ls:List AV) (hes:∀y∈es,y.leaves.length=kk) (hl:ls[p]? = some (.val u)) (hk:0<kk:=by omega) (hp:Wp [j,i] h=some [.row u kk (Zf es),.row v kv ls]:=by kernel_rfl) :
  Tq h (.row v kv (ls.set p (.sl es (some u)))::.tail u kk::XL [j,i] h):=Z0r j i p hp hes hk hl
theorem EF {A xs ys B:List AV} {o:Nat} (hA:A.length=o) (hl:xs.length=ys.length):(A++(xs++B)).take o++ys++(A++(xs++B)).drop (o+ys.length)=A++(ys++B):=by
 subst hA
 rw [Aa,<-hl,<-List.drop_drop,List.drop_left,List.drop_left,UN]
theorem LX {A xs B:List AV} {o:Nat} (hA:A.length=o):((A++(xs++B)).drop o).take xs.length=xs:=by
 subst hA
 rw [List.drop_left,Aa]
theorem UF (xs ys:List AV):Zf (xs++ys)=Zf xs++Zf ys:=by simp [Zf]
theorem Z6g:Zf []=[]:=rfl
theorem Dv (j:Nat) (v:Value) (q:Nat) (ls ls':List AV) (e:ls=ls') (hp:Wp [j] h=some [.row v q ls]:=by kernel_rfl):Tq h (.row v q ls'::XL [j] h):=by
 subst e
 intro w G hh
 have hp':=Uz (VD hp)
 exact ⟨G,hh.perm hp',(YW.refl w G h).perm (Qw _) hp'⟩
end
end Go.Abs
end
section
namespace Go.Abs
theorem Yx.rgrow {w:World} {G:Ya} {h2:List Res} {g len len' cap k:Nat} {ls ls':List AV} (hh:Yx w G (.row (.slice (some ⟨g,0,none⟩) len cap) k ls::h2)) {cs cs':Array Value} {e:TypeId}
  (hb:w.heap[g]? = some (.cells cs e (0,0))) (Xo:cs'.size=cs.size) (hle:len'<=cap) (hcap:cs.size=cap*k) (hl:ls'.length=len'*k) (hls:YT w G ls' (cs'.toList.take (len'*k))) :
  Yx (w.setRow g cs') G (.row (.slice (some ⟨g,0,none⟩) len' cap) k ls'::h2) /\
   YW w G (.row (.slice (some ⟨g,0,none⟩) len cap) k ls::h2) (w.setRow g cs') G (.row (.slice (some ⟨g,0,none⟩) len' cap) k ls'::h2):=by
 have hmem:Res.row (.slice (some ⟨g,0,none⟩) len cap) k ls∈Res.row (.slice (some ⟨g,0,none⟩) len cap) k ls::h2:=Xl ..
 have hA:VY G w (w.setRow g cs') G:=⟨fun c j hg=>by
  have hne:c≠g:=fun he=>hh.prot _ hmem c j he hg
  simp [World.cell?,VU w g c cs' hne],fun _ _ h=>h⟩
 have e1:YW w G [.row (.slice (some ⟨g,0,none⟩) len cap) k ls] (w.setRow g cs') G [.row (.slice (some ⟨g,0,none⟩) len' cap) k ls']:=by
  refine ⟨rfl,rfl,rfl,by simp [World.setRow],fun _ _ h=>h,?_,fun _ _ _ h=>.inl h,?_⟩
  ·intro c hc
   by_cases hcb:c=g
   ·subst hcb
    exact .inr ⟨cs,cs',e,(0,0),hb,setRow_heap w c cs cs' e (0,0) hb,Xo,fun j hj=>absurd ⟨_,Xl ..,rfl⟩ hj⟩
   ·exact .inl (VU w g c cs' hcb)
  ·rintro c j _ ⟨r,hr,hf⟩
   rw [XD.1 hr] at hf
   exact ⟨_,Xl ..,hf⟩
 have e2:Yx (w.setRow g cs') G [.row (.slice (some ⟨g,0,none⟩) len' cap) k ls']:=by
  refine ⟨fun r hr=>?_,BN _ _,fun r hr c j hf hg=>?_,fun c j hg=>?_⟩
  ·rw [XD.1 hr]
   exact .inr ⟨g,len',cap,cs',e,rfl,setRow_heap w g cs cs' e (0,0) hb,hle,Xo.trans hcap,hl,hls.mono hA⟩
  ·rw [XD.1 hr] at hf
   exact hh.prot _ hmem c j hf hg
  ·have:=hh.lt c j hg
   simpa [World.setRow] using this
 exact Yx.frame (h:=[.row (.slice (some ⟨g,0,none⟩) len cap) k ls]) (k:=h2) hh e1 e2
section
variable {P:Program} {n:Nat} {ops:Array Oper} {k:Nat} {F:Fr} {h2:List Res}
theorem Rl {K:Fr->List Res->Prop} {v:Hd} {sz m:Nat} {ls xs:List AV} {hx:Option Value} (hd:Vw n (ZA ops k)=true) (ha:UQ P ops F k=some (.val v.v,.sl xs hx,sz))
  (hxs:∀y∈xs,y.leaves.length=sz) (hone:(Zf xs).all AV.one=true) (hm0:ls.length=m*sz) (hk0:0<sz) (hne:xs≠[]) (hbound:m+xs.length<=4294967296)
  (hK:∀v':Hd,K (F.put (ZA ops k).dst (.val v'.v)) (.row v'.v sz (ls++Zf xs)::h2)):WE P n (ZA ops k) F (.row v.v sz ls::h2) K:=by
 unfold UQ at ha
 generalize hoo:ZA ops k=o at ha hd hK
 obtain ⟨dst,op,type,pos,after,guard⟩:=o
 cases op<;>simp only at ha<;>try (cases ha)
 rename_i c
 obtain ⟨callee,args,tys⟩:=c
 simp only at ha
 split at ha
 case h_2=>cases ha
 rename_i s x t t' hargs htys
 split at ha
 case h_2=>cases ha
 rename_i e htt ht
 have:=UO htt
 subst this
 split at ha
 case h_2=>cases ha
 rename_i i hinfo
 split at ha
 case h_2=>cases ha
 rename_i z hz
 split at ha
 case h_2=>cases ha
 rename_i hb
 simp only [W7] at hb
 simp only [Wi,Prod.mk.injEq] at ha
 obtain ⟨h3,h4,hk1⟩:=ha
 have e1:args=#[s,x]:=by rw [<-Ug (xs:=args),hargs]
 have e2:tys=#[t,t]:=by rw [<-Ug (xs:=tys),htys]
 subst e1;subst e2
 have hzs:z.cells.size=sz:=by rw [UO hb.1,hk1]
 have hby:=Vf hb.2
 have hfl:=UW xs hxs
 intro Q w G a hF hh
 have v1:=hF.ev s
 have v2:=hF.ev x
 rw [h3] at v1
 rw [h4] at v2
 have v1:=v1.val_inv
 have v2:=v2.forget
 have finish:∀(v':Hd) w',(Builtin.append_ #[t,t] type #[v.v,a.eval x]).run P w=.ok v'.v w'->Yx w' G (.row v'.v sz (ls++Zf xs)::h2)->YW w G (.row v.v sz ls::h2) w' G (.row v'.v sz (ls++Zf xs)::h2) ->
   ({ dst:=dst,op:=.call { callee:=.builtin .append,args:=#[s,x],argTypes:=#[t,t] },type:=type,pos:=pos,after:=after,guard:=guard }:Oper).wp P a w
    (fun a' w'=>∃F' h' G',K F' h'/\FR w' G' n F' a'/\Yx w' G' h'/\YW w G (.row v.v sz ls::h2) w' G' h') Q:=by
  intro v' w' hr j1 j2
  have hrun:(execOp a.eval { dst:=dst,op:=.call { callee:=.builtin .append,args:=#[s,x],argTypes:=#[t,t] },type:=type,pos:=pos,after:=after,guard:=guard }).run P w=.ok (.value v'.v) w':=by
   simp only [execOp,resolve,invoke,builtin,Sem.run_bind,Sem.run_pure,Result.andThen_ok,BM,Ut,BL,v1,hr]
  unfold Oper.wp
  rw [hrun]
  exact ⟨_,_,G,hK v',(hF.mono (j2.agree hh)).put (Ta hd) .val,j1,j2⟩
 have hrow0:=hh.ok (.row v.v sz ls) (Xl ..)
 have hsub2:∀r:Res,List.Sublist (r::h2) (r::.row v.v sz ls::h2):=fun r=>List.Sublist.cons_cons _ (BO _ _)
 have grown:∀(olds news:List Value) (old:Nat),YT w G ls olds->YT w G (Zf xs) news ->
   Yx (w.drew.alloc (.cells (olds.toArray++news.toArray++Builtin.zeroCells z.cells (grownCap w (m+xs.length) old e-(m+xs.length))) e)) G
    (.row (.slice (some ⟨w.heap.size,0,none⟩) (m+xs.length) (grownCap w (m+xs.length) old e)) sz (ls++Zf xs)::h2) /\
   YW w G (.row v.v sz ls::h2) (w.drew.alloc (.cells (olds.toArray++news.toArray++Builtin.zeroCells z.cells (grownCap w (m+xs.length) old e-(m+xs.length))) e)) G
    (.row (.slice (some ⟨w.heap.size,0,none⟩) (m+xs.length) (grownCap w (m+xs.length) old e)) sz (ls++Zf xs)::h2):=by
  intro olds news old ho hn
  have Xh:=grownCap_ge w (m+xs.length) old e
  have hol:=ho.length
  have hnl:=hn.length
  have hlen:(ls++Zf xs).length=(m+xs.length)*sz:=by rw [Yr,hm0,hfl,Qx]
  obtain ⟨j1,j2⟩:=hh.drew.alloc_rrow (olds.toArray++news.toArray++Builtin.zeroCells z.cells (grownCap w (m+xs.length) old e-(m+xs.length))) e
   (ls:=ls++Zf xs) (len:=m+xs.length) (cap:=grownCap w (m+xs.length) old e) (k:=sz) Xh
   (by
    have q2:(grownCap w (m+xs.length) old e-(m+xs.length))*sz=grownCap w (m+xs.length) old e*sz-(m+xs.length)*sz:=Nat.sub_mul ..
    have q3:(m+xs.length)*sz<=grownCap w (m+xs.length) old e*sz:=QR _ Xh
    have q4:(m+xs.length)*sz=m*sz+xs.length*sz:=Qx ..
    simp only [Array.size_append,DB,size_zeroCells,hzs,hol,hnl,hm0,hfl]
    omega) hlen
   (by
    have:(olds.toArray++news.toArray++Builtin.zeroCells z.cells (grownCap w (m+xs.length) old e-(m+xs.length))).toList.take ((m+xs.length)*sz)=olds++news:=by
     simp only [Dz]
     rw [<-hlen,Yr,<-hol,<-hnl,<-Yr]
     exact Aa
    rw [this]
    exact (ho.append hn).mono (B4 w G))
  exact ⟨j1.sub (hsub2 _),(YW.drew w G _).trans (j2.sub' (hsub2 _))⟩
 generalize hax:a.eval x=ax at v2 finish
 cases v2 with
 | nil _=>exact absurd rfl hne
 | sl hq hcc hm=>
  rename_i b o' k' c
  have hpos:0<xs.length:=Ht.2 hne
  have hfm:=hm.flat_mem
  obtain ⟨news,hn,hnc⟩:=hfm.cells
  have hnl:news.length=xs.length*i.size:=by rw [hn.length,hfl,hk1]
  have hone':=hn.one_cells hone
  have hnews:∀j u,news[j]? = some u->w.cell? ((⟨b,o',none⟩:Addr).add j)=some u:=fun j u hj=>by rw [KU];exact (hnc j u hj).1
  have hbb:(m+xs.length)*i.bytes<=140737488355328:=by
   have:=Nat.mul_le_mul hbound hby
   omega
  rcases hrow0 with ⟨hv0,hl0⟩|⟨g,len,cap,cur,el,hv0,hrow,hlc,hcur,hll,hcells⟩
  ·subst hl0
   have hm1:m=0:=by
    have:m*sz=0:=by simpa using hm0.symm
    rcases Nat.mul_eq_zero.1 this with h|h
    ·exact h
    ·omega
   subst hm1
   rw [hv0] at finish hh ⊢
   have hr:=run_append_nil (P:=P) w t type e i z ht hinfo hz ⟨b,o',none⟩ xs.length c news hnl hnews hpos om (by simp only [Vm] at hbb;omega)
   obtain ⟨j1,j2⟩:=grown [] news 0 .nil hn
   simp only [Vm,Array.empty_append,Cv] at j1 j2
   rw [hv0] at j2
   exact finish ⟨some ⟨w.heap.size,0,none⟩,xs.length,grownCap w xs.length 0 e⟩ _ hr (by simpa using j1) (by simpa using j2)
  ·have hlm:len=m:=Hv hk0 (hll.symm.trans hm0)
   subst hlm
   rw [hv0] at finish hh ⊢
   have q5:len*sz<=cap*sz:=QR _ hlc
   have h1:(cur.toList.take (len*sz)).length=len*sz:=by rw [WM,KL,hcur,VO q5]
   have hcl:cur.toList.length=cap*sz:=by rw [KL,hcur]
   by_cases hroom:len+xs.length<=cap
   ·have q1:(len+xs.length)*sz<=cap*sz:=QR _ hroom
    have q2:(len+xs.length)*sz=len*sz+xs.length*sz:=Qx ..
    have hfit:len*i.size+news.length<=cur.size:=by rw [hnl,hcur,hk1];omega
    have hr:=GK (P:=P) w t type e el i ht hinfo g len cap cur hrow ⟨b,o',none⟩ xs.length c news hnl hnews hone' hroom hfit
    rw [hk1] at hr
    have hnl':news.length=xs.length*sz:=by rw [hnl,hk1]
    obtain ⟨j1,j2⟩:=hh.rgrow (ls':=ls++Zf xs) (len':=len+xs.length) (cs':=(cur.toList.take (len*sz)++news++cur.toList.drop (len*sz+news.length)).toArray) hrow
     (by simp only [DB,Yr,h1,hnl',A9,hcl,hcur];omega) hroom hcur (by rw [Yr,hll,hfl,q2]) (by
      have:(cur.toList.take (len*sz)++news++cur.toList.drop (len*sz+news.length)).toArray.toList.take ((len+xs.length)*sz)=cur.toList.take (len*sz)++news:=by
       rw [DC,q2,<-hnl']
       conv=>lhs;arg 1;rw [show len*sz+news.length=(cur.toList.take (len*sz)++news).length from by rw [Yr,h1]]
       exact Aa
      rw [this]
      exact hcells.append hn)
    exact finish ⟨some ⟨g,0,none⟩,len+xs.length,cap⟩ _ hr j1 j2
   ·have hr:=run_append_grow (P:=P) w t type e i z ht hinfo hz ⟨g,0,none⟩ len cap (cur.toList.take (len*sz)) (by rw [hk1];exact h1) (fun j u hj=>by
     rw [KU,cell_of_row w g _ cur el (0,0) hrow]
     rw [Q2] at hj
     split at hj
     ·simpa using hj
     ·cases hj) ⟨b,o',none⟩ xs.length c news hnl hnews om om (growslice_fits om hbb)
    obtain ⟨j1,j2⟩:=grown (cur.toList.take (len*sz)) news cap hcells hn
    rw [hv0] at j2
    exact finish ⟨some ⟨w.heap.size,0,none⟩,len+xs.length,grownCap w (len+xs.length) cap e⟩ _ hr j1 j2
end
section
variable {P:Program} {n:Nat} {ops:Array Oper} {B:Fr->List Res->Prop} {k:Nat} {F:Fr} {h:List Res}
theorem G4 (j m:Nat) (v:Hd) (sz:Nat) (ls xs:List AV) (hx:Option Value) (hm0:ls.length=m*sz) (hxs:∀y∈xs,y.leaves.length=sz) (hone:(Zf xs).all AV.one=true) (hne:xs≠[]) (hbound:m+xs.length<=4294967296)
  (hK:∀v':Hd,SI P n ops B (k+1) (F.put (ZA ops k).dst (.h v')) (rK v' sz (ls++Zf xs)::XL [j] h)) (hk0:0<sz:=by omega)
  (hk:X9 n ops F k=true:=by kernel_rfl) (ha:UQ P ops F k=some (.h v,.sl xs hx,sz):=by kernel_rfl) (hp:Wp [j] h=some [rK v sz ls]:=by kernel_rfl):SI P n ops B k F h:=
 Q1 hk (WE.perm (Uz (VD hp)) (Rl (VT hk).2.1 ha hxs hone hm0 hk0 hne hbound hK))
end
end Go.Abs
namespace Go.Abs
section
variable {P:Program} {n:Nat} {ops:Array Oper} {B:Fr->List Res->Prop} {T:List (Nat × List Nat)} {fuel:Nat} {done:List Nat} {F:Fr} {h:List Res}
theorem I1 (i j m:Nat) (js bs:List Nat) (v:Hd) (sz:Nat) (ls xs:List AV) (hx:Option Value) (hm0:ls.length=m*sz) (hxs:∀y∈xs,y.leaves.length=sz) (hone:(Zf xs).all AV.one=true) (hne:xs≠[]) (hbound:m+xs.length<=4294967296)
  (hK:∀v':Hd,YV P n ops B (T.filter fun t=>!V8 ops i t.1) fuel (done++[i]) (F.put (ZA ops i).dst (.h v')) (rK v' sz (ls++Zf xs)::XL [j] h)) (hk0:0<sz:=by omega) (hk:X9 n ops F i=true:=by kernel_rfl)
  (ha:UQ P ops F i=some (.h v,.sl xs hx,sz):=by kernel_rfl) (hp:Wp [j] h=some [rK v sz ls]:=by kernel_rfl) (ho:Ud ops i T=bs:=by kernel_rfl)
  (hj:js.map (fun q=>(WK (XL [j] h))[q]?)=bs.map some:=by kernel_rfl):Vv P n ops B T fuel done F h i:=
 Kx [j] js bs hk (VD hp) ho hj (Rl (h2:=[]) (VT hk).2.1 ha hxs hone hm0 hk0 hne hbound hK)
end
theorem Wv.form {P:Program} {f:FuncId} {as1:List AV} {h0:List Res} {T:Hd->AV} {kk m:Nat} {ls:List AV} {hs:List Res} (H:Wv P f as1 h0 (fun r h=>∃v:Hd,r=T v/\h=rK v kk ls::hs)) (hm:ls.length=m*kk) (hk:0<kk) (h1:0<m) :
  Wv P f as1 h0 (fun r h=>∃(g c:Nat),r=T ⟨some ⟨g,0,none⟩,m,c⟩/\h=rK ⟨some ⟨g,0,none⟩,m,c⟩ kk ls::hs):=by
 intro w G vs hv hh
 refine (H w G vs hv hh).mono ?_
 rintro e w' ⟨u,r,h',G',he,⟨v,rfl,rfl⟩,hr,hh',hx⟩
 obtain ⟨g,c,rfl⟩:=LV (hh'.ok _ (Xl ..)) hm hk h1
 exact ⟨u,_,_,G',he,⟨g,c,rfl,rfl⟩,hr,hh',hx⟩
end Go.Abs
namespace Go.Abs
section
variable {h:List Res}
theorem Zhy (j i p:Nat) {u:Value} {kk b:Nat} {es ls:List AV} (hp:Wp [j,i] h=some [.row u kk (Zf es),.obj b ls]) (hes:∀y∈es,y.leaves.length=kk) (hk:0<kk) (hl:ls[p]? = some (.val u)) :
  Tq h (.obj b (ls.set p (.sl es (some u)))::.tail u kk::XL [j,i] h):=by
 intro w G hh
 have hp':=Uz (VD hp)
 have hh':=hh.perm hp'
 obtain ⟨G',h1,h2',h3⟩:=Cm (h2:=.obj b ls::XL [j,i] h) hh' hes hk
 have e:=h2'.perm hp'.symm (Qw _)
 have h1:Yx w G' (.tail u kk::.obj b ls::XL [j,i] h):=h1
 have perm:(Res.tail u kk::.obj b ls::XL [j,i] h).Perm (.obj b ls::.tail u kk::XL [j,i] h):=List.Perm.swap ..
 have h4:=h1.perm perm
 have e4:=e.perm (Qw _) perm
 have hset:∀{w:World} {G:Ya},RV w G (.sl es (some u)) u->Qf w G (.obj b ls)->Qf w G (.obj b (ls.set p (.sl es (some u)))):=by
  intro w G hu hr
  obtain ⟨cs,el,k1,k5⟩:=hr
  refine ⟨cs,el,k1,?_⟩
  obtain ⟨c,c1,c2⟩:=k5.get p _ hl
  have:=c2.val_inv
  subst this
  have h6:=k5.set p hu
  rwa [show cs.toList.set p c=cs.toList from by
   apply List.ext_getElem?
   intro q
   rw [List.getElem?_set]
   split
   ·rename_i hq;subst hq;split
    ·exact c1.symm
    ·rename_i hq2;rw [ME om]
   ·rfl] at h6
 refine ⟨G',⟨fun r hr=>?_,?_,fun r hr=>?_,h4.lt⟩,⟨e4.os,e4.tape,e4.output,e4.size,e4.sub,e4.same,e4.newG,fun b' o hb ⟨r,hr,hf⟩=>e4.newfp b' o hb ?_⟩⟩
 ·rcases YF.1 hr with rfl|hr
  ·exact hset h3 (h4.ok _ (Xl ..))
  ·exact h4.ok r (XC _ hr)
 ·have:=WT.1 h4.apart
  exact WT.2 ⟨fun r hr b' o f1 f2=>this.1 r hr b' o f1 f2,this.2⟩
 ·rcases YF.1 hr with rfl|hr
  ·exact fun b' o f1 hg=>h4.prot (.obj b ls) (Xl ..) b' o f1 hg
  ·exact h4.prot r (XC _ hr)
 ·rcases YF.1 hr with rfl|hr
  ·exact ⟨.obj b ls,Xl ..,hf⟩
  ·exact ⟨r,XC _ hr,hf⟩
theorem TH (j i p:Nat) (u:Value) (kk b:Nat) (es ls:List AV) (hes:∀y∈es,y.leaves.length=kk) (hl:ls[p]? = some (.val u)) (hk:0<kk:=by omega) (hp:Wp [j,i] h=some [.row u kk (Zf es),.obj b ls]:=by kernel_rfl) :
  Tq h (.obj b (ls.set p (.sl es (some u)))::.tail u kk::XL [j,i] h):=Zhy j i p hp hes hk hl
end
end Go.Abs
namespace Go.Abs
section
variable {P:Program} {n:Nat} {ops:Array Oper} {k:Nat} {F:Fr} {h:List Res}
theorem Zhe (j:Nat) {g l c m kk:Nat} {ls:List AV} (hi:Dr P ops F k=some (.val (.slice (some ⟨g,0,none⟩) l c),(m:Int))) (hj:h[j]? = some (.row (.slice (some ⟨g,0,none⟩) l c) kk ls)) (hle:m<=l) :
  Xx P (ZA ops k) F h [] (.val (.slice (some ⟨g,0,none⟩) m c)):=by
 unfold Dr at hi
 generalize hoo:ZA ops k=o at hi
 obtain ⟨dst,op,type,pos,after,guard⟩:=o
 cases op<;>simp only at hi<;>try (cases hi)
 rename_i t x lo hi' mx
 cases lo with
 | some _=>simp at hi
 | none=>
  cases hi' with
  | none=>simp at hi
  | some y=>
   cases mx with
   | some _=>simp at hi
   | none=>
    simp only at hi
    split at hi
    ·rename_i e ht
     split at hi
     ·rename_i inf hinf
      split at hi
      ·rename_i ik m' hm
       simp only [Wi,Prod.mk.injEq] at hi
       obtain ⟨hx,rfl⟩:=hi
       intro n w G a hF hh
       have v1:=hF.ev x
       rw [hx] at v1
       have v1:=v1.val_inv
       have v2:=hF.ev y
       rw [hm] at v2
       have v2:=v2.val_inv
       have hcap:l<=c:=by
        rcases hh.ok _ (ZZ hj) with ⟨h0,_⟩|⟨g',l',c',cur,el,h0,_,hc,_⟩
        ·cases h0
        ·cases h0;exact hc
       refine ⟨_,.val,fun w' _ _=>?_⟩
       simp only [execOp,v1,v2,BR,Option.map_none]
       refine Vc ?_
       simp only [Instr.sliceAt,Sem.run_bind,Vt ht,Result.andThen_ok,Instr.slice]
       have hmm:(Instr.sliceBounds true l c none (some (.int ik (m:Int))) none).run P w'=.ok (0,m,c) w':=by
        have ZB:=fun q=>Dp (P:=P) (c:=q) (v:=.int ik (m:Int)) (y:=c) rfl om om w'
        simp [Instr.sliceBounds,ZB]
       rw [hmm]
       have hz:∀a:Addr,a.add 0=a:=fun a=>by simp [Addr.add]
       simp only [Result.andThen_ok,Qu hinf,Nat.zero_mul,hz]
       by_cases h0:c=0<;>simp [h0]
      ·cases hi
     ·cases hi
    ·cases hi
theorem L4 (j g l c m kk:Nat) (ls:List AV) (hle:m<=l:=by omega) (hi:Dr P ops F k=some (.val (.slice (some ⟨g,0,none⟩) l c),(m:Int)):=by kernel_rfl) (hj:h[j]? = some (.row (.slice (some ⟨g,0,none⟩) l c) kk ls):=by kernel_rfl) :
  Xx P (ZA ops k) F h [] (.val (.slice (some ⟨g,0,none⟩) m c)):=Zhe j hi hj hle
variable {B:Fr->List Res->Prop}
end
end Go.Abs
end
namespace Go.Abs
theorem Y7 {α:Type} {xs:List α} {k:Nat} {x:α} (h:xs[k]? = some x):xs.drop k=x::xs.drop (k+1):=by
 have hk:=(Xk.1 h).1
 rw [Z1e hk]
 congr 1
 rw [KN hk] at h
 exact Q3 h
theorem Xf {α:Type} {xs:List α} {k:Nat} (h:xs.length<=k):xs.drop k=[]:=Hr h
theorem WS {α:Type} {xs:List α} {k:Nat} {x:α} (h:xs[k]? = some x):xs.take (k+1)=xs.take k++[x]:=by
 rw [List.take_add_one,h];rfl
def YN:List Zg->Nat
 | []=>0
 | d::ds=>d.cons.length+YN ds
theorem DP (xs ys:List Zg):YN (xs++ys)=YN xs+YN ys:=by
 induction xs with
 | nil=>simp [YN]
 | cons d ds ih=>simp [YN,ih];omega
structure Ws (ds:List Zg):Prop where
 len:ds.length<=4
 cons:∀d∈ds,d.cons.length<=3
 fields:∀d∈ds,∀c∈d.cons,c.fields.length<=3
theorem Z45 {ds:List Zg} {m:Nat} (h:∀d∈ds,d.cons.length<=m):YN ds<=ds.length*m:=by
 induction ds with
 | nil=>simp [YN]
 | cons d ds ih=>
  have h1:=h d (by simp)
  have h2:=ih (fun x hx=>h x (by simp [hx]))
  simp only [YN,YS,Qx];omega
theorem Ws.sum {ds:List Zg} (h:Ws ds):YN ds<=12:=by
 have:=Z45 h.cons
 have:=h.len
 have:ds.length*3<=4*3:=QR 3 h.len
 omega
theorem Ws.take {ds:List Zg} (h:Ws ds) (k:Nat):Ws (ds.take k):=
 ⟨by have:=h.len;simp;omega,fun d hd=>h.cons d (Qe hd),fun d hd=>h.fields d (Qe hd)⟩
theorem Ws.cons_at {ds:List Zg} (h:Ws ds) {k:Nat} {d:Zg} (hd:ds[k]? = some d):d.cons.length<=3:=h.cons d (ZZ hd)
theorem Ws.fields_at {ds:List Zg} (h:Ws ds) {k j:Nat} {d:Zg} {c:Yh} (hd:ds[k]? = some d) (hc:d.cons[j]? = some c):c.fields.length<=3:=
 h.fields d (ZZ hd) c (ZZ hc)
def Tt (c:Int):List Zg->Nat->Nat->Int × LI
 | [],_,_=>(-1,[])
 | d::ds,i,first=>
  if (first:Int)<=c/\c<=((first+d.cons.length:Nat):Int)-1 then ((i:Int)+1,(d.cons[(c-first).toNat]?.map (·.fields)).getD []) else Tt c ds (i+1) (first+d.cons.length)
def Wh (ds:List Zg) (c:Int):Int:=(Tt c ds 0 0).1
def ZV (ds:List Zg) (c:Int):LI:=(Tt c ds 0 0).2
theorem HY {c:Int}:∀{ds:List Zg} {i first:Nat},(Tt c ds i first=(-1,[]) ∨
  ∃k d x,ds[k]? = some d/\(first+YN (ds.take k):Int)<=c/\c<first+YN (ds.take k)+d.cons.length/\d.cons[(c-(first+YN (ds.take k))).toNat]? = some x/\Tt c ds i first=((i:Int)+k+1,x.fields))
 | [],_,_=>.inl rfl
 | d::ds,i,first=>by
  rw [Tt]
  split
  ·rename_i h
   have hlt:(c-first).toNat<d.cons.length:=by omega
   refine .inr ⟨0,d,d.cons[(c-first).toNat],rfl,by simp [YN];omega,by simp [YN];omega,?_,?_⟩
   ·simp [YN]
   ·rw [KN hlt];simp
  ·rcases HY (c:=c) (ds:=ds) (i:=i+1) (first:=first+d.cons.length) with h|⟨k,e,x,h1,h2,h3,h4,h5⟩
   ·exact .inl h
   ·refine .inr ⟨k+1,e,x,by simpa using h1,by simp [YN];omega,by simp [YN];omega,?_,?_⟩
    ·rw [<-h4];congr 3;simp [YN];omega
    ·rw [h5];congr 1;omega
theorem HZ {ds:List Zg} {c:Int} (h:¬Wh ds c<1) :
  ∃k d x,ds[k]? = some d/\(YN (ds.take k):Int)<=c/\d.cons[(c-YN (ds.take k)).toNat]? = some x/\Wh ds c=(k:Int)+1/\ZV ds c=x.fields:=by
 rcases HY (c:=c) (ds:=ds) (i:=0) (first:=0) with h1|⟨k,d,x,h1,h2,_,h4,h5⟩
 ·simp [Wh,h1] at h
 ·exact ⟨k,d,x,h1,by simpa using h2,by simpa using h4,by simp [Wh,h5],by simp [ZV,h5]⟩
theorem Fg {ds:List Zg} {c:Int} (h:Wh ds c<1):ZV ds c=[]/\Wh ds c=-1:=by
 rcases HY (c:=c) (ds:=ds) (i:=0) (first:=0) with h1|⟨k,d,x,h1,h2,_,h4,h5⟩
 ·simp [ZV,Wh,h1]
 ·simp [Wh,h5] at h;omega
def VB (first:Int):Nat->LI
 | 0=>[]
 | n+1=>first::VB (first+1) n
theorem R9 (first:Int) (n:Nat):VB first (n+1)=VB first n++[first+n]:=by
 induction n generalizing first with
 | zero=>simp [VB]
 | succ n ih=>rw [VB,ih (first+1),VB];simp;omega
@[simp] theorem Zc8 (first:Int) (n:Nat):(VB first n).length=n:=by
 induction n generalizing first with
 | zero=>rfl
 | succ n ih=>simp [VB,ih]
def ZX (ds:List Zg) (t:Int):LI:=
 if 1<=t/\t<=ds.length then VB (YN (ds.take (t-1).toNat)) (((ds[(t-1).toNat]?).map (·.cons.length)).getD 0) else []
def Ks (frm to_:Int):List Zg->Nat->Int
 | [],_=>-1
 | d::ds,i=>if d.cons.length=0/\d.frm=frm/\d.to_=to_ then (i:Int)+1 else Ks frm to_ ds (i+1)
def Uu (ds:List Zg) (frm to_:Int):Int:=Ks frm to_ ds 0
def W6 (ds:List Zg) (t:Int):Bool:=decide (1<=t/\t<=ds.length)&&((ds[(t-1).toNat]?).map fun d=>decide (d.cons.length=0)).getD false
theorem Gd {ds:List Zg} {t:Int} {x:Zg} (h:1<=t/\t<=ds.length) (hx:ds[(t-1).toNat]? = some x):((x.cons.length:Int)==0)=W6 ds t:=by
 rw [W6,hx,Xt];simp [h]
theorem IW {ds:List Zg} {t:Int} (h:¬(1<=t/\t<=ds.length)):false=W6 ds t:=by
 rw [W6,Xt];simp only [Bool.false_eq_true,W7,decide_eq_true_eq,h,false_and]
def Wm (m:Nat) (xs:LI):Bool:=xs.all fun t=>decide (0<=t/\t<=m)
end Go.Abs
section
namespace Go.Abs
section
variable {h:List Res}
end
end Go.Abs
namespace Go.Abs
section
variable {P:Program} {ops:Array Oper} {k:Nat} {F:Fr} {h:List Res}
end
end Go.Abs
end
namespace Go.Abs
section
variable {P:Program} {n:Nat} {ops:Array Oper} {B:Fr->List Res->Prop} {k:Nat} {F:Fr} {h:List Res} {T:List (Nat × List Nat)} {fuel:Nat} {done:List Nat}
theorem Rm {K:Fr->List Res->Prop} {ls:List AV} {len sz:Nat} (hd:Vw n (ZA ops k)=true) (ha:TQ P ops F k=some (ls,len,sz)) (hlen:ls.length=len*sz)
  (hK:∀g,K (F.put (ZA ops k).dst (.val (.slice (some ⟨g,0,none⟩) len len))) (.row (.slice (some ⟨g,0,none⟩) len len) sz ls::h)):WE P n (ZA ops k) F h K:=by
 unfold TQ at ha
 generalize hoo:ZA ops k=q at ha hd hK
 obtain ⟨dst,op,type,pos,after,guard⟩:=q
 cases op<;>simp only at ha<;>try (cases ha)
 rename_i t ln parts
 split at ha
 case h_2=>cases ha
 rename_i e ht
 split at ha
 case h_2=>cases ha
 rename_i i hi
 split at ha
 case h_2=>cases ha
 rename_i hc
 simp only [W7] at hc
 split at ha
 case h_2=>cases ha
 rename_i ls' hf
 simp only [Wi,Prod.mk.injEq] at ha
 obtain ⟨rfl,rfl,Xo⟩:=ha
 intro Q w G a hF hh
 obtain ⟨cs,h1,h2⟩:=GM hF parts ht hi rfl hc.1 hc.2 hf
 have hr:(execOp a.eval { dst:=dst,op:=.buildSlice t ln parts,type:=type,pos:=pos,after:=after,guard:=guard }).run P w =
   .ok (.value (.slice (some ⟨w.heap.size,0,none⟩) ln ln)) (w.alloc (.cells cs e)):=by
  simp only [execOp]
  exact Vc h2
 unfold Oper.wp
 rw [hr]
 have hlc:=h1.length
 simp only [KL] at hlc
 obtain ⟨j1,j2⟩:=hh.alloc_rrow cs e (ls:=ls') (len:=ln) (cap:=ln) (k:=sz) (X3 _) (by rw [hlc];exact hlen) hlen (by rw [<-hlen,<-hlc];simpa [Ve] using h1)
 exact ⟨_,_,G,hK _,(hF.mono (j2.agree hh)).put (Ta hd) .val,j1,j2⟩
theorem UZ (es es':List AV) (he:es=es') (len sz:Nat) (hK:∀v,SI P n ops B (k+1) (F.put (ZA ops k).dst (.sl es' (some v))) (.tail v sz::h)) (hk:X9 n ops F k=true:=by kernel_rfl)
  (ha:TQ P ops F k=some (Zf es,len,sz):=by kernel_rfl) (hlen:es.length=len:=by kernel_rfl) (hall:Aj es sz=true:=by kernel_rfl):SI P n ops B k F h:=by
 subst he;exact iL es len sz hK hk ha hlen hall
theorem WJ (i:Nat) (js bs:List Nat) (es es':List AV) (he:es=es') (len sz:Nat) (hK:∀v,YV P n ops B (T.filter fun t=>!V8 ops i t.1) fuel (done++[i]) (F.put (ZA ops i).dst (.sl es' (some v))) (.tail v sz::h))
  (hk:X9 n ops F i=true:=by kernel_rfl) (ha:TQ P ops F i=some (Zf es,len,sz):=by kernel_rfl) (hlen:es.length=len:=by kernel_rfl) (hall:Aj es sz=true:=by kernel_rfl)
  (ho:Ud ops i T=bs:=by kernel_rfl) (hj:js.map (fun j=>(WK h)[j]?)=bs.map some:=by kernel_rfl):Vv P n ops B T fuel done F h i:=by
 subst he;exact dL i js bs es len sz hK hk ha hlen hall ho hj
theorem iKN (ls:List AV) (len sz:Nat) (hK:∀g,SI P n ops B (k+1) (F.put (ZA ops k).dst (.val (.slice (some ⟨g,0,none⟩) len len))) (.row (.slice (some ⟨g,0,none⟩) len len) sz ls::h)) (hlen:ls.length=len*sz:=by rfl) (hk:X9 n ops F k=true:=by kernel_rfl)
  (ha:TQ P ops F k=some (ls,len,sz):=by kernel_rfl):SI P n ops B k F h:=Q1 hk (Rm (VT hk).2.1 ha hlen hK)
theorem dKN (i:Nat) (js bs:List Nat) (ls:List AV) (len sz:Nat) (hK:∀g,YV P n ops B (T.filter fun t=>!V8 ops i t.1) fuel (done++[i]) (F.put (ZA ops i).dst (.val (.slice (some ⟨g,0,none⟩) len len))) (.row (.slice (some ⟨g,0,none⟩) len len) sz ls::h)) (hlen:ls.length=len*sz:=by rfl)
  (hk:X9 n ops F i=true:=by kernel_rfl) (ha:TQ P ops F i=some (ls,len,sz):=by kernel_rfl) (ho:Ud ops i T=bs:=by kernel_rfl) (hj:js.map (fun j=>(WK h)[j]?)=bs.map some:=by kernel_rfl):Vv P n ops B T fuel done F h i:=
 Kx (h1:=[]) (h2:=h) [] js bs hk rfl ho hj (Rm (VT hk).2.1 ha hlen hK)
end
theorem Wv.frz {P:Program} {f:FuncId} {as1:List AV} {h0:List Res} {E:Type} {kk:Nat} {es:E->List AV} {hs:E->List Res} {Q:E->Prop} (H:Wv P f as1 h0 (fun r h=>∃(e:E) (v:Hd),r=.h v/\h=rK v kk (Zf (es e))::hs e/\Q e)) (hes:∀e,∀y∈es e,y.leaves.length=kk) (hk:0<kk) :
  Wv P f as1 h0 (fun r h=>∃(e:E) (v:Value),r=.sl (es e) (some v)/\h=.tail v kk::hs e/\Q e):=by
 intro w G vs hv hh
 refine (H w G vs hv hh).mono ?_
 rintro e w' ⟨u,r,h',G',he,⟨x,v,rfl,rfl,hq⟩,hr,hh',hx⟩
 obtain ⟨G2,h1,h2,h3⟩:=Cm hh' (hes x) hk
 have hrv:=hr.val_inv
 subst hrv
 exact ⟨_,_,_,G2,he,⟨x,v.v,rfl,rfl,hq⟩,h3,h1,hx.trans h2⟩
theorem FF {es:List AV} {sz k:Nat} {y:AV} (h:∀x∈es,x.leaves.length=sz) (hy:y.leaves.length=sz) (hk:k<es.length):(Zf es).take (k*sz)++y.leaves++(Zf es).drop (k*sz+y.leaves.length)=Zf (es.set k y):=by
 obtain ⟨x,hx⟩:=J1 (xs:=es) (j:=k) hk
 have hxl:=h x (ZZ hx)
 have e1:es=es.take k++(x::es.drop (k+1)):=by rw [<-Y7 hx,To]
 have e2:es.set k y=es.take k++(y::es.drop (k+1)):=by rw [EU,Ze hk]
 have hl:(Zf (es.take k)).length=k*sz:=by rw [UW (k:=sz) _ (fun z hz=>h z (Qe hz)),WM,VO om]
 have e3:Zf es=Zf (es.take k)++(x.leaves++Zf (es.drop (k+1))):=by
  conv=>lhs;rw [e1,UF]
  simp [Zf]
 rw [e2,UF,e3,EF hl (by rw [hxl,hy])]
 simp [Zf]
theorem Z5g (ds:List Zg) (k:Nat) (d:Zg):YA (ds.set k d)=(YA ds).set k (Ah d):=by simp [YA,List.map_set]
theorem C5 (xs:List Zg):(Zf (YA xs)).length=xs.length*3:=by rw [UW (k:=3) _ (Ky xs)];simp
theorem FC {ds:List Zg} {k:Nat} (d:Zg) (hk:k<ds.length):(Zf (YA ds)).take (k*3)++TP d++(Zf (YA ds)).drop (k*3+3)=Zf (YA (ds.set k d)):=by
 rw [Z5g];exact FF (y:=Ah d) (Ky ds) rfl (by simpa using hk)
theorem Ir (xs ys:List Zg):Zf (YA xs)++Zf (YA ys)=Zf (YA (xs++ys)):=by rw [Z5e,UF]
section
variable {P:Program} {n:Nat} {ops:Array Oper} {B:Fr->List Res->Prop} {k:Nat} {F:Fr} {h:List Res}
theorem Ee (j m:Nat) {v:Hd} {kk:Nat} {ls:List AV} (hm:ls.length=m*kk) (h0:0<m) (H:∀g c',v=⟨some ⟨g,0,none⟩,m,c'⟩->SI P n ops B k F h) (hk:0<kk:=by omega) (hj:h[j]? = some (rK v kk ls):=by kernel_rfl):SI P n ops B k F h:=by
 intro Q w G a hF hh hq
 obtain ⟨g,c',e⟩:=LV (hh.ok _ (ZZ hj)) hm hk h0
 exact H g c' e Q w G a hF hh hq
end
section
variable {P:Program} {n:Nat} {ops:Array Oper} {B:Fr->List Res->Prop} {k:Nat} {F:Fr} {h:List Res}
def I0 (P:Program) (ops:Array Oper) (F:Fr) (k:Nat):Option (IntKind × Int):=
 match (ZA ops k).op with
 | .convert s d x=>match P.underlying s,P.underlying d,F.ev x with
  | some (.int _),some (.int q),.val (.int _ z)=>some (q,z)
  | _,_,_=>none
 | _=>none
theorem kCv (q:IntKind) (z z':Int) (e:q.wrap z=z') (hc:I0 P ops F k=some (q,z):=by kernel_rfl):Xx P (ZA ops k) F h [] (.val (.int q z')):=by
 unfold I0 at hc
 generalize hoo:ZA ops k=o at hc
 obtain ⟨dst,op,type,pos,after,guard⟩:=o
 cases op<;>simp only at hc<;>try (cases hc)
 rename_i s d x
 split at hc
 ·rename_i q1 q2 q3 z2 h1 h2 h3
  cases hc
  intro n w G ac hF hh
  have v1:=hF.ev x
  rw [h3] at v1
  have v1:=v1.val_inv
  refine ⟨_,.val,fun w' _ _=>?_⟩
  simp only [execOp,v1]
  refine Vc ?_
  simp [convert,Vt h1,Vt h2,Conv.intToInt,e]
 ·cases hc
theorem MD {z:Int} (h:0<=z/\z<=9223372036854775807):IntKind.i64.wrap z=z:=IntWalk.i64_in _ om
theorem Db (z:Int) (hz:0<=z/\z<=255) (hc:I0 P ops F k=some (.i64,z):=by kernel_rfl):Xx P (ZA ops k) F h [] (.i z):=kCv .i64 z z (MD om) hc
def B6 (ops:Array Oper) (F:Fr) (k:Nat) (b:BinOp):Option (Int × Int):=
 match (ZA ops k).op with
 | .binOp c _ x y _=>if c==b then match F.ev x,F.ev y with
  | .val (.int .i64 z),.val (.int .i64 u)=>some (z,u)
  | _,_=>none else none
 | _=>none
theorem L5 (a b:Int) (hb:0<b) (ha:0<=a/\a<=9223372036854775807) (hc:B6 ops F k .quo=some (a,b):=by kernel_rfl):Xx P (ZA ops k) F h [] (.i (a / b)):=by
 unfold B6 at hc
 generalize hoo:ZA ops k=o at hc
 obtain ⟨dst,op,type,pos,after,guard⟩:=o
 cases op<;>simp only at hc<;>try (cases hc)
 rename_i bop t x y yt
 cases bop<;>simp only [Zp,reduceCtorEq,if_false,if_true] at hc<;>try (cases hc)
 split at hc
 ·rename_i z yk h1 h2
  cases hc
  intro n' w G ac hF hh
  have v1:=hF.ev x
  have v2:=hF.ev y
  rw [h1] at v1
  rw [h2] at v2
  have v1:=v1.val_inv
  have v2:=v2.val_inv
  refine ⟨_,.val,fun w' _ _=>?_⟩
  simp only [execOp,v1,v2]
  refine Vc ?_
  have e1:a.tdiv b=a / b:=Int.tdiv_eq_ediv_of_nonneg ha.1
  have e2:IntKind.i64.wrap (a / b)=a / b:=MD ⟨Int.ediv_nonneg ha.1 om,Int.le_trans (Int.ediv_le_self b ha.1) ha.2⟩
  have e3:b≠0:=by omega
  simp [eqGuard,binOp,Op.intDiv,e1,e2,e3]
 ·cases hc
theorem Eh (a b:Int) (hb:0<b) (ha:0<=a) (hc:B6 ops F k .rem=some (a,b):=by kernel_rfl):Xx P (ZA ops k) F h [] (.i (a % b)):=by
 unfold B6 at hc
 generalize hoo:ZA ops k=o at hc
 obtain ⟨dst,op,type,pos,after,guard⟩:=o
 cases op<;>simp only at hc<;>try (cases hc)
 rename_i bop t x y yt
 cases bop<;>simp only [Zp,reduceCtorEq,if_false,if_true] at hc<;>try (cases hc)
 split at hc
 ·rename_i z yk h1 h2
  cases hc
  intro n' w G ac hF hh
  have v1:=hF.ev x
  have v2:=hF.ev y
  rw [h1] at v1
  rw [h2] at v2
  have v1:=v1.val_inv
  have v2:=v2.val_inv
  refine ⟨_,.val,fun w' _ _=>?_⟩
  simp only [execOp,v1,v2]
  refine Vc ?_
  have e1:a.tmod b=a % b:=Int.tmod_eq_emod_of_nonneg ha
  have e3:b≠0:=by omega
  simp [eqGuard,binOp,Op.intDiv,e1,e3]
 ·cases hc
theorem Ce (a b:Nat) (hb:0<b) (ha:a<=9223372036854775807) (hc:B6 ops F k .quo=some ((a:Int),(b:Int)):=by kernel_rfl):Xx P (ZA ops k) F h [] (.i (a / b:Nat)):=by
 rw [Int.natCast_ediv];exact L5 a b om om hc
theorem Gf (a b:Nat) (hb:0<b) (_ha:a<=9223372036854775807) (hc:B6 ops F k .rem=some ((a:Int),(b:Int)):=by kernel_rfl):Xx P (ZA ops k) F h [] (.i (a % b:Nat)):=by
 rw [Int.natCast_emod];exact Eh a b om om hc
def AS (a b:Int):Int:=IntKind.i64.wrap ((BitVec.ofInt 64 a ^^^ BitVec.ofInt 64 b).toNat:Int)
theorem Hm {a b:Int} (ha:0<=a/\a<4611686018427387904) (hb:0<=b/\b<4611686018427387904):0<=AS a b/\AS a b<4611686018427387904:=by
 obtain ⟨x,rfl⟩:=Int.eq_ofNat_of_zero_le ha.1
 obtain ⟨y,rfl⟩:=Int.eq_ofNat_of_zero_le hb.1
 have h1:(BitVec.ofInt 64 (x:Int) ^^^ BitVec.ofInt 64 (y:Int)).toNat=x ^^^ y:=by
  rw [BitVec.toNat_xor,BitVec.toNat_ofInt,BitVec.toNat_ofInt]
  have e1:((x:Int) % ((2 ^ 64:Nat):Int)).toNat=x:=by omega
  have e2:((y:Int) % ((2 ^ 64:Nat):Int)).toNat=y:=by omega
  rw [e1,e2]
 have h2:x ^^^ y<2 ^ 62:=Nat.xor_lt_two_pow om om
 rw [AS,h1,MD om]
 omega
theorem Po (a b:Int) (hc:B6 ops F k .xor=some (a,b):=by kernel_rfl):Xx P (ZA ops k) F h [] (.i (AS a b)):=by
 unfold B6 at hc
 generalize hoo:ZA ops k=o at hc
 obtain ⟨dst,op,type,pos,after,guard⟩:=o
 cases op<;>simp only at hc<;>try (cases hc)
 rename_i bop t x y yt
 cases bop<;>simp only [Zp,reduceCtorEq,if_false,if_true] at hc<;>try (cases hc)
 split at hc
 ·rename_i z yk h1 h2
  cases hc
  intro n' w G ac hF hh
  have v1:=hF.ev x
  have v2:=hF.ev y
  rw [h1] at v1
  rw [h2] at v2
  have v1:=v1.val_inv
  have v2:=v2.val_inv
  refine ⟨_,.val,fun w' _ _=>?_⟩
  simp only [execOp,v1,v2]
  refine Vc ?_
  simp [eqGuard,binOp,Op.intBits,IntKind.bits]
  exact Yn (fun z:Nat=>IntKind.i64.wrap (z:Int)) (by rw [BitVec.toNat_xor,BitVec.toNat_ofInt,BitVec.toNat_ofInt];rfl)
 ·cases hc
end
end Go.Abs
section
namespace Go.Abs
inductive Z2 where
 | mk (op num:Int) (kids:List Z2)
namespace Z2
def op:Z2->Int|.mk a _ _=>a
def num:Z2->Int|.mk _ a _=>a
def kids:Z2->List Z2|.mk _ _ a=>a
end Z2
structure Func where
 params:LI
 result:Int
 body:Z2
structure Wd where
 decls:List Zg
 funcs:List Func
instance:Inhabited Z2:=⟨.mk 0 0 []⟩
mutual
def Ig:Z2->AV
 | .mk op num kids=>.agg [.i op,.i num,.sl (Yv kids) none]
def Yv:List Z2->List AV
 | []=>[]
 | e::r=>Ig e::Yv r
end
abbrev Y4 (e:Z2):AV:=.agg [.i e.op,.i e.num,.sl (Yv e.kids) none]
abbrev YZ (e:Z2):List AV:=[.i e.op,.i e.num,.sl (Yv e.kids) none]
abbrev XA (xs:List Z2):AV:=.sl (Yv xs) none
abbrev QI (xs:List Z2) (v:Value):AV:=.sl (Yv xs) (some v)
abbrev DH (f:Func):AV:=.agg [Z4 f.params,.i f.result,.i f.body.op,.i f.body.num,XA f.body.kids]
abbrev Gi (f:Func):List AV:=[Z4 f.params,.i f.result,.i f.body.op,.i f.body.num,XA f.body.kids]
def Xs (xs:List Func):List AV:=xs.map DH
abbrev Gq (xs:List Func):AV:=.sl (Xs xs) none
abbrev Ai (p:Wd):AV:=.agg [ZP p.decls,Gq p.funcs]
abbrev La (p:Wd):List AV:=[ZP p.decls,Gq p.funcs]
abbrev HB (z:Int):AV:=.val (.int .u8 z)
def Q5 (xs:LI):List AV:=xs.map HB
abbrev Up (xs:LI):AV:=.sl (Q5 xs) none
theorem Z5h (e:Z2):Ig e=Y4 e:=by cases e;rw [Ig];rfl
theorem XP:∀xs:List Z2,Yv xs=xs.map Y4
 | []=>by rw [Yv];rfl
 | s::ss=>by rw [Yv,XP ss,Z5h];rfl
theorem CN {xs:List Z2} {j:Nat} {x:Z2} (h:xs[j]? = some x):(Yv xs)[j]? = some (Y4 x):=by simp [XP,h]
theorem Fq {xs:List Func} {j:Nat} {x:Func} (h:xs[j]? = some x):(Xs xs)[j]? = some (DH x):=by simp [Xs,h]
theorem CJ {xs:LI} {j:Nat} {x:Int} (h:xs[j]? = some x):(Q5 xs)[j]? = some (HB x):=by simp [Q5,h]
@[simp] theorem Ih (xs:List Z2):(Yv xs).length=xs.length:=by simp [XP]
@[simp] theorem CO (xs:List Func):(Xs xs).length=xs.length:=by simp [Xs]
@[simp] theorem KZ (xs:LI):(Q5 xs).length=xs.length:=by simp [Q5]
theorem JW (xs ys:List Z2):Yv (xs++ys)=Yv xs++Yv ys:=by simp [XP]
theorem Z5i (xs ys:List Func):Xs (xs++ys)=Xs xs++Xs ys:=by simp [Xs]
theorem Ic (xs:LI) (n:Nat):(Q5 xs).take n=Q5 (xs.take n):=by simp [Q5]
theorem Ib (xs:LI) (n:Nat):(Q5 xs).drop n=Q5 (xs.drop n):=by simp [Q5]
theorem Tx (xs:List Z2):∀y∈Yv xs,y.leaves.length=3:=by intro y hy;simp only [XP,W4] at hy;obtain ⟨x,_,rfl⟩:=hy;rfl
theorem Fs (xs:List Func):∀y∈Xs xs,y.leaves.length=5:=by intro y hy;simp only [Xs,W4] at hy;obtain ⟨x,_,rfl⟩:=hy;rfl
theorem Z5b (xs:LI):∀y∈Q5 xs,y.leaves.length=1:=by intro y hy;simp only [Q5,W4] at hy;obtain ⟨x,_,rfl⟩:=hy;rfl
theorem JX (xs:List Z2):(Zf (Yv xs)).all AV.one=true:=Jy fun y hy=>by simp only [XP,W4] at hy;obtain ⟨x,_,rfl⟩:=hy;rfl
end Go.Abs
end
section
namespace Go.Abs
open Go.Proofs Go.Proofs.YtjmahledcmocoaaGreat
section
variable {H:Type} {enc:TypeId × Value->H} {w:World}
def GA (w:World):Ya:=fun b _=>b<w.heap.size
abbrev Tr (enc:TypeId × Value->H) (w:World) (n:Nat) (t:TypeId) (cs:List Value) (x:DataW H × List MemPlace):Prop:=DataW.trod enc Tryz.prog w 0 (fun _=>true) true n t cs=some x
theorem PU {w:World} {a:Addr} {v:Value} (h:w.cell? a=some v):a.block<w.heap.size/\a.spot=none:=by
 unfold World.cell? at h
 split at h
 ·rename_i c e fr hb
  split at h
  ·cases h
  ·rename_i hs
   exact ⟨(T6.1 hb).1,by simpa using hs⟩
 ·cases h
theorem Nq {α:Type} {c:α->Nat}:∀{xs:List α} {ds:List (DataW H)},xs.length=ds.length->(∀(i:Nat) a d,xs[i]? = some a->ds[i]? = some d->c a+1<=Rows.uptoBulk d)->(xs.map fun a=>c a+1).sum<=Rows.uptoBulkAll ds
 | [],[],_,_=>X3 _
 | a::r,d::ds,hl,h=>by
  have h0:=h 0 a d rfl rfl
  have h1:=Nq (c:=c) (xs:=r) (ds:=ds) (by simpa using hl) fun i a d ha hd=>h (i+1) a d (by simpa using ha) (by simpa using hd)
  rw [Ut,List.sum_cons,Rows.uptoBulkAll]
  omega
theorem RX {α:Type} {f:α->AV} {G:Ya} {k b:Nat} (hf:∀x,(f x).leaves.length=k):∀{xs:List α} {o:Nat},(∀(i:Nat) a,xs[i]? = some a->Ww w G b (o+i*k) (f a).leaves)->V7 w G k b o (xs.map f)
 | [],_,_=>.nil
 | x::r,o,h=>by
  refine .cons (hf x) (by have:=h 0 x rfl;simpa using this) (RX hf fun i a ha=>?_)
  have:=h (i+1) a (by simpa using ha)
  rw [show o+(i+1)*k=o+k+i*k by rw [Qx];omega] at this
  exact this
theorem Zdv {α:Type} [Inhabited α] {t e k:Nat} (ht:Tryz.prog.underlying t=some (.slice e)) (hk:Tryz.prog.cellsOf e=k) (h0:0<k) (f:α->AV) (hf:∀x,(f x).leaves.length=k) (c:α->Nat) (Q:α->Prop) {n:Nat} {cs:List Value} {x:DataW H × List MemPlace}
  (h:Tr enc w n t cs x) (el:∀m cs y,m<n->Tr enc w m e cs y->∃a:α,YT w (GA w) (f a).leaves cs/\c a+1<=Rows.uptoBulk y.1/\Q a) :
  ∃(v:Value) (xs:List α),cs=[v]/\RV w (GA w) (.sl (xs.map f) none) v/\(xs.map fun a=>c a+1).sum+1<=Rows.uptoBulk x.1/\∀a∈xs,Q a:=by
 rcases DataW.trod_slice ht h with ⟨rfl,rfl⟩|⟨a,len,cap,elems,rest,m,rfl,rfl,rfl,_,hlc,_,hlen,hel,_,_⟩
 ·exact ⟨_,[],rfl,.nil (by simp),by simp [Rows.uptoBulk],by simp⟩
 ·rw [hk] at hel
  have hone:∀i,i<len->∃z:α,∃cs' y,w.cells? 0 (a.add (i*k)) k=some cs'/\elems[i]? = some y/\YT w (GA w) (f z).leaves cs'/\c z+1<=Rows.uptoBulk y.1/\Q z:=by
   intro i hi
   have h1:=hel i hi
   rw [KN om] at h1
   obtain ⟨cs',h2,h3⟩:=Option.bind_eq_some_iff.1 h1
   obtain ⟨z,hz1,hz2,hz3⟩:=el m cs' _ om h3
   exact ⟨z,cs',_,h2,KN om,hz1,hz2,hz3⟩
  obtain ⟨V,hV⟩:=Go.Deep.choose_lt hone
  refine ⟨_,(List.range len).map V,rfl,?_,?_,?_⟩
  ·cases hl0:len with
   | zero=>exact .nil (by simp)
   | succ q=>
    have hsp:a.spot=none:=by
     obtain ⟨cs',y,g1,_⟩:=hV 0 om
     obtain ⟨_,g2,g3⟩:=World.cells?_some g1
     have g4:=g3 0 h0
     rw [KN om] at g4
     have g5:=(PU g4).2
     simpa [Addr.add] using g5
    obtain ⟨b,o,sp⟩:=a
    simp only at hsp
    subst hsp
    rw [<-hl0]
    have hll:(((List.range len).map V).map f).length=len:=by simp
    have:=RV.sl (w:=w) (G:=GA w) (es:=((List.range len).map V).map f) (hv:=none) (b:=b) (o:=o) (k:=k) (cap:=cap) (by simp) (by rw [hll];exact hlc) (RX hf fun i z hz=>by
     have hi:i<len:=by have:=(Xk.1 hz).1;simpa using this
     have hz':V i=z:=by simpa [hi] using hz
     obtain ⟨cs',y,g1,_,g2,_⟩:=hV i hi
     rw [hz'] at g2
     obtain ⟨_,g3,g4⟩:=World.cells?_some g1
     refine Ww.of_cells g2 fun j u hj=>?_
     have hjl:j<k:=by have:=(Xk.1 hj).1;omega
     have g5:=(g4 j hjl).trans hj
     rw [Addr.add_lit,Addr.add_lit] at g5
     exact ⟨g5,(PU g5).1⟩)
    rw [hll] at this
    exact this
  ·have:=Nq (c:=c) (xs:=(List.range len).map V) (ds:=elems.map (·.1)) (by simp [hlen]) fun i z d hz hd=>by
    have hi:i<len:=by have:=(Xk.1 hz).1;simpa using this
    have hz':V i=z:=by simpa [hi] using hz
    obtain ⟨cs',y,_,g1,_,g2,_⟩:=hV i hi
    rw [Us,g1] at hd
    simp only [BR,Wi] at hd
    rw [<-hd,<-hz']
    exact g2
   simp only [Rows.uptoBulk]
   omega
  ·intro z hz
   obtain ⟨i,hi,rfl⟩:=W4.1 hz
   obtain ⟨_,_,_,_,_,_,g⟩:=hV i (List.mem_range.1 hi)
   exact g
theorem Zdt {n:Nat} {cs:List Value} {x:DataW H × List MemPlace} (h:Tr enc w n 5 cs x):∃z:Int,cs=[.int .u8 z]/\Rows.uptoBulk x.1=1/\0<=z/\z<=255:=by
 obtain ⟨z,rfl,rfl,hw⟩:=DataW.trod_int Tryz.underlying5 h
 refine ⟨z,rfl,rfl,?_⟩
 simpa [Lit.wf,IntKind.min,IntKind.max,IntKind.signed,IntKind.bits] using hw
theorem Zdu {n:Nat} {cs:List Value} {x:DataW H × List MemPlace} (h:Tr enc w n 22 cs x):∃(v:Value) (xs:LI),cs=[v]/\RV w (GA w) (Up xs) v/\∀z∈xs,0<=z/\z<=255:=by
 obtain ⟨v,xs,h1,h2,h3,h4⟩:=Zdv Tryz.underlying22 (k:=1) kr om (fun z:Int=>HB z) (fun _=>rfl) (fun _=>0) (fun z=>0<=z/\z<=255) h fun m cs y _ hy=>by
  obtain ⟨z,rfl,hb,hz⟩:=Zdt hy
  exact ⟨z,.cons .val .nil,Nat.le_of_eq hb.symm,hz⟩
 exact ⟨v,xs,h1,h2,h4⟩
end
end Go.Abs
end
namespace Go.Abs
structure Sg where
 params:LI
 result:Int
abbrev MO (f:Sg):AV:=.agg [.sl (Z7 f.params) none,.i f.result,.i 0,.i 0,.sl [] none]
def Uw (fs:List Sg):List AV:=fs.map MO
theorem Ik {xs:List Sg} {j:Nat} {x:Sg} (h:xs[j]? = some x):(Uw xs)[j]? = some (MO x):=by simp [Uw,h]
@[simp] theorem NV (xs:List Sg):(Uw xs).length=xs.length:=by simp [Uw]
theorem NU (xs:List Sg):∀y∈Uw xs,y.leaves.length=5:=by intro y hy;simp only [Uw,W4] at hy;obtain ⟨x,_,rfl⟩:=hy;rfl
theorem Z5o (xs:List Sg):(Zf (Uw xs)).all AV.one=true:=Jy fun y hy=>by simp only [Uw,W4] at hy;obtain ⟨x,_,rfl⟩:=hy;rfl
mutual
def Z5.sz:Z5->Nat
 | .mk _ _ _ args kids=>1+args.length+X2 kids
def Z6.sz:Z6->Nat
 | .mk steps _=>1+Y9 steps
def Y9:List Z5->Nat
 | []=>0
 | s::r=>s.sz+Y9 r
def X2:List Z6->Nat
 | []=>0
 | b::r=>b.sz+X2 r
end
theorem Z5.sz_pos (s:Z5):1<=s.sz:=by cases s;rw [Z5.sz];omega
theorem Z6.sz_pos (b:Z6):1<=b.sz:=by cases b;rw [Z6.sz];omega
theorem Je (l:List Z5):l.length<=Y9 l:=by
 induction l with
 | nil=>simp
 | cons s r ih=>have:=s.sz_pos;simp only [YS,Y9];omega
theorem Nm (l:List Z6):l.length<=X2 l:=by
 induction l with
 | nil=>simp
 | cons s r ih=>have:=s.sz_pos;simp only [YS,X2];omega
theorem Z01 {l:List Z5} {k:Nat} {s:Z5} (h:l[k]? = some s):s.sz<=Y9 l:=by
 induction l generalizing k with
 | nil=>simp at h
 | cons t r ih=>
  cases k with
  | zero=>simp at h;subst h;simp only [Y9];omega
  | succ k=>have:=ih (k:=k) (by simpa using h);simp only [Y9];omega
theorem Z32 {l:List Z6} {k:Nat} {s:Z6} (h:l[k]? = some s):s.sz<=X2 l:=by
 induction l generalizing k with
 | nil=>simp at h
 | cons t r ih=>
  cases k with
  | zero=>simp at h;subst h;simp only [X2];omega
  | succ k=>have:=ih (k:=k) (by simpa using h);simp only [X2];omega
theorem Z5.sz_eq (s:Z5):s.sz=1+s.args.length+X2 s.kids:=by cases s;rw [Z5.sz];rfl
theorem Z6.sz_eq (b:Z6):b.sz=1+Y9 b.steps:=by cases b;rw [Z6.sz];rfl
theorem JE {b:Z6} {k:Nat} {s:Z5} (h:b.steps[k]? = some s):s.sz<b.sz:=by have:=Z01 h;have:=b.sz_eq;omega
theorem TE {s:Z5} {k:Nat} {b:Z6} (h:s.kids[k]? = some b):b.sz<s.sz:=by have:=Z32 h;have:=s.sz_eq;omega
theorem Qh (s:Z5):s.args.length<s.sz:=by have:=s.sz_eq;omega
theorem TF (s:Z5):s.kids.length<s.sz:=by have:=s.sz_eq;have:=Nm s.kids;omega
theorem U2 (b:Z6):b.steps.length<b.sz:=by have:=b.sz_eq;have:=Je b.steps;omega
structure Ae (ds:List Zg):Prop where
 len:ds.length<=4194304
 cons:∀d∈ds,d.cons.length<=4194304
 fields:∀d∈ds,∀c∈d.cons,c.fields.length<=4194304
theorem Ae.cons_at {ds:List Zg} (h:Ae ds) {k:Nat} {d:Zg} (hd:ds[k]? = some d):d.cons.length<=4194304:=h.cons d (ZZ hd)
def Ju (m:Nat) (c:Yh):Bool:=decide (c.fields.length<=3)&&Wm m c.fields
def QY (d:Zg):List Zg->Bool
 | []=>false
 | e::r=>if e.cons.length=0/\e.frm=d.frm/\e.to_=d.to_ then true else QY d r
def TW (m:Nat):List Yh->Bool
 | []=>true
 | c::r=>if Ju m c=true then TW m r else false
def US (ds:List Zg) (d:Zg) (i:Nat):Bool:=
 if 0<d.cons.length then (if d.cons.length<=3/\d.frm=0/\d.to_=0 then TW ds.length d.cons else false)
 else if QY d (ds.take i)=true then false else decide (0<=d.frm/\d.frm<=ds.length)&&decide (0<=d.to_/\d.to_<=ds.length)
def C0 (ds:List Zg) (i:Nat):Bool:=(ds[i]?.map fun d=>US ds d i).getD false
theorem DQ {ds:List Zg} {i:Nat} {d:Zg} (h:ds[i]? = some d):C0 ds i=US ds d i:=by rw [C0,h];rfl
def Tw (ds:List Zg):List Zg->Nat->Bool
 | [],_=>true
 | _::r,i=>if C0 ds i=true then Tw ds r (i+1) else false
def WZ (ds:List Zg):Bool:=decide (ds.length<=4)&&Tw ds ds 0
theorem NG {m:Nat} {cs:List Yh}:TW m cs=true↔∀c∈cs,Ju m c=true:=by
 induction cs with
 | nil=>simp [TW]
 | cons c r ih=>
  rw [TW]
  split
  ·rename_i h;simp [ih,h]
  ·rename_i h;simp [h]
theorem I3 {ds:List Zg}:∀{l:List Zg} {i:Nat},Tw ds l i=true↔∀j<l.length,C0 ds (i+j)=true
 | [],i=>by simp [Tw]
 | d::r,i=>by
  rw [Tw]
  split
  ·rename_i h
   rw [I3 (l:=r)]
   constructor
   ·intro hq j hj
    cases j with
    | zero=>exact h
    | succ j=>have:=hq j (by simpa using hj);rwa [show i+(j+1)=i+1+j by omega]
   ·intro hq j hj
    have:=hq (j+1) (by simpa using hj)
    rwa [show i+(j+1)=i+1+j by omega] at this
  ·rename_i h
   simp only [Bool.false_eq_true,false_iff]
   intro hq
   exact h (hq 0 (by simp))
theorem Zia {ds:List Zg} (h:WZ ds=true):Ws ds:=by
 simp only [WZ,W7,decide_eq_true_eq] at h
 obtain ⟨h1,h2⟩:=h
 rw [I3] at h2
 have key:∀d∈ds,∃i,US ds d i=true:=fun d hd=>by
  obtain ⟨i,hi⟩:=List.mem_iff_getElem?.1 hd
  have:=h2 i (Xk.1 hi).1
  rw [Vm,DQ hi] at this
  exact ⟨i,this⟩
 have hc:∀d∈ds,0<d.cons.length->d.cons.length<=3/\TW ds.length d.cons=true:=fun d hd hp=>by
  obtain ⟨i,hi⟩:=key d hd
  rw [US,Ze hp] at hi
  split at hi
  ·rename_i h;exact ⟨h.1,hi⟩
  ·cases hi
 refine ⟨h1,fun d hd=>?_,fun d hd c hc'=>?_⟩
 ·by_cases hp:0<d.cons.length
  ·exact (hc d hd hp).1
  ·omega
 ·have:=NG.1 (hc d hd (List.length_pos_of_mem hc')).2 c hc'
  simp only [Ju,W7,decide_eq_true_eq] at this
  exact this.1
def KE (m:Nat) (f:Sg):Bool:=decide (f.params.length<=3)&&(Wm m f.params&&decide (0<=f.result/\f.result<=m))
def Jc (m:Nat):List Sg->Bool
 | []=>true
 | f::r=>if KE m f=true then Jc m r else false
def FB:List Sg->Bool
 | []=>false
 | f::_=>decide (f.params.length=0)&&decide (f.result=0)
theorem Z65 {fs:List Sg} {x:Sg} (h:fs[0]? = some x):FB fs=(decide (x.params.length=0)&&decide (x.result=0)):=by
 cases fs with
 | nil=>simp at h
 | cons f r=>simp at h;subst h;rfl
def QO (ds:List Zg) (fs:List Sg):Bool:=
 WZ ds&&(decide (1<=fs.length/\fs.length<=4)&&(Jc ds.length fs&&FB fs))
def QH (ps:LI):LI->Option Int->Bool
 | [],_=>true
 | v::r,prev=>if (0<=v/\v<=(ps.length:Int)-1)/\ps[v.toNat]?≠some 0/\(∀p,prev=some p->p<v) then QH ps r (some v) else false
theorem Lh {ps r:LI} {v:Int} {prev:Option Int} (h:(0<=v/\v<=(ps.length:Int)-1)/\ps[v.toNat]?≠some 0/\(∀p,prev=some p->p<v)):QH ps (v::r) prev=QH ps r (some v):=by
 rw [QH,Ze h]
theorem Gm {ps r:LI} {v:Int} {prev:Option Int} (h:¬((0<=v/\v<=(ps.length:Int)-1)/\ps[v.toNat]?≠some 0/\(∀p,prev=some p->p<v))):QH ps (v::r) prev=false:=by
 rw [QH,Z8 h]
def Jj (ps ls:LI):Bool:=QH ps ls none
def T1:List Y0->Bool
 | []=>true
 | r::rs=>if Jj r.params r.lent=true then T1 rs else false
def VM (r:Y0):Sg:=⟨r.params,r.result⟩
def Vb (n:Zm):Bool:=decide (n.routines.length<=4)&&(QO n.decls (n.routines.map VM)&&T1 n.routines)
end Go.Abs
section
namespace Go.Abs
def Xm {α:Type} (xs:List α) (i:Int):Option α:=if 0<=i/\i<=(xs.length:Int)-1 then xs[i.toNat]? else none
theorem Qi {α:Type} {xs:List α} {i:Int} {x:α} (h:0<=i/\i<=(xs.length:Int)-1) (hx:xs[i.toNat]? = some x):Xm xs i=some x:=by rw [Xm,Ze h,hx]
theorem Kt {α:Type} {xs:List α} {i:Int} (h:¬(0<=i/\i<=(xs.length:Int)-1)):Xm xs i=none:=by rw [Xm,Z8 h]
theorem KX {α:Type} {xs:List α} {i:Int} {x:α} (h:Xm xs i=some x):(0<=i/\i<=(xs.length:Int)-1)/\xs[i.toNat]? = some x:=by
 rw [Xm] at h
 split at h
 ·rename_i h1;exact ⟨h1,h⟩
 ·cases h
def Tl (vars:LI):LI->LI->Bool
 | [],[]=>true
 | a::as1,t::ts=>if Xm vars a=some t then Tl vars as1 ts else false
 | _,_=>false
def W9 (vars args types:LI):Bool:=Tl vars args types
theorem Z0t {vars:LI}:∀{args types:LI},args.length≠types.length->Tl vars args types=false
 | [],[],h=>absurd rfl h
 | [],_::_,_=>rfl
 | _::_,[],_=>rfl
 | a::as1,t::ts,h=>by
  rw [Tl]
  split
  ·exact Z0t (by simpa using h)
  ·rfl
theorem Zi2 {vars args types:LI} {k:Nat} {a t:Int} (ha:args[k]? = some a) (ht:types[k]? = some t) (h:Xm vars a=some t) :
  Tl vars (args.drop k) (types.drop k)=Tl vars (args.drop (k+1)) (types.drop (k+1)):=by
 rw [Y7 ha,Y7 ht,Tl,Ze h]
theorem Z0s {vars args types:LI} {k:Nat} {a t:Int} (ha:args[k]? = some a) (ht:types[k]? = some t) (h:Xm vars a≠some t) :
  Tl vars (args.drop k) (types.drop k)=false:=by
 rw [Y7 ha,Y7 ht,Tl,Z8 h]
theorem Zi1 {vars args types:LI} {k:Nat} (ha:args.length<=k) (ht:types.length<=k):Tl vars (args.drop k) (types.drop k)=true:=by
 rw [Xf ha,Xf ht];rfl
def VI (op:Int):Bool:=op==0||(op==6||(op==8||(op==9||op==10)))
def XF (op:Int):Bool:=decide (0<=op/\op<=11)
def Yp (op:Int):Bool:=decide (14<=op/\op<=17)
def Uf (vars:LI) (op into:Int):Bool:=
 if into=0 then true else if op=6 then ((Xm vars (into-1)).map fun t=>decide (0<t)).getD false else false
def KW (ds:List Zg) (ps:LI) (res:Int):Int:=Uu ds (ps.getLast?.getD 0) res
def KD (ds:List Zg) (vars:LI) (op:Int) (args:LI) (r:Y0):Int:=
 if op=9 then (if W9 vars args r.params=true then r.result else -1)
 else if r.params.length=0∨0<r.lent.length∨¬W9 vars args (r.params.take (r.params.length-1))=true then -1
 else KW ds r.params r.result
def Ur (n:Zm) (vars:LI) (op num:Int) (args:LI):Int:=
 match Xm n.routines num with
 | none=>-1
 | some r=>KD n.decls vars op args r
def QA (ds:List Zg) (vars:LI) (op:Int) (args:LI):Int:=
 match args with
 | [a]=>match Xm vars a with
  | some t=>if t=0 then -1 else if (op≠14/\op≠15)/\W6 ds t=true then -1 else 0
  | none=>-1
 | _=>-1
def QU (ds:List Zg) (vars:LI) (args:LI):Int:=
 match args with
 | [a,b]=>match Xm vars a with
  | some t=>if W6 ds t=true then
    (match ds[(t-1).toNat]? with
     | some d=>if W9 vars [b] [d.frm]=true then d.to_ else -1
     | none=>-1) else -1
  | none=>-1
 | _=>-1
def Xj (ds:List Zg) (op num:Int):List LI:=if op=7 then [[],[]] else (ZX ds num).map (ZV ds)
mutual
def Y8 (n:Zm) (vars:LI):Z5->Int
 | .mk op num into args kids=>
  if (num≠0/\¬VI op=true)∨¬Uf vars op into=true∨(0<kids.length/\op≠7/\op≠8) then -1
  else if op=0 then (if args.length=0/\(-999<=num/\num<=999) then 0 else -1)
  else if op=1∨op=2∨op=3∨op=4 then (if W9 vars args [0,0]=true then 0 else -1)
  else if op=5 then (if W9 vars args [0]=true then 0 else -1)
  else if op=6 then (if 0<Wh n.decls num/\W9 vars args (ZV n.decls num)=true then Wh n.decls num else -1)
  else if op=7 then (if W9 vars args [0]=true then (if (Xj n.decls op num).length=0∨kids.length≠(Xj n.decls op num).length then -1 else XU n vars kids (Xj n.decls op num) true 0) else -1)
  else if op=8 then (if W9 vars args [num]=true then (if (Xj n.decls op num).length=0∨kids.length≠(Xj n.decls op num).length then -1 else XU n vars kids (Xj n.decls op num) true 0) else -1)
  else if op=9∨op=10 then Ur n vars op num args
  else if op=11 then QU n.decls vars args
  else if op=14∨op=15∨op=16∨op=17 then QA n.decls vars op args
  else -1
def XU (n:Zm) (vars:LI):List Z6->List LI->Bool->Int->Int
 | [],_,_,t=>t
 | b::bs,more,first,t=>
  match more with
  | []=>-1
  | m::ms=>if X6 n (vars++m) b<0∨(first=false/\X6 n (vars++m) b≠t) then -1 else XU n vars bs ms false (X6 n (vars++m) b)
def XV (n:Zm):List Z5->LI->Option LI
 | [],vars=>some vars
 | s::r,vars=>if Y8 n vars s<0 then none else XV n r (if XF s.op=true then vars++[Y8 n vars s] else vars)
def X6 (n:Zm) (vars:LI):Z6->Int
 | .mk steps result=>match XV n steps vars with
  | none=>-1
  | some vs=>(Xm vs result).getD (-1)
end
def TO (n:Zm) (vars:LI) (op num:Int) (kids:List Z6):Int:=
 if (Xj n.decls op num).length=0∨kids.length≠(Xj n.decls op num).length then -1 else XU n vars kids (Xj n.decls op num) true 0
mutual
def QG:Z5->Int->Int
 | .mk _ _ _ _ kids,left=>Un kids left
def Wq:Z6->Int->Int
 | .mk steps _,left=>Uc steps left
def Uc:List Z5->Int->Int
 | [],left=>left
 | s::r,left=>if left<1 then -1 else if QG s (left-1)<0 then -1 else Uc r (QG s (left-1))
def Un:List Z6->Int->Int
 | [],left=>left
 | b::r,left=>if Wq b left<0 then -1 else Un r (Wq b left)
end
def Tk (b:Z6):Int:=if Wq b 600<0 then -1 else 600-Wq b 600
def Qb (n:Zm):List Y0->Bool
 | []=>true
 | r::rs=>if ¬Tk r.body<0/\X6 n r.params r.body=r.result then Qb n rs else false
def X7 (n:Zm):Bool:=Vb n&&Qb n n.routines
theorem Em:(∀(s:Z5) (l:Int),0<=l->QG s l<=l)/\(∀(b:Z6) (l:Int),0<=l->Wq b l<=l):=by
 have key:∀m:Nat,(∀s:Z5,s.sz<=m->∀l:Int,0<=l->QG s l<=l)/\(∀b:Z6,b.sz<=m->∀l:Int,0<=l->Wq b l<=l):=by
  intro m
  induction m with
  | zero=>exact ⟨fun s h=>by have:=s.sz_pos;omega,fun s h=>by have:=s.sz_pos;omega⟩
  | succ m ih=>
   refine ⟨fun s hs l hl=>?_,fun b hb l hl=>?_⟩
   ·cases s with
    | mk op num into args kids=>
     rw [QG]
     have hk:X2 kids<=m:=by rw [Z5.sz] at hs;omega
     clear hs
     induction kids generalizing l with
     | nil=>rw [Un];exact Int.le_refl _
     | cons b r ihr=>
      rw [X2] at hk
      have:=ih.2 b om l hl
      rw [Un]
      split
      ·omega
      ·have:=ihr (Wq b l) om om;omega
   ·cases b with
    | mk steps res=>
     rw [Wq]
     have hk:Y9 steps<=m:=by rw [Z6.sz] at hb;omega
     clear hb
     induction steps generalizing l with
     | nil=>rw [Uc];exact Int.le_refl _
     | cons s r ihr=>
      rw [Y9] at hk
      rw [Uc]
      split
      ·omega
      ·have:=ih.1 s om (l-1) om
       split
       ·omega
       ·have:=ihr (QG s (l-1)) om om;omega
 exact ⟨fun s l hl=>(key s.sz).1 s (X3 _) l hl,fun b l hl=>(key b.sz).2 b (X3 _) l hl⟩
end Go.Abs
namespace Go.Abs
theorem Zgx {l:List Z5} {k:Nat} {s:Z5} (h:l[k]? = some s):k+s.sz<=Y9 l:=by
 induction l generalizing k with
 | nil=>simp at h
 | cons t r ih=>
  cases k with
  | zero=>simp at h;subst h;simp only [Y9];omega
  | succ k=>have:=ih (k:=k) (by simpa using h);have:=t.sz_pos;simp only [Y9];omega
theorem Cq {b:Z6} {k:Nat} {s:Z5} (h:b.steps[k]? = some s):k+s.sz<b.sz:=by have:=Zgx h;have:=b.sz_eq;omega
structure X1 (n:Zm):Prop where
 decls:Ws n.decls
 len:n.routines.length<=4
 params:∀r∈n.routines,r.params.length<=3
 lent:∀r∈n.routines,r.lent.length<=4194304
theorem X1.params_at {n:Zm} (h:X1 n) {k:Nat} {r:Y0} (hr:n.routines[k]? = some r):r.params.length<=3:=h.params r (ZZ hr)
theorem X1.lent_at {n:Zm} (h:X1 n) {k:Nat} {r:Y0} (hr:n.routines[k]? = some r):r.lent.length<=4194304:=h.lent r (ZZ hr)
theorem Z2f {ds:List Zg} {num:Int} {k:Nat} {x:Int} (h:(ZX ds num)[k]? = some x):(Xj ds 8 num)[k]? = some (ZV ds x):=by
 rw [Xj,Z8 om,Us,h];rfl
end Go.Abs
namespace Go.Abs
theorem Lq {ds:List Zg} (hd:Ws ds) (t:Int):(ZX ds t).length<=3:=by
 rw [ZX]
 split
 ·rename_i h
  obtain ⟨d,hd1⟩:=J1 (xs:=ds) (j:=(t-1).toNat) om
  rw [hd1,Zc8]
  exact hd.cons_at hd1
 ·simp
theorem U5 {ds:List Zg} (hd:Ws ds) (c:Int):(ZV ds c).length<=3:=by
 by_cases h:Wh ds c<1
 ·rw [(Fg h).1];simp
 ·obtain ⟨k,d,x,h1,_,h3,_,h5⟩:=HZ h
  rw [h5];exact hd.fields_at h1 h3
theorem F3 {ds:List Zg} (hd:Ws ds) {op num:Int} {k:Nat} {m:LI} (h:(Xj ds op num)[k]? = some m):m.length<=3:=by
 have hm:=ZZ h
 rw [Xj] at hm
 split at hm
 ·simp at hm;subst hm;simp
 ·obtain ⟨c,_,rfl⟩:=W4.1 hm;exact U5 hd c
theorem KV {α:Type} {xs:List α} {x:α} (h:xs.length=1) (hx:xs[0]? = some x):xs=[x]:=by
 cases xs with
 | nil=>simp at h
 | cons a r=>
  cases r with
  | nil=>simp at hx;rw [hx]
  | cons b r=>simp at h
theorem CF {ds:List Zg} {us args:LI} {op:Int} (h:args.length≠1):QA ds us op args=-1:=by
 cases args with
 | nil=>rfl
 | cons a r=>
  cases r with
  | nil=>simp at h
  | cons b r=>rfl
theorem CG {ds:List Zg} {us args:LI} {op a:Int} (h:args=[a]) (hi:¬(0<=a/\a<=(us.length:Int)-1)):QA ds us op args=-1:=by
 subst h;rw [QA];simp only [Kt hi]
theorem CE {ds:List Zg} {us args:LI} {op a t:Int} (h:args=[a]) (hi:0<=a/\a<=(us.length:Int)-1) (ht:us[a.toNat]? = some t) :
  QA ds us op args=if t=0 then -1 else if (op≠14/\op≠15)/\W6 ds t=true then -1 else 0:=by
 subst h;rw [QA];simp only [Qi hi ht]
theorem Ze9 {n:Zm} {us args:LI} {op num:Int} {r:Y0} (hi:0<=num/\num<=(n.routines.length:Int)-1) (hr:n.routines[num.toNat]? = some r) :
  Ur n us op num args=KD n.decls us op args r:=by
 rw [Ur];simp only [Qi hi hr]
theorem Zeb {n:Zm} {us args:LI} {op num:Int} (hi:¬(0<=num/\num<=(n.routines.length:Int)-1)):Ur n us op num args=-1:=by
 rw [Ur];simp only [Kt hi]
theorem OI {xs:LI} {x:Int} (h:xs[xs.length-1]? = some x):xs.getLast?.getD 0=x:=by
 rw [List.getLast?_eq_getElem?,h];rfl
theorem PB {n:Zm} {us:LI} {bs:List Z6} {ms:List LI} {b:Z6} {m:LI} {k:Nat} {t:Int} (hb:bs[k]? = some b) (hm:ms[k]? = some m)
  (h:¬(X6 n (us++m) b<0∨(k:Int)>0/\X6 n (us++m) b≠t)) :
  XU n us (bs.drop k) (ms.drop k) (decide (k=0)) t=XU n us (bs.drop (k+1)) (ms.drop (k+1)) (decide (k+1=0)) (X6 n (us++m) b):=by
 rw [Y7 hb,Y7 hm,XU,Z8]
 ·simp
 ·rintro (q|⟨q1,q2⟩)
  ·exact h (.inl q)
  ·exact h (.inr ⟨by simp at q1;omega,q2⟩)
theorem Pz {n:Zm} {us:LI} {bs:List Z6} {ms:List LI} {b:Z6} {m:LI} {k:Nat} {t:Int} (hb:bs[k]? = some b) (hm:ms[k]? = some m)
  (h:X6 n (us++m) b<0∨(k:Int)>0/\X6 n (us++m) b≠t) :
  XU n us (bs.drop k) (ms.drop k) (decide (k=0)) t=-1:=by
 rw [Y7 hb,Y7 hm,XU,Ze]
 rcases h with q|⟨q1,q2⟩
 ·exact .inl q
 ·exact .inr ⟨by simp;omega,q2⟩
theorem PA {n:Zm} {us:LI} {bs:List Z6} {ms:List LI} {k:Nat} {f:Bool} {t:Int} (hb:bs.length<=k):XU n us (bs.drop k) (ms.drop k) f t=t:=by
 rw [Xf hb,XU]
end Go.Abs
end
namespace Go.Abs
theorem AO (n:Zm) (us:LI) (s:Z5):Y8 n us s =
  if (s.num≠0/\¬VI s.op=true)∨¬Uf us s.op s.into=true∨(0<s.kids.length/\s.op≠7/\s.op≠8) then -1
  else if s.op=0 then (if s.args.length=0/\(-999<=s.num/\s.num<=999) then 0 else -1)
  else if s.op=1∨s.op=2∨s.op=3∨s.op=4 then (if W9 us s.args [0,0]=true then 0 else -1)
  else if s.op=5 then (if W9 us s.args [0]=true then 0 else -1)
  else if s.op=6 then (if 0<Wh n.decls s.num/\W9 us s.args (ZV n.decls s.num)=true then Wh n.decls s.num else -1)
  else if s.op=7 then (if W9 us s.args [0]=true then TO n us s.op s.num s.kids else -1)
  else if s.op=8 then (if W9 us s.args [s.num]=true then TO n us s.op s.num s.kids else -1)
  else if s.op=9∨s.op=10 then Ur n us s.op s.num s.args
  else if s.op=11 then QU n.decls us s.args
  else if s.op=14∨s.op=15∨s.op=16∨s.op=17 then QA n.decls us s.op s.args
  else -1:=by
 cases s with
 | mk op num into args kids=>rw [Y8];rfl
theorem F7 (n:Zm) (us:LI) (b:Z6):X6 n us b=match XV n b.steps us with
  | none=>-1
  | some vs=>(Xm vs b.result).getD (-1):=by
 cases b with
 | mk st r=>rw [X6];rfl
theorem N0 {α:Type} {xs:List α} {x:α} (h:xs.length=2) (hx:xs[0]? = some x):∃y,xs=[x,y]:=by
 match xs,h with
 | [a,b],_=>simp at hx;subst hx;exact ⟨b,rfl⟩
theorem T7 {ds:List Zg} {us args:LI} (h:args.length≠2):QU ds us args=-1:=by
 match args,h with
 | [],_=>rfl
 | [_],_=>rfl
 | [_,_],h=>simp at h
 | _::_::_::_,_=>rfl
theorem T8 {ds:List Zg} {us args:LI} {a:Int} (hl:args.length=2) (h:args[0]? = some a) (hi:¬(0<=a/\a<=(us.length:Int)-1)):QU ds us args=-1:=by
 obtain ⟨y,rfl⟩:=N0 hl h;rw [QU];simp only [Kt hi]
theorem UR {ds:List Zg} {us args:LI} {a t:Int} (hl:args.length=2) (h:args[0]? = some a) (hi:0<=a/\a<=(us.length:Int)-1) (ht:us[a.toNat]? = some t) :
  QU ds us args=if W6 ds t=true then
    (match ds[(t-1).toNat]? with
     | some d=>if W9 us (args.drop 1) [d.frm]=true then d.to_ else -1
     | none=>-1) else -1:=by
 obtain ⟨y,rfl⟩:=N0 hl h;rw [QU];simp only [Qi hi ht];rfl
theorem Z27 {ds:List Zg} {us args:LI} {a t:Int} {d:Zg} (hl:args.length=2) (h:args[0]? = some a) (hi:0<=a/\a<=(us.length:Int)-1) (ht:us[a.toNat]? = some t)
  (hA:W6 ds t=true) (hd:ds[(t-1).toNat]? = some d):QU ds us args=if W9 us (args.drop 1) [d.frm]=true then d.to_ else -1:=by
 rw [UR hl h hi ht,Ze hA];simp only [hd]
theorem IX {ds:List Zg} {t:Int} (h:W6 ds t=true):1<=t/\t<=ds.length:=by
 simp only [W6,W7,decide_eq_true_eq] at h;exact h.1
theorem PK (b:Z6) (l:Int):Wq b l=Uc b.steps l:=by cases b;rw [Wq];rfl
theorem Gl (s:Z5) (l:Int):QG s l=Un s.kids l:=by cases s;rw [QG];rfl
structure UP (n:Zm):Prop where
 decls:Ae n.decls
 len:n.routines.length<=4194304
 params:∀r∈n.routines,r.params.length<=4194304
 lent:∀r∈n.routines,r.lent.length<=4194304
 body:∀r∈n.routines,r.body.sz<=10000000
theorem GV {m:Nat} {fs:List Sg} (h:Jc m fs=true):∀f∈fs,KE m f=true:=by
 induction fs with
 | nil=>simp
 | cons f r ih=>
  rw [Jc] at h
  split at h
  ·rename_i h1
   intro g hg
   rcases YF.1 hg with rfl|hg
   ·exact h1
   ·exact ih h g hg
  ·cases h
theorem Lp {n:Zm} (hz:UP n) (h:Vb n=true):X1 n:=by
 simp only [Vb,QO,W7,decide_eq_true_eq] at h
 obtain ⟨h1,⟨h2,h3,h4,h5⟩,h6⟩:=h
 refine ⟨Zia h2,h1,fun r hr=>?_,hz.lent⟩
 have:=GV h4 (VM r) (W4.2 ⟨r,hr,rfl⟩)
 simp only [KE,W7,decide_eq_true_eq] at this
 exact this.1
def gI (xs:LI) (i:Int):Int:=xs[i.toNat]?.getD 0
theorem Vy {xs:LI} {i:Int} {x:Int} (h:xs[i.toNat]? = some x):gI xs i=x:=by rw [gI,h];rfl
structure Zr where
 vars:LI
 own:LI
 par:LI
 con:LI
 fst:LI
 tok:LI
def Zr.grow (L:Zr) (t own par:Int):Zr:=⟨L.vars++[t],L.own++[own],L.par++[par],L.con++[-1],L.fst++[-1],L.tok++[-1]⟩
def UM (L:Zr) (v:Int):Option Zr:=if gI L.own v<1 then none else some { L with own:=L.own.set v.toNat (gI L.own v-1) }
def QT (own par ln:LI):Nat->Int->Bool
 | 0,_=>false
 | k+1,v=>if gI own v<1/\¬v∈ln then (if gI par v<0 then false else QT own par ln k (gI par v)) else true
def Wk (L:Zr) (ln:LI) (v:Int):Bool:=QT L.own L.par ln (v.toNat+1) v
def Ts:LI->Int->LI->LI
 | own,_,[]=>own
 | own,p,f::r=>Ts (if f≠0 then own.set p.toNat (gI own p+1) else own) (p+1) r
def Qr (ds:List Zg) (L:Zr) (op x:Int):Option Zr:=
 if gI L.con x<0∨(op=17/\0<=gI L.tok x) then none
 else match UM L x with
  | none=>none
  | some L1=>some { L1 with
    own:=Ts L1.own (gI L.fst x) (ZV ds (gI L.con x))
    tok:=if op=17 then L.tok.set x.toNat (ZV ds (gI L.con x)).length else L.tok }
def Tv (op:Int):Bool:=op==6||(op==9||(op==10||op==11))
def J8 (n:Zm) (op num:Int):LI:=if op=9 then ((n.routines[num.toNat]?).map (·.lent)).getD [] else []
def Wz (n:Zm) (op num:Int) (i:Nat):Bool:=decide ((i:Int)∈J8 n op num)
def Tu (n:Zm) (vars:LI) (op num a:Int) (i:Nat):Bool:=Tv op&&(gI vars a != 0&&!Wz n op num i)
def UX (n:Zm) (op num:Int):LI->Nat->Zr->Option Zr
 | [],_,L=>some L
 | a::r,i,L=>if Tu n L.vars op num a i=true then (match UM L a with
   | none=>none
   | some L1=>UX n op num r (i+1) L1) else UX n op num r (i+1) L
def TZ (n:Zm) (op num:Int) (ln:LI) (L:Zr):LI->Nat->Bool
 | [],_=>true
 | a::r,i=>if Wz n op num i=true/\¬Wk L ln a=true then false else TZ n op num ln L r (i+1)
def J4 (L:Zr) (into:Int) (m:Nat):Option Zr:=
 if 0<into then (if gI L.tok (into-1)≠m then none else some { L with tok:=L.tok.set (into-1).toNat (-1) }) else some L
def Ux (n:Zm) (ln:LI) (L:Zr) (op num into:Int) (args:LI):Option Zr:=
 match UX n op num args 0 L with
 | none=>none
 | some L1=>if TZ n op num ln L1 args 0=true then J4 L1 into args.length else none
def V5:LI->LI->Bool
 | o::os,t::ts=>if o≠0∨0<=t then false else V5 os ts
 | _,_=>true
def Zr.take (L:Zr) (m:Nat):Zr:=⟨L.vars.take m,L.own.take m,L.par.take m,L.con.take m,L.fst.take m,L.tok.take m⟩
def UD (L:Zr) (m:Nat):Option Zr:=if V5 (L.own.drop m) (L.tok.drop m)=true then some (L.take m) else none
def J2 (L:Zr) (par:Int):LI->Zr
 | []=>L
 | t::r=>J2 (L.grow t 0 par) par r
def JO (ds:List Zg) (L:Zr) (x c:Int):Zr:=
 J2 { L with con:=L.con.set x.toNat c,fst:=L.fst.set x.toNat L.vars.length } x (ZV ds c)
def VA (ds:List Zg) (L:Zr) (op num:Int) (args:LI) (i:Nat):Zr:=
 if op=8 then JO ds L (gI args 0) (gI (ZX ds num) i) else L
def Ke (lent:LI):LI->Nat->Zr->Zr
 | [],_,L=>L
 | t::r,i,L=>Ke lent r (i+1) (L.grow t (if t≠0/\¬(i:Int)∈lent then 1 else 0) (-1))
def UG (r:Y0):Zr:=Ke r.lent r.params 0 ⟨[],[],[],[],[],[]⟩
def JU (L:Zr) (ln:LI) (v:Int):Option Zr:=if Wk L ln v=true then some { L with own:=L.own.set v.toNat (gI L.own v+1) } else none
def TR (n:Zm) (ln:LI) (L:Zr) (op num into:Int) (args:LI) (ch:Option Zr):Option Zr:=
 if op=14 then JU L ln (gI args 0)
 else if op=15 then UM L (gI args 0)
 else if op=16∨op=17 then Qr n.decls L op (gI args 0)
 else if op=7∨op=8 then (if op=8/\¬Wk L ln (gI args 0)=true then none else ch)
 else Ux n ln L op num into args
def J0 (L:Zr) (op t:Int) (r:Option Zr):Option Zr:=
 match r with
 | none=>none
 | some L1=>if XF op=true then some (L1.grow t (if t≠0 then 1 else 0) (-1)) else some L1
def Bn (L:Zr) (first:Option Zr) (rest:Zr->Bool):Option Zr:=
 match first with
 | none=>none
 | some one=>if rest one=true then some { L with own:=one.own,tok:=one.tok } else none
def GR (one:Zr) (two:Option Zr) (rest:Bool):Bool:=
 match two with
 | none=>false
 | some two=>if one.own=two.own/\one.tok=two.tok then rest else false
def Dw (r:Option Zr) (f:Zr->Option Zr):Option Zr:=match r with|none=>none|some L=>f L
def U9 (m:Nat) (res:Int) (L:Zr):Option Zr:=Dw (if gI L.vars res≠0 then UM L res else some L) fun L2=>UD L2 m
mutual
def VV (n:Zm) (ln:LI) (L:Zr):Z5->Option Zr
 | .mk op num into args kids=>J0 L op (Y8 n L.vars (.mk op num into args kids)) (TR n ln L op num into args (T0 n ln L op num args kids))
def T0 (n:Zm) (ln:LI) (L:Zr) (op num:Int) (args:LI):List Z6->Option Zr
 | []=>none
 | b::bs=>Bn L (WO n ln (VA n.decls L op num args 0) L.vars.length b) fun one=>TN n ln L op num args one bs 1
def TN (n:Zm) (ln:LI) (L:Zr) (op num:Int) (args:LI) (one:Zr):List Z6->Nat->Bool
 | [],_=>true
 | b::bs,i=>GR one (WO n ln (VA n.decls L op num args i) L.vars.length b) (TN n ln L op num args one bs (i+1))
def WL (n:Zm) (ln:LI) (L:Zr):List Z5->Option Zr
 | []=>some L
 | s::r=>Dw (VV n ln L s) fun L1=>WL n ln L1 r
def WO (n:Zm) (ln:LI) (L:Zr) (m:Nat):Z6->Option Zr
 | .mk steps result=>Dw (WL n ln L steps) (U9 m result)
end
theorem Mn (n:Zm) (ln:LI) (L:Zr) (s:Z5):VV n ln L s=J0 L s.op (Y8 n L.vars s) (TR n ln L s.op s.num s.into s.args (T0 n ln L s.op s.num s.args s.kids)):=by
 cases s with
 | mk op num into args kids=>rw [VV];rfl
theorem Jq (n:Zm) (ln:LI) (L:Zr) (m:Nat) (b:Z6):WO n ln L m b=Dw (WL n ln L b.steps) (U9 m b.result):=by
 cases b with
 | mk st r=>rw [WO];rfl
def TU (n:Zm) (r:Y0):Bool:=
 match WO n r.lent (UG r) r.params.length r.body with
 | none=>false
 | some L=>(UD L 0).isSome
structure WB (L:Zr):Prop where
 own:L.own.length=L.vars.length
 par:L.par.length=L.vars.length
 con:L.con.length=L.vars.length
 fst:L.fst.length=L.vars.length
 tok:L.tok.length=L.vars.length
structure X8 (ds:List Zg) (L:Zr) (q:Int):Prop where
 len:WB L
 down:∀j:Int,0<=j->j<L.vars.length->gI L.par j<j
 arm:∀x:Int,0<=x->x<L.vars.length->0<=gI L.con x->0<=gI L.fst x/\gI L.fst x+(ZV ds (gI L.con x)).length<=L.vars.length
 nn:∀x∈L.own,0<=x
 bd:∀x∈L.own,x<=q
end Go.Abs
section
namespace Go.Abs
end Go.Abs
namespace Go.Abs
theorem Zbp {n:Zm} {op num:Int} {r:Y0} (h:op=9) (hr:n.routines[num.toNat]? = some r):J8 n op num=r.lent:=by
 rw [J8,Ze h,hr];rfl
end Go.Abs
namespace Go.Abs
theorem Z1s {own par ln:LI} {N:Int} (hd:∀j:Int,0<=j->j<N->gI par j<j):∀(k:Nat) (v:Int),0<=v->v<N->v.toNat+1<=k->QT own par ln k v=QT own par ln (v.toNat+1) v:=by
 intro k
 induction k using Nat.strongRecOn with
 | ind k ih=>
  intro v h0 hN hk
  cases k with
  | zero=>omega
  | succ k=>
   rw [QT,QT]
   split
   ·split
    ·rfl
    ·have hdv:=hd v h0 hN
     rw [ih k om (gI par v) om om om]
     rw [ih v.toNat om (gI par v) om om om]
   ·rfl
theorem MT {own par ln:LI} {N j x1 x2:Int} {r:Bool} (h1:gI own j=x1) (h2:gI par j=x2) (hj:0<=j/\j<N) (hx:x1<1/\¬j∈ln) (h0:¬x2<0) (hd:∀i:Int,0<=i->i<N->gI par i<i)
  (h:QT own par ln (j.toNat+1) j=r):QT own par ln (x2.toNat+1) x2=r:=by
 rw [QT,h1,h2,Ze hx,Z8 h0] at h
 have hdv:=hd j hj.1 hj.2
 rw [<-h,Z1s hd j.toNat x2 om om om]
theorem MS {own par ln:LI} {j x1 x2:Int} {r:Bool} (h1:gI own j=x1) (h2:gI par j=x2) (hx:x1<1/\¬j∈ln) (h0:x2<0) (h:QT own par ln (j.toNat+1) j=r):false=r:=by
 rw [QT,h1,h2,Ze hx,Ze h0] at h;exact h
theorem MU {own par ln:LI} {j x1:Int} {r:Bool} (h1:gI own j=x1) (hx:¬(x1<1/\¬j∈ln)) (h:QT own par ln (j.toNat+1) j=r):true=r:=by
 rw [QT,h1,Z8 hx] at h;exact h
end Go.Abs
namespace Go.Abs
theorem Ki {L L':Zr} {v:Int} (h:UM L v=some L'):1<=gI L.own v/\L'.vars=L.vars/\L'.par=L.par/\L'.con=L.con/\L'.fst=L.fst/\L'.tok=L.tok/\L'.own=L.own.set v.toNat (gI L.own v-1):=by
 rw [UM] at h
 split at h
 ·cases h
 ·cases h;exact ⟨by omega,rfl,rfl,rfl,rfl,rfl,rfl⟩
theorem IB {xs:LI} {v:Int} (h:gI xs v≠0):gI xs v∈xs:=by
 rw [gI] at h ⊢
 cases hx:xs[v.toNat]? with
 | none=>rw [hx] at h;exact absurd rfl h
 | some y=>exact ZZ hx
theorem Ja {xs:LI} {i:Nat} {a x:Int} (h:x∈xs.set i a):x∈xs∨x=a:=List.mem_or_eq_of_mem_set h
theorem X8.take {ds:List Zg} {L L':Zr} {q v:Int} (hk:X8 ds L q) (h:UM L v=some L'):X8 ds L' q:=by
 obtain ⟨t1,t2,t3,t4,t5,t6,t7⟩:=Ki h
 obtain ⟨f1,f2,f3,f4,f5⟩:=hk.len
 have hm:=IB (xs:=L.own) (v:=v) om
 refine ⟨⟨by rw [t7,t2,VN];exact f1,by rw [t3,t2];exact f2,by rw [t4,t2];exact f3,by rw [t5,t2];exact f4,by rw [t6,t2];exact f5⟩,?_,?_,?_,?_⟩
 ·rw [t2,t3];exact hk.down
 ·rw [t2,t4,t5];exact hk.arm
 ·rw [t7];intro x hx
  rcases Ja hx with hx|rfl
  ·exact hk.nn x hx
  ·omega
 ·rw [t7];intro x hx
  rcases Ja hx with hx|rfl
  ·exact hk.bd x hx
  ·have:=hk.bd _ hm;omega
end Go.Abs
end
namespace Go.Abs
theorem Mu {us:LI}:∀{args tys:LI},Tl us args tys=true->args.length=tys.length/\∀a∈args,0<=a/\a<us.length
 | [],[],_=>⟨rfl,by simp⟩
 | [],_::_,h=>by cases h
 | _::_,[],h=>by cases h
 | a::as1,t::ts,h=>by
  rw [Tl] at h
  split at h
  ·rename_i h1
   obtain ⟨q1,q2⟩:=Mu h
   refine ⟨by simp [q1],fun x hx=>?_⟩
   rcases YF.1 hx with rfl|hx
   ·have:=(KX h1).1;omega
   ·exact q2 x hx
  ·cases h
theorem Px {n:Zm} {us:LI}:∀{bs:List Z6} {ms:List LI} {f:Bool} {t:Int},0<=t->0<=XU n us bs ms f t ->
  ∀(i:Nat) (b:Z6) (m:LI),bs[i]? = some b->ms[i]? = some m->0<=X6 n (us++m) b
 | [],_,_,_,_,_,i,b,m,hb,_=>by simp at hb
 | b::bs,[],_,_,_,h,_,_,_,_,hm=>by simp at hm
 | b::bs,m::ms,f,t,ht,h,i,c,l,hc,hl=>by
  rw [XU] at h
  split at h
  ·omega
  ·rename_i hq
   have h0:0<=X6 n (us++m) b:=by
    rcases Int.lt_or_le (X6 n (us++m) b) 0 with q|q
    ·exact absurd (.inl q) hq
    ·exact q
   cases i with
   | zero=>simp at hc hl;subst hc hl;exact h0
   | succ i=>exact Px h0 h i c l (by simpa using hc) (by simpa using hl)
structure Ag (n:Zm) (us:LI) (s:Z5):Prop where
 args:∀a∈s.args,0<=a/\a<us.length
 one:(s.op=7∨s.op=8∨(14<=s.op/\s.op<=17))->∃a,s.args=[a]
 num:s.op=9->0<=s.num/\s.num<n.routines.length
 into:s.into≠0->1<=s.into/\s.into<=us.length
 kids:(s.op=7∨s.op=8)->s.kids.length=(Xj n.decls s.op s.num).length/\(Xj n.decls s.op s.num).length≠0 /\
  ∀(i:Nat) (b:Z6) (m:LI),s.kids[i]? = some b->(Xj n.decls s.op s.num)[i]? = some m->0<=X6 n (us++m) b
theorem Zb2 {n:Zm} {us:LI} {op num:Int} {kids:List Z6} (h:0<=TO n us op num kids) :
  kids.length=(Xj n.decls op num).length/\(Xj n.decls op num).length≠0/\∀(i:Nat) (b:Z6) (m:LI),kids[i]? = some b->(Xj n.decls op num)[i]? = some m->0<=X6 n (us++m) b:=by
 rw [TO] at h
 split at h
 ·omega
 ·rename_i hq
  exact ⟨by omega,by omega,Px (Int.le_refl 0) h⟩
theorem PT {xs:LI} (h:xs.length=1):∃a,xs=[a]:=by
 match xs,h with
 | [a],_=>exact ⟨a,rfl⟩
theorem EM {n:Zm} {us:LI} {s:Z5} (h:0<=Y8 n us s):Ag n us s:=by
 rw [AO] at h
 split at h
 ·omega
 rename_i h0
 have hinto:s.into≠0->1<=s.into/\s.into<=us.length:=by
  intro hi
  have hv:Uf us s.op s.into=true:=by
   cases q:Uf us s.op s.into with
   | true=>rfl
   | false=>exact absurd (.inr (.inl (by rw [q];simp))) h0
  rw [Uf,Z8 hi] at hv
  split at hv
  ·cases ha:Xm us (s.into-1) with
   | none=>rw [ha] at hv;cases hv
   | some t=>have:=(KX ha).1;omega
  ·cases hv
 have mk:(∀a∈s.args,0<=a/\a<us.length)->((s.op=7∨s.op=8∨(14<=s.op/\s.op<=17))->∃a,s.args=[a])->(s.op=9->0<=s.num/\s.num<n.routines.length) ->
   ((s.op=7∨s.op=8)->0<=TO n us s.op s.num s.kids)->Ag n us s:=fun a b c d=>⟨a,b,c,hinto,fun q=>Zb2 (d q)⟩
 have ty:∀{tys},W9 us s.args tys=true->s.args.length=tys.length/\∀a∈s.args,0<=a/\a<us.length:=fun q=>Mu q
 split at h
 ·rename_i h1
  split at h
  ·rename_i h2
   exact mk (by rw [List.eq_nil_of_length_eq_zero h2.1];simp) om om om
  ·omega
 split at h
 ·split at h
  ·rename_i h1 h2;exact mk (ty h2).2 om om om
  ·omega
 split at h
 ·split at h
  ·rename_i h1 h2;exact mk (ty h2).2 om om om
  ·omega
 split at h
 ·split at h
  ·rename_i h1 h2;exact mk (ty h2.2).2 om om om
  ·omega
 split at h
 ·split at h
  ·rename_i h1 h2;exact mk (ty h2).2 (fun _=>PT (by simpa using (ty h2).1)) om (fun _=>h)
  ·omega
 split at h
 ·split at h
  ·rename_i h1 h2;exact mk (ty h2).2 (fun _=>PT (by simpa using (ty h2).1)) om (fun _=>h)
  ·omega
 split at h
 ·rename_i hop
  rw [Ur] at h
  cases hr:Xm n.routines s.num with
  | none=>rw [hr] at h;simp at h
  | some r=>
   rw [hr] at h
   simp only at h
   have hn:=(KX hr).1
   rw [KD] at h
   split at h
   ·split at h
    ·rename_i h2;exact mk (ty h2).2 om om om
    ·omega
   ·split at h
    ·omega
    ·rename_i h2
     have h3:W9 us s.args (r.params.take (r.params.length-1))=true:=by
      cases q:W9 us s.args (r.params.take (r.params.length-1)) with
      | true=>rfl
      | false=>exact absurd (.inr (.inr (by rw [q];simp))) h2
     exact mk (ty h3).2 om om om
 split at h
 ·rename_i hop
  rcases he:s.args with _|⟨a,_|⟨b,_|⟨c,r⟩⟩⟩
  ·rw [he,show QU n.decls us []=-1 from rfl] at h;omega
  ·rw [he,show QU n.decls us [a]=-1 from rfl] at h;omega
  ·rw [he,QU] at h
   cases ha:Xm us a with
   | none=>rw [ha] at h;simp at h
   | some t=>
    rw [ha] at h
    simp only at h
    split at h
    ·cases hd:n.decls[(t-1).toNat]? with
     | none=>rw [hd] at h;simp at h
     | some d=>
      rw [hd] at h
      simp only at h
      split at h
      ·rename_i h3
       have h4:=(Mu h3).2 b (by simp)
       have h5:=(KX ha).1
       refine mk (fun x hx=>?_) om om om
       rw [he] at hx
       rcases YF.1 hx with rfl|hx
       ·omega
       ·rw [XD.1 hx];exact h4
      ·omega
    ·omega
  ·rw [he,show QU n.decls us (a::b::c::r)=-1 from rfl] at h;omega
 split at h
 ·rename_i hop
  rcases he:s.args with _|⟨a,_|⟨b,r⟩⟩
  ·rw [he,show QA n.decls us s.op []=-1 from rfl] at h;omega
  ·rw [he,QA] at h
   cases ha:Xm us a with
   | none=>rw [ha] at h;simp at h
   | some t=>
    have h5:=(KX ha).1
    refine mk (fun x hx=>?_) (fun _=>⟨a,he⟩) om om
    rw [he] at hx
    rw [XD.1 hx];omega
  ·rw [he,show QA n.decls us s.op (a::b::r)=-1 from rfl] at h;omega
 ·omega
def Qv (n:Zm) (us:LI) (s:Z5):LI:=if XF s.op=true then us++[Y8 n us s] else us
theorem I6 {L L':Zr} {ln:LI} {v:Int} (h:JU L ln v=some L'):L'.vars=L.vars/\L'.par=L.par/\L'.con=L.con/\L'.fst=L.fst/\L'.tok=L.tok/\L'.own=L.own.set v.toNat (gI L.own v+1):=by
 rw [JU] at h
 split at h
 ·cases h;exact ⟨rfl,rfl,rfl,rfl,rfl,rfl⟩
 ·cases h
theorem HF:∀(fs:LI) (own:LI) (p:Int),(Ts own p fs).length=own.length
 | [],own,p=>rfl
 | f::r,own,p=>by rw [Ts,HF r];split<;>simp
theorem Iz {xs:LI} {q v:Int} (h:∀x∈xs,x<=q) (hq:0<=q):gI xs v<=q:=by
 by_cases h0:gI xs v=0
 ·omega
 ·exact h _ (IB h0)
theorem IC {xs:LI} {v:Int} (h:∀x∈xs,0<=x):0<=gI xs v:=by
 by_cases h0:gI xs v=0
 ·omega
 ·exact h _ (IB h0)
theorem HG:∀(fs:LI) (own:LI) (p:Int),(∀x∈own,0<=x)->∀x∈Ts own p fs,0<=x
 | [],own,p,h=>h
 | f::r,own,p,h=>by
  rw [Ts]
  refine HG r _ _ fun x hx=>?_
  split at hx
  ·rcases Ja hx with hx|rfl
   ·exact h x hx
   ·have:=IC (v:=p) h;omega
  ·exact h x hx
theorem HE:∀(fs:LI) (own:LI) (p q:Int),0<=q->(∀x∈own,x<=q)->∀x∈Ts own p fs,x<=q+fs.length
 | [],own,p,q,hq,h=>by intro x hx;have:=h x hx;simp;omega
 | f::r,own,p,q,hq,h=>by
  intro x hx
  rw [Ts] at hx
  have:=HE r _ _ (q+1) om (fun y hy=>by
   split at hy
   ·rcases Ja hy with hy|rfl
    ·have:=h y hy;omega
    ·have:=Iz (v:=p) h hq;omega
   ·have:=h y hy;omega) x hx
  simp only [YS];omega
theorem Lv {ds:List Zg} {L L':Zr} {op v:Int} (h:Qr ds L op v=some L'):L'.vars=L.vars/\L'.par=L.par/\L'.con=L.con/\L'.fst=L.fst/\L'.tok.length=L.tok.length /\
  ∃L1,UM L v=some L1/\L'.own=Ts L1.own (gI L.fst v) (ZV ds (gI L.con v)):=by
 rw [Qr] at h
 split at h
 ·cases h
 ·cases ht:UM L v with
  | none=>rw [ht] at h;cases h
  | some L1=>
   rw [ht] at h
   simp only at h
   obtain ⟨t1,t2,t3,t4,t5,t6,t7⟩:=Ki ht
   cases h
   refine ⟨t2,t3,t4,t5,?_,L1,rfl,rfl⟩
   split
   ·rw [VN]
   ·rfl
theorem FQ {n:Zm} {op num:Int} {ds:List Zg} {q:Int}:∀{as1:LI} {i:Nat} {L L':Zr},X8 ds L q->UX n op num as1 i L=some L'->X8 ds L' q/\L'.vars=L.vars/\L'.par=L.par/\L'.con=L.con/\L'.fst=L.fst/\L'.tok=L.tok
 | [],i,L,L',hk,h=>by rw [UX] at h;cases h;exact ⟨hk,rfl,rfl,rfl,rfl,rfl⟩
 | a::r,i,L,L',hk,h=>by
  rw [UX] at h
  split at h
  ·cases ht:UM L a with
   | none=>rw [ht] at h;cases h
   | some L1=>
    rw [ht] at h
    obtain ⟨t1,t2,t3,t4,t5,t6,t7⟩:=Ki ht
    obtain ⟨k1,k2,k3,k4,k5,k6⟩:=FQ (hk.take ht) h
    exact ⟨k1,k2.trans t2,k3.trans t3,k4.trans t4,k5.trans t5,k6.trans t6⟩
  ·exact FQ hk h
theorem X8.le {ds:List Zg} {L:Zr} {q q':Int} (h:X8 ds L q) (hq:q<=q'):X8 ds L q':=⟨h.len,h.down,h.arm,h.nn,fun x hx=>Int.le_trans (h.bd x hx) hq⟩
theorem X8.turn {ds:List Zg} {L L':Zr} {q q':Int} (hk:X8 ds L q) (h1:L'.vars=L.vars) (h2:L'.par=L.par) (h3:L'.con=L.con) (h4:L'.fst=L.fst) (h5:L'.tok.length=L.tok.length) (h6:L'.own.length=L.own.length)
  (h7:∀x∈L'.own,0<=x) (h8:∀x∈L'.own,x<=q'):X8 ds L' q':=by
 obtain ⟨f1,f2,f3,f4,f5⟩:=hk.len
 refine ⟨⟨by rw [h6,h1];exact f1,by rw [h2,h1];exact f2,by rw [h3,h1];exact f3,by rw [h4,h1];exact f4,by rw [h5,h1];exact f5⟩,?_,?_,h7,h8⟩
 ·rw [h1,h2];exact hk.down
 ·rw [h1,h3,h4];exact hk.arm
theorem Bg {xs ys:LI} {j:Int} (h:j.toNat<xs.length):gI (xs++ys) j=gI xs j:=by
 rw [gI,gI,DA h]
theorem IA {xs:LI} {y:Int} {j:Int} (h:j.toNat=xs.length):gI (xs++[y]) j=y:=by
 rw [gI,h];simp
theorem X8.grow {ds:List Zg} {L:Zr} {q t o p:Int} (hk:X8 ds L q) (hp:p<L.vars.length) (ho:0<=o/\o<=q):X8 ds (L.grow t o p) q:=by
 obtain ⟨f1,f2,f3,f4,f5⟩:=hk.len
 refine ⟨⟨by simp [Zr.grow,f1],by simp [Zr.grow,f2],by simp [Zr.grow,f3],by simp [Zr.grow,f4],by simp [Zr.grow,f5]⟩,?_,?_,?_,?_⟩
 ·intro j hj hl
  simp only [Zr.grow,Yr,Hu] at hl ⊢
  by_cases hlt:j<L.vars.length
  ·rw [Bg om];exact hk.down j hj hlt
  ·rw [IA om];omega
 ·intro x hx hl
  simp only [Zr.grow,Yr,Hu] at hl ⊢
  by_cases hlt:x<L.vars.length
  ·rw [Bg om,Bg om]
   intro hc
   have:=hk.arm x hx hlt hc
   exact ⟨this.1,by omega⟩
  ·rw [IA om];omega
 ·intro x hx
  simp only [Zr.grow,Xa,XD] at hx
  rcases hx with hx|rfl
  ·exact hk.nn x hx
  ·exact ho.1
 ·intro x hx
  simp only [Zr.grow,Xa,XD] at hx
  rcases hx with hx|rfl
  ·exact hk.bd x hx
  ·exact ho.2
theorem ID {xs:LI} {k:Nat} {a:Int} {j:Int} (h:xs.length<=j.toNat/\j.toNat<xs.length+k):gI (xs++List.replicate k a) j=a:=by
 rw [gI,Cu h.1,List.getElem?_replicate,Ze om];rfl
theorem FH {xs:LI} {x j c:Int} (h:j.toNat=x.toNat) (hl:x.toNat<xs.length):gI (xs.set x.toNat c) j=c:=by
 rw [gI,h,List.getElem?_set_self hl];rfl
theorem FI {xs:LI} {x j c:Int} (h:j.toNat≠x.toNat):gI (xs.set x.toNat c) j=gI xs j:=by
 rw [gI,gI,List.getElem?_set_ne (fun q=>h q.symm)]
theorem IJ {p:Int}:∀(fs:LI) (L:Zr),J2 L p fs=⟨L.vars++fs,L.own++List.replicate fs.length 0,L.par++List.replicate fs.length p,L.con++List.replicate fs.length (-1),
  L.fst++List.replicate fs.length (-1),L.tok++List.replicate fs.length (-1)⟩
 | [],L=>by simp [J2]
 | t::r,L=>by rw [J2,IJ r];simp [Zr.grow,MG]
theorem Z2c {ds:List Zg} {L:Zr} {q x c:Int} (hk:X8 ds L q) (hq:0<=q) (hx:0<=x/\x<L.vars.length):X8 ds (JO ds L x c) q/\(JO ds L x c).vars=L.vars++ZV ds c:=by
 obtain ⟨f1,f2,f3,f4,f5⟩:=hk.len
 rw [JO,IJ]
 refine ⟨⟨⟨by simp [f1],by simp [f2],by simp [f3],by simp [f4],by simp [f5]⟩,?_,?_,?_,?_⟩,rfl⟩
 ·intro j hj hl
  simp only [Yr] at hl ⊢
  by_cases hlt:j<L.vars.length
  ·rw [Bg om];exact hk.down j hj hlt
  ·rw [ID om];omega
 ·intro y hy hl
  simp only [Yr] at hl ⊢
  by_cases hlt:y<L.vars.length
  ·rw [Bg (by simp;omega),Bg (by simp;omega)]
   by_cases he:y.toNat=x.toNat
   ·rw [FH he om,FH he om]
    intro _
    exact ⟨by omega,by simp⟩
   ·rw [FI he,FI he]
    intro hc
    have:=hk.arm y hy hlt hc
    exact ⟨this.1,by omega⟩
  ·rw [ID (by simp;omega)];omega
 ·intro y hy
  simp only [Xa,List.mem_replicate] at hy
  rcases hy with hy|⟨_,rfl⟩
  ·exact hk.nn y hy
  ·exact Int.le_refl 0
 ·intro y hy
  simp only [Xa,List.mem_replicate] at hy
  rcases hy with hy|⟨_,rfl⟩
  ·exact hk.bd y hy
  ·exact hq
theorem Dc {n:Zm} {L:Zr} {q:Int} {s:Z5} {i:Nat} {m:LI} (hk:X8 n.decls L q) (hq:0<=q) (hf:Ag n L.vars s) (hop:s.op=7∨s.op=8) (hm:(Xj n.decls s.op s.num)[i]? = some m) :
  X8 n.decls (VA n.decls L s.op s.num s.args i) q/\(VA n.decls L s.op s.num s.args i).vars=L.vars++m:=by
 rw [VA]
 split
 ·rename_i h8
  obtain ⟨a,ha⟩:=hf.one om
  have hb:=hf.args a (by rw [ha];simp)
  have hg:gI s.args 0=a:=by rw [ha];rfl
  rw [Xj,Z8 om,Us] at hm
  cases hc:(ZX n.decls s.num)[i]? with
  | none=>rw [hc] at hm;cases hm
  | some c=>
   rw [hc] at hm
   cases hm
   have hgc:gI (ZX n.decls s.num) (i:Int)=c:=by rw [gI];simp [hc]
   rw [hg,hgc]
   exact Z2c hk hq hb
 ·rename_i h8
  rw [Xj,Ze om] at hm
  have:m=[]:=by
   match i,hm with
   | 0,hm=>simpa using hm.symm
   | 1,hm=>simpa using hm.symm
   | i+2,hm=>simp at hm
  subst this
  exact ⟨hk,by simp⟩
theorem Z0h {n:Zm}:∀{l:List Z5} {us vs:LI},XV n l us=some vs->us.length<=vs.length
 | [],us,vs,h=>by rw [XV] at h;cases h;exact X3 _
 | s::r,us,vs,h=>by
  rw [XV] at h
  split at h
  ·cases h
  ·have:=Z0h h
   split at this
   ·simp only [Yr,Hu] at this;omega
   ·exact this
theorem OK {n:Zm} {ln:LI} {L L':Zr} {op num into q:Int} {args:LI} {ds:List Zg} (hk:X8 ds L q) (h:Ux n ln L op num into args=some L'):X8 ds L' q/\L'.vars=L.vars:=by
 rw [Ux] at h
 cases ht:UX n op num args 0 L with
 | none=>rw [ht] at h;cases h
 | some L1=>
  rw [ht] at h
  simp only at h
  obtain ⟨k1,k2,k3,k4,k5,k6⟩:=FQ hk ht
  split at h
  ·rw [J4] at h
   split at h
   ·split at h
    ·cases h
    ·cases h
     exact ⟨k1.turn rfl rfl rfl rfl (by simp) rfl k1.nn k1.bd,k2⟩
   ·cases h;exact ⟨k1,k2⟩
  ·cases h
theorem Z4f {L L':Zr} {m:Nat} (h:UD L m=some L'):L'=L.take m/\V5 (L.own.drop m) (L.tok.drop m)=true:=by
 rw [UD] at h
 split at h
 ·rename_i hz;cases h;exact ⟨rfl,hz⟩
 ·cases h
theorem Mt {r:Option Zr} {f:Zr->Option Zr} {L:Zr} (h:Dw r f=some L):∃L1,r=some L1/\f L1=some L:=by
 cases r with
 | none=>cases h
 | some L1=>exact ⟨L1,rfl,h⟩
theorem Lf (n:Zm) (hn:X1 n) (ln:LI):∀m:Nat,
  (∀(s:Z5) (L L':Zr) (q:Int),s.sz<=m->X8 n.decls L q->0<=q->0<=Y8 n L.vars s->VV n ln L s=some L'->X8 n.decls L' (q+4*s.sz)/\L'.vars=Qv n L.vars s) /\
  (∀(b:Z6) (L O:Zr) (q:Int) (k:Nat),b.sz<=m->X8 n.decls L q->0<=q->0<=X6 n L.vars b->k<=L.vars.length->WO n ln L k b=some O ->
   (O.own.length=k/\O.tok.length=k/\(∀x∈O.own,0<=x/\x<=q+4*b.sz))/\WB O/\O.vars.length=k):=by
 intro m
 induction m with
 | zero=>exact ⟨fun s _ _ _ h=>by have:=s.sz_pos;omega,fun s _ _ _ _ h=>by have:=s.sz_pos;omega⟩
 | succ m ih=>
  have hs:∀(s:Z5) (L L':Zr) (q:Int),s.sz<=m+1->X8 n.decls L q->0<=q->0<=Y8 n L.vars s->VV n ln L s=some L'->X8 n.decls L' (q+4*s.sz)/\L'.vars=Qv n L.vars s:=by
   intro s L L' q Xo hk hq hty h
   have hp:=s.sz_pos
   have hf:=EM hty
   obtain ⟨f1,f2,f3,f4,f5⟩:=hk.len
   rw [Mn] at h
   unfold J0 at h
   cases hpk:TR n ln L s.op s.num s.into s.args (T0 n ln L s.op s.num s.args s.kids) with
   | none=>rw [hpk] at h;cases h
   | some L1=>
    rw [hpk] at h
    simp only at h
    have key:X8 n.decls L1 (q+4*s.sz)/\L1.vars=L.vars:=by
     rw [TR] at hpk
     split at hpk
     ·obtain ⟨d1,d2,d3,d4,d5,d6⟩:=I6 hpk
      refine ⟨hk.turn d1 d2 d3 d4 (by rw [d5]) (by rw [d6,VN]) ?_ ?_,d1⟩
      ·rw [d6];intro x hx
       rcases Ja hx with hx|rfl
       ·exact hk.nn x hx
       ·have:=IC (v:=gI s.args 0) hk.nn;omega
      ·rw [d6];intro x hx
       rcases Ja hx with hx|rfl
       ·have:=hk.bd x hx;omega
       ·have:=Iz (v:=gI s.args 0) hk.bd hq;omega
     split at hpk
     ·exact ⟨(hk.take hpk).le om,(Ki hpk).2.1⟩
     split at hpk
     ·rename_i hop
      obtain ⟨d1,d2,d3,d4,d5,Lt,ht,d6⟩:=Lv hpk
      have hkt:=hk.take ht
      have h3:=U5 hn.decls (gI L.con (gI s.args 0))
      refine ⟨hk.turn d1 d2 d3 d4 d5 ?_ ?_ ?_,d1⟩
      ·rw [d6,HF,(Ki ht).2.2.2.2.2.2,VN]
      ·rw [d6];exact HG _ _ _ hkt.nn
      ·rw [d6];intro x hx
       have:=HE _ _ _ q hq hkt.bd x hx;omega
     split at hpk
     ·rename_i hop
      split at hpk
      ·cases hpk
      ·cases hks:s.kids with
       | nil=>rw [hks,T0] at hpk;cases hpk
       | cons b bs=>
        rw [hks,T0] at hpk
        unfold Bn at hpk
        cases hb:WO n ln (VA n.decls L s.op s.num s.args 0) L.vars.length b with
        | none=>rw [hb] at hpk;cases hpk
        | some one=>
         rw [hb] at hpk
         simp only at hpk
         split at hpk
         ·cases hpk
          obtain ⟨q1,q2,q3⟩:=hf.kids hop
          have hks0:s.kids[0]? = some b:=by rw [hks];rfl
          obtain ⟨a0,ha0⟩:=J1 (xs:=Xj n.decls s.op s.num) (j:=0) om
          obtain ⟨k1,k2⟩:=Dc hk hq hf hop ha0
          have hbz:=TE hks0
          obtain ⟨⟨r1,r2,r3⟩,_⟩:=ih.2 b _ one q L.vars.length om k1 hq (by rw [k2];exact q3 0 b a0 hks0 ha0) (by rw [k2];simp) hb
          refine ⟨hk.turn rfl rfl rfl rfl (by simp only;omega) (by simp only;omega) (fun x hx=>(r3 x hx).1) (fun x hx=>?_),rfl⟩
          have:=(r3 x hx).2;omega
         ·cases hpk
     ·obtain ⟨k1,k2⟩:=OK hk hpk
      exact ⟨k1.le om,k2⟩
    split at h
    ·rename_i hd
     cases h
     refine ⟨key.1.grow om ?_,by rw [Qv,Ze hd];simp [Zr.grow,key.2]⟩
     split<;>omega
    ·rename_i hd
     cases h
     exact ⟨key.1,by rw [Qv,Z8 hd];exact key.2⟩
  refine ⟨hs,?_⟩
  intro b L O q k Xo hk hq hty hkl h
  have hsteps:∀(l:List Z5) (L L':Zr) (q:Int) (vs:LI),Y9 l<=m->X8 n.decls L q->0<=q->XV n l L.vars=some vs->WL n ln L l=some L'->X8 n.decls L' (q+4*Y9 l)/\L'.vars=vs:=by
   intro l
   induction l with
   | nil=>intro L L' q vs _ hk _ h1 h2;rw [XV] at h1;rw [WL] at h2;cases h1;cases h2;exact ⟨by simpa [Y9] using hk,rfl⟩
   | cons s r ihr=>
    intro L L' q vs hz hk hq h1 h2
    rw [Y9] at hz
    rw [WL] at h2
    obtain ⟨L1,e1,e2⟩:=Mt h2
    rw [XV] at h1
    split at h1
    ·cases h1
    ·rename_i h0
     obtain ⟨k1,k2⟩:=hs s L L1 q om hk hq om e1
     obtain ⟨k3,k4⟩:=ihr L1 L' (q+4*s.sz) vs om k1 om (by rw [k2];exact h1) e2
     exact ⟨k3.le (by rw [Y9];omega),k4⟩
  have hbz:=b.sz_eq
  rw [Jq] at h
  obtain ⟨L1,e1,e2⟩:=Mt h
  rw [F7] at hty
  cases hv:XV n b.steps L.vars with
  | none=>rw [hv] at hty;simp at hty
  | some vs=>
   obtain ⟨k1,k2⟩:=hsteps b.steps L L1 q vs om hk hq hv e1
   have hlen:=Z0h hv
   rw [U9] at e2
   obtain ⟨L2,e3,e4⟩:=Mt e2
   have k3:X8 n.decls L2 (q+4*Y9 b.steps)/\L2.vars=L1.vars:=by
    split at e3
    ·exact ⟨k1.take e3,(Ki e3).2.1⟩
    ·cases e3;exact ⟨k1,rfl⟩
   obtain ⟨rfl,_⟩:=Z4f e4
   obtain ⟨g1,g2,g3,g4,g5⟩:=k3.1.len
   have hl2:L2.vars.length=vs.length:=by rw [k3.2,k2]
   refine ⟨⟨by simp [Zr.take];omega,by simp [Zr.take];omega,fun x hx=>?_⟩,⟨by simp [Zr.take];omega,by simp [Zr.take];omega,by simp [Zr.take];omega,by simp [Zr.take];omega,by simp [Zr.take];omega⟩,by simp [Zr.take];omega⟩
   have hx':x∈L2.own:=Qe hx
   have:=k3.1.nn x hx'
   have:=k3.1.bd x hx'
   omega
theorem H3 {n:Zm} (hn:X1 n) {ln:LI} {s:Z5} {L L':Zr} {q:Int} (hk:X8 n.decls L q) (hq:0<=q) (hty:0<=Y8 n L.vars s) (h:VV n ln L s=some L'):X8 n.decls L' (q+4*s.sz)/\L'.vars=Qv n L.vars s:=
 (Lf n hn ln s.sz).1 s L L' q (X3 _) hk hq hty h
theorem Nj {n:Zm} (hn:X1 n) {ln:LI} {b:Z6} {L O:Zr} {q:Int} {k:Nat} (hk:X8 n.decls L q) (hq:0<=q) (hty:0<=X6 n L.vars b) (hkl:k<=L.vars.length) (h:WO n ln L k b=some O) :
  O.own.length=k/\O.tok.length=k/\(∀x∈O.own,0<=x/\x<=q+4*b.sz):=
 ((Lf n hn ln b.sz).2 b L O q k (X3 _) hk hq hty hkl h).1
theorem Bw {n:Zm} (hn:X1 n) {ln:LI} {s:Z5} {L L1:Zr} {q:Int} (hk:X8 n.decls L q) (hq:0<=q) (hf:Ag n L.vars s)
  (hpk:TR n ln L s.op s.num s.into s.args (T0 n ln L s.op s.num s.args s.kids)=some L1):X8 n.decls L1 (q+4*s.sz)/\L1.vars=L.vars:=by
 have hp:=s.sz_pos
 obtain ⟨f1,f2,f3,f4,f5⟩:=hk.len
 rw [TR] at hpk
 split at hpk
 ·obtain ⟨d1,d2,d3,d4,d5,d6⟩:=I6 hpk
  refine ⟨hk.turn d1 d2 d3 d4 (by rw [d5]) (by rw [d6,VN]) ?_ ?_,d1⟩
  ·rw [d6];intro x hx
   rcases Ja hx with hx|rfl
   ·exact hk.nn x hx
   ·have:=IC (v:=gI s.args 0) hk.nn;omega
  ·rw [d6];intro x hx
   rcases Ja hx with hx|rfl
   ·have:=hk.bd x hx;omega
   ·have:=Iz (v:=gI s.args 0) hk.bd hq;omega
 split at hpk
 ·exact ⟨(hk.take hpk).le om,(Ki hpk).2.1⟩
 split at hpk
 ·rename_i hop
  obtain ⟨d1,d2,d3,d4,d5,Lt,ht,d6⟩:=Lv hpk
  have hkt:=hk.take ht
  have h3:=U5 hn.decls (gI L.con (gI s.args 0))
  refine ⟨hk.turn d1 d2 d3 d4 d5 ?_ ?_ ?_,d1⟩
  ·rw [d6,HF,(Ki ht).2.2.2.2.2.2,VN]
  ·rw [d6];exact HG _ _ _ hkt.nn
  ·rw [d6];intro x hx
   have:=HE _ _ _ q hq hkt.bd x hx;omega
 split at hpk
 ·rename_i hop
  split at hpk
  ·cases hpk
  ·cases hks:s.kids with
   | nil=>rw [hks,T0] at hpk;cases hpk
   | cons b bs=>
    rw [hks,T0] at hpk
    unfold Bn at hpk
    cases hb:WO n ln (VA n.decls L s.op s.num s.args 0) L.vars.length b with
    | none=>rw [hb] at hpk;cases hpk
    | some one=>
     rw [hb] at hpk
     simp only at hpk
     split at hpk
     ·cases hpk
      obtain ⟨q1,q2,q3⟩:=hf.kids hop
      have hks0:s.kids[0]? = some b:=by rw [hks];rfl
      obtain ⟨a0,ha0⟩:=J1 (xs:=Xj n.decls s.op s.num) (j:=0) om
      obtain ⟨k1,k2⟩:=Dc hk hq hf hop ha0
      have hbz:=TE hks0
      obtain ⟨r1,r2,r3⟩:=Nj hn k1 hq (by rw [k2];exact q3 0 b a0 hks0 ha0) (by rw [k2];simp) hb
      refine ⟨hk.turn rfl rfl rfl rfl (by simp only;omega) (by simp only;omega) (fun x hx=>(r3 x hx).1) (fun x hx=>?_),rfl⟩
      have:=(r3 x hx).2;omega
     ·cases hpk
 ·obtain ⟨k1,k2⟩:=OK hk hpk
  exact ⟨k1.le om,k2⟩
end Go.Abs
section
namespace Go.Abs
theorem HK {ds:List Zg} {op num:Int} {i:Nat} {m:LI} (h8:op=8) (h:(Xj ds op num)[i]? = some m):∃c,(ZX ds num)[i]? = some c/\m=ZV ds c:=by
 rw [Xj,Z8 om,Us] at h
 cases hc:(ZX ds num)[i]? with
 | none=>rw [hc] at h;cases h
 | some c=>rw [hc] at h;cases h;exact ⟨c,rfl,rfl⟩
theorem Zav {ds:List Zg} {L:Zr} {op num x c:Int} {args:LI} {i:Nat} (h8:op=8) (hx:args[0]? = some x) (hc:(ZX ds num)[i]? = some c):VA ds L op num args i=JO ds L x c:=by
 have h1:gI args 0=x:=by rw [gI];simp [hx]
 have h2:gI (ZX ds num) (i:Int)=c:=by rw [gI];simp [hc]
 rw [VA,Ze h8,h1,h2]
theorem Zaw {ds:List Zg} {L:Zr} {op num:Int} {args:LI} {i:Nat} (h8:¬op=8):VA ds L op num args i=L:=by rw [VA,Z8 h8]
theorem Zb1 {n:Zm} {ln:LI} {L:Zr} {op num:Int} {args:LI} {kids:List Z6} {kb:Z6} (h:kids[0]? = some kb) :
  T0 n ln L op num args kids=Bn L (WO n ln (VA n.decls L op num args 0) L.vars.length kb) fun one=>TN n ln L op num args one (kids.drop 1) 1:=by
 cases kids with
 | nil=>simp at h
 | cons b bs=>simp at h;subst h;rw [T0];rfl
theorem Ei {n:Zm} {ln:LI} {L one:Zr} {op num:Int} {args:LI} {kids:List Z6} {kb:Z6} {k:Nat} (h:kids[k]? = some kb) :
  TN n ln L op num args one (kids.drop k) k=GR one (WO n ln (VA n.decls L op num args k) L.vars.length kb) (TN n ln L op num args one (kids.drop (k+1)) (k+1)):=by
 rw [Y7 h,TN]
def Js (n:Zm) (ln:LI) (L:Zr) (s:Z5):Option Zr:=
 if s.op=8/\¬Wk L ln (gI s.args 0)=true then none else T0 n ln L s.op s.num s.args s.kids
theorem Z3f {n:Zm} {ln:LI} {L:Zr} {s:Z5} (h8:s.op=8) (ha:¬Wk L ln (gI s.args 0)=true):Js n ln L s=none:=by rw [Js,Ze ⟨h8,ha⟩]
theorem Nx {n:Zm} {ln:LI} {L:Zr} {s:Z5} {kb:Z6} (h:¬(s.op=8/\¬Wk L ln (gI s.args 0)=true)) (hk:s.kids[0]? = some kb) :
  Js n ln L s=Bn L (WO n ln (VA n.decls L s.op s.num s.args 0) L.vars.length kb) fun one=>TN n ln L s.op s.num s.args one (s.kids.drop 1) 1:=by
 rw [Js,Z8 h,Zb1 hk]
theorem Jz {xs:LI} {x:Int} (h:xs[0]? = some x):gI xs 0=x:=by rw [gI];simp [h]
end Go.Abs
namespace Go.Abs
theorem WB.grow {L:Zr} {t o p:Int} (h:WB L):WB (L.grow t o p):=by
 obtain ⟨f1,f2,f3,f4,f5⟩:=h
 exact ⟨by simp [Zr.grow,f1],by simp [Zr.grow,f2],by simp [Zr.grow,f3],by simp [Zr.grow,f4],by simp [Zr.grow,f5]⟩
theorem WB.arm {L:Zr} {i j:Nat} {c d:Int} (h:WB L):WB ⟨L.vars,L.own,L.par,L.con.set i c,L.fst.set j d,L.tok⟩:=by
 obtain ⟨f1,f2,f3,f4,f5⟩:=h
 exact ⟨f1,f2,by simp [f3],by simp [f4],f5⟩
end Go.Abs
namespace Go.Abs
theorem Pv {n:Zm} (hn:X1 n) {ln:LI} {L O:Zr} {q:Int} {s:Z5} {i:Nat} {kb:Z6} {m:LI} (hk:X8 n.decls L q) (hq:0<=q) (hf:Ag n L.vars s) (hop:s.op=7∨s.op=8)
  (_:s.kids[i]? = some kb) (harm:(Xj n.decls s.op s.num)[i]? = some m) (hbt:0<=X6 n (L.vars++m) kb) (h:WO n ln (VA n.decls L s.op s.num s.args i) L.vars.length kb=some O) :
  O.own.length=L.vars.length/\O.tok.length=L.vars.length:=by
 obtain ⟨k1,k2⟩:=Dc hk hq hf hop harm
 obtain ⟨r1,r2,_⟩:=Nj hn k1 hq (by rw [k2];exact hbt) (by rw [k2];simp) h
 exact ⟨r1,r2⟩
theorem Sm {one two:Zr} {r:Bool} (h:¬(¬one.own=two.own∨¬one.tok=two.tok)):GR one (some two) r=r:=Ze ⟨V6.1 fun q=>h (.inl q),V6.1 fun q=>h (.inr q)⟩
theorem Sl {one two:Zr} {r:Bool} (h:¬one.own=two.own∨¬one.tok=two.tok):GR one (some two) r=false:=Z8 fun q=>h.elim (fun z=>z q.1) fun z=>z q.2
theorem PV {L one:Zr} {f:Zr->Bool} (h:f one=true):Bn L (some one) f=some ⟨L.vars,one.own,L.par,L.con,L.fst,one.tok⟩:=Ze h
theorem En {L one:Zr} {f:Zr->Bool} (h:f one=false):Bn L (some one) f=none:=Z8 (by rw [h];simp)
end Go.Abs
namespace Go.Abs
section
variable {n:Zm} {ln:LI} {L:Zr} {s:Z5}
abbrev QJ (n:Zm) (ln:LI) (L:Zr) (s:Z5):Option Zr:=TR n ln L s.op s.num s.into s.args (T0 n ln L s.op s.num s.args s.kids)
theorem Ly {x:Int} (h:s.op=14) (hx:gI s.args 0=x):QJ n ln L s=JU L ln x:=hx▸Ze h
theorem Lz {x:Int} (h:s.op=15) (hx:gI s.args 0=x):QJ n ln L s=UM L x:=by rw [<-hx,QJ,TR,Z8 om,Ze h]
theorem LA {x:Int} (h:s.op=16∨s.op=17) (hx:gI s.args 0=x):QJ n ln L s=Qr n.decls L s.op x:=by rw [<-hx,QJ,TR,Z8 om,Z8 om,Ze h]
theorem Gy (h:s.op=7∨s.op=8):QJ n ln L s=Js n ln L s:=by rw [QJ,TR,Z8 om,Z8 om,Z8 om,Ze h,Js]
theorem Rt (h1:¬s.op=14) (h2:¬s.op=15) (h3:¬(s.op=16∨s.op=17)) (h4:¬(s.op=7∨s.op=8)):QJ n ln L s=Ux n ln L s.op s.num s.into s.args:=by
 rw [QJ,TR,Z8 h1,Z8 h2,Z8 h3,Z8 h4]
theorem Z54 {v:Int} (h:¬Wk L ln v=true):JU L ln v=none:=Z8 h
theorem Z55 {v x:Int} (h:¬¬Wk L ln v=true) (hx:gI L.own v=x):JU L ln v=some ⟨L.vars,L.own.set v.toNat (x+1),L.par,L.con,L.fst,L.tok⟩:=by rw [JU,Ze (V6.1 h),hx]
theorem UL (n:Zm) (ln:LI) (L:Zr) (s:Z5):VV n ln L s=J0 L s.op (Y8 n L.vars s) (QJ n ln L s):=Mn n ln L s
theorem TA {X:Zr} {op t:Int} (h:XF op=true/\t≠0):J0 L op t (some X)=some (X.grow t 1 (-1)):=by
 unfold J0;simp only [h.1,↓reduceIte];rw [Ze h.2]
theorem TB {X:Zr} {op t:Int} (h:¬(XF op=true/\t≠0)) (h2:XF op=true):J0 L op t (some X)=some (X.grow 0 0 (-1)):=by
 have ht:t=0:=V6.1 fun q=>h ⟨h2,q⟩
 subst ht
 unfold J0;simp only [h2,↓reduceIte];rfl
theorem TC {X:Zr} {op t:Int} (h:¬XF op=true):J0 L op t (some X)=some X:=by
 unfold J0;simp only [Z8 h]
end
end Go.Abs
namespace Go.Abs
theorem DK {n:Zm} {us:LI} {b:Z6} (h:0<=X6 n us b):∃vs t,XV n b.steps us=some vs/\Xm vs b.result=some t/\0<=t:=by
 rw [F7] at h
 cases hv:XV n b.steps us with
 | none=>rw [hv] at h;simp at h
 | some vs=>
  rw [hv] at h
  simp only at h
  cases ha:Xm vs b.result with
  | none=>rw [ha] at h;simp at h
  | some t=>rw [ha] at h;exact ⟨vs,t,rfl,ha,h⟩
theorem EN {n:Zm} {us vs:LI} {s:Z5} {r:List Z5} (h:XV n (s::r) us=some vs):0<=Y8 n us s/\XV n r (Qv n us s)=some vs:=by
 rw [XV] at h
 split at h
 ·cases h
 ·exact ⟨by omega,h⟩
theorem GS (n:Zm) (us:LI) (s:Z5):us.length<=(Qv n us s).length/\(Qv n us s).length<=us.length+s.sz:=by
 have:=s.sz_pos
 rw [Qv];split
 ·simp only [Yr,Hu];omega
 ·omega
end Go.Abs
namespace Go.Abs
theorem Z5v {X L:Zr} {m:Nat} {r x:Int} (hg:gI L.vars r=x) (h:x≠0) (ht:UM L r=some X):U9 m r L=UD X m:=by rw [U9,hg,Ze h,ht];rfl
theorem Z5u {L:Zr} {m:Nat} {r x:Int} (hg:gI L.vars r=x) (h:x≠0) (ht:UM L r=none):U9 m r L=none:=by rw [U9,hg,Ze h,ht];rfl
theorem DU {L:Zr} {m:Nat} {r x:Int} (hg:gI L.vars r=x) (h:¬x≠0):U9 m r L=UD L m:=by rw [U9,hg,Z8 h];rfl
end Go.Abs
namespace Go.Abs
theorem Rr {ds:List Zg} {lent:LI}:∀{ps:LI} {i:Nat} {L:Zr},X8 ds L 1->X8 ds (Ke lent ps i L) 1/\(Ke lent ps i L).vars=L.vars++ps
 | [],i,L,hk=>⟨hk,by simp [Ke]⟩
 | t::r,i,L,hk=>by
  rw [Ke]
  obtain ⟨k1,k2⟩:=Rr (lent:=lent) (ps:=r) (i:=i+1) (hk.grow (t:=t) (o:=if t≠0/\¬(i:Int)∈lent then 1 else 0) (p:=-1) om (by split<;>omega))
  exact ⟨k1,by rw [k2];simp [Zr.grow]⟩
theorem Ln (ds:List Zg) (r:Y0):X8 ds (UG r) 1/\(UG r).vars=r.params:=by
 have h:X8 ds (⟨[],[],[],[],[],[]⟩:Zr) 1:=⟨⟨rfl,rfl,rfl,rfl,rfl⟩,fun j h1 h2=>by simp at h2;omega,fun j h1 h2=>by simp at h2;omega,by simp,by simp⟩
 obtain ⟨k1,k2⟩:=Rr (lent:=r.lent) (ps:=r.params) (i:=0) h
 exact ⟨k1,by rw [UG,k2];rfl⟩
theorem Z4d {L:Zr} (h:UD L 0=none):(UD L 0).isSome=false:=by rw [h];rfl
theorem Z4e {L L':Zr} (h:UD L 0=some L'):(UD L 0).isSome=true:=by rw [h];rfl
theorem Z31 {n:Zm} (hn:X1 n) {ln:LI} {b:Z6} {L O:Zr} {q:Int} {k:Nat} (hk:X8 n.decls L q) (hq:0<=q) (hty:0<=X6 n L.vars b) (hkl:k<=L.vars.length) (h:WO n ln L k b=some O) :
  WB O/\O.vars.length=k:=
 ((Lf n hn ln b.sz).2 b L O q k (X3 _) hk hq hty hkl h).2
end Go.Abs
namespace Go.Abs
theorem EE {n:Zm}:∀{l:List Y0},Qb n l=true->∀r∈l,¬Tk r.body<0/\X6 n r.params r.body=r.result
 | [],_,r,h=>by simp at h
 | a::l,h,r,hr=>by
  rw [Qb] at h
  split at h
  ·rename_i h1
   rcases YF.1 hr with rfl|hr
   ·exact h1
   ·exact EE h r hr
  ·cases h
theorem He {n:Zm} (hz:UP n) (h:X7 n=true):X1 n/\∀r∈n.routines,0<=X6 n r.params r.body:=by
 simp only [X7,W7] at h
 refine ⟨Lp hz h.1,fun r hr=>?_⟩
 rw [(EE h.2 r hr).2]
 have h1:=h.1
 simp only [Vb,QO,W7] at h1
 have:=GV h1.2.1.2.2.1 (VM r) (W4.2 ⟨r,hr,rfl⟩)
 simp only [KE,W7,decide_eq_true_eq,VM] at this
 exact (of_decide_eq_true this.2.2).1
end Go.Abs
end
section
namespace Go.Abs
theorem Ii {xs:LI} (h:Z7 xs=[]):xs=[]:=by cases xs with|nil=>rfl|cons x r=>cases h
theorem Z5c {xs:List Yh} (h:XO xs=[]):xs=[]:=by cases xs with|nil=>rfl|cons x r=>cases h
theorem Z5f {xs:List Zg} (h:YA xs=[]):xs=[]:=by cases xs with|nil=>rfl|cons x r=>cases h
def A1 (i:Int):LI->Nat->Int
 | [],_=>-1
 | x::r,k=>if i=x then (k:Int) else A1 i r (k+1)
def G8 (xs:LI) (i:Int):Int:=A1 i xs 0
theorem P5 (i:Int):∀(xs:LI) (k:Nat),(0<=A1 i xs k↔i∈xs)/\-1<=A1 i xs k
 | [],k=>by simp [A1]
 | x::r,k=>by
  rw [A1]
  obtain ⟨h1,h2⟩:=P5 i r (k+1)
  split
  ·rename_i h;subst h;simp<;>omega
  ·rename_i h;simp [h1,h,h2]
theorem Za4 (xs:LI) (i:Int):decide (G8 xs i>=0)=decide (i∈xs):=by
 rw [decide_eq_decide];exact (P5 i xs 0).1
end Go.Abs
namespace Go.Abs
theorem Ol (xss:List LI) (k:Nat):(xss.take k).flatten.length<=xss.flatten.length:=by
 conv=>rhs;rw [<-To k xss,List.flatten_append,Yr]
 omega
end Go.Abs
namespace Go.Abs
theorem Iw {xss:List LI} {k:Nat} {x:LI} (h:xss[k]? = some x):(xss.take (k+1)).flatten=(xss.take k).flatten++x:=by rw [WS h,List.flatten_append];simp
theorem Ok {xss:List LI} {k:Nat} {x:LI} (h:xss[k]? = some x):(xss.take k).flatten.length+x.length<=xss.flatten.length:=by
 have:=Ol xss (k+1)
 rw [Iw h,Yr] at this
 exact this
end Go.Abs
end
section
namespace Go.Abs
theorem Z3z {c:Int} {ds:List Zg} {k:Nat} {d:Zg} {r:Int × LI} (h:ds[k]? = some d) (hn:¬(c-YN (ds.take k)>=0/\c-YN (ds.take k)<d.cons.length))
  (hr:Tt c (ds.drop k) k (YN (ds.take k))=r):Tt c (ds.drop (k+1)) (k+1) (YN (ds.take (k+1)))=r:=by
 rw [Y7 h,Tt,Z8 om] at hr
 rw [WS h,DP,<-hr];rfl
end Go.Abs
namespace Go.Abs
theorem Z41 {c:Int} {ds:List Zg} {k:Nat} {d:Zg} {x:Yh} (h:ds[k]? = some d) (hn:c-YN (ds.take k)>=0/\c-YN (ds.take k)<d.cons.length)
  (hx:d.cons[(c-YN (ds.take k)).toNat]? = some x):Tt c (ds.drop k) k (YN (ds.take k))=((k:Int)+1,x.fields):=by
 rw [Y7 h,Tt,Ze om,hx];rfl
def AW (c:Int) (z:Nat) (v:Int):Prop:=v=c-z∨(c<0/\c-z < -9223372036854775808/\v=c-z+18446744073709551616)
theorem Z2i {c:Int} {z l:Nat} {v:Int} (h:AW c z v) (hz:z<=100) (hl:l<=3) (hc:-9223372036854775808<=c/\c<=9223372036854775807):AW c (z+l) (Ct (v-l)):=by
 unfold AW at *;rw [Ct,IntKind.wrap_i64];omega
theorem Z40 {c v:Int} {ds:List Zg} {k:Nat} {d:Zg} {r:Int × LI} (h:ds[k]? = some d) (ha:AW c (YN (ds.take k)) v) (hn:¬(v>=0/\v<d.cons.length))
  (hr:Tt c (ds.drop k) k (YN (ds.take k))=r):Tt c (ds.drop (k+1)) (k+1) (YN (ds.take (k+1)))=r:=Z3z h (by unfold AW at ha;omega) hr
theorem Z42 {c v:Int} {ds:List Zg} {k:Nat} {d:Zg} {x:Yh} (h:ds[k]? = some d) (ha:AW c (YN (ds.take k)) v) (hz:YN (ds.take k)<=100) (hl:d.cons.length<=3) (hc:-9223372036854775808<=c)
  (hn:v>=0/\v<d.cons.length) (hx:d.cons[v.toNat]? = some x):Tt c (ds.drop k) k (YN (ds.take k))=((k:Int)+1,x.fields):=by
 have:v=c-(YN (ds.take k):Int):=by unfold AW at ha;omega
 subst this
 exact Z41 h hn hx
def VP (ds:List Zg) (t:Int):Zg:=if W6 ds t=true then (ds[(t-1).toNat]?).getD ⟨0,0,[]⟩ else ⟨0,0,[]⟩
end Go.Abs
namespace Go.Abs
abbrev NN (ds:List Zg) (d:Zg):Prop:=
 (((¬(0<=d.frm/\d.frm<=ds.length))∨(¬(0<=d.to_/\d.to_<=ds.length)))∨((d.cons.length:Int)>3))∨(((d.cons.length:Int)>0)/\((d.frm≠0)∨(d.to_≠0)))
theorem Z4w {ds:List Zg} {d:Zg} {i:Nat} (h:NN ds d):US ds d i=false:=by
 rw [US]
 split
 ·rw [Z8];rintro ⟨h1,h2,h3⟩
  rcases h with ((h|h)|h)|h<;>omega
 ·split
  ·rfl
  ·rcases h with ((h|h)|h)|h
   ·rw [decide_eq_false h];rfl
   ·rw [decide_eq_false h,Bool.and_false]
   ·omega
   ·omega
theorem Z4x {ds:List Zg} {d:Zg} {i:Nat} (hl:0<d.cons.length) (h:TW ds.length d.cons=false):US ds d i=false:=by
 rw [US,Ze hl];split
 ·exact h
 ·rfl
theorem Z4y {ds:List Zg} {d:Zg} {i:Nat} (hl:d.cons.length=0) (h:QY d (ds.take i)=true):US ds d i=false:=by
 rw [US,Z8 om,Ze h]
theorem Z4z {ds:List Zg} {d:Zg} {i:Nat} (h1:¬NN ds d) (h2:TW ds.length d.cons=true) (h3:d.cons.length=0->QY d (ds.take i)=false):US ds d i=true:=by
 rw [US]
 have ha:0<=d.frm/\d.frm<=ds.length:=V6.1 fun q=>h1 (.inl (.inl (.inl q)))
 have hb:0<=d.to_/\d.to_<=ds.length:=V6.1 fun q=>h1 (.inl (.inl (.inr q)))
 have hc:¬(d.cons.length:Int)>3:=fun q=>h1 (.inl (.inr q))
 split
 ·rename_i hl
  have hd:¬(d.frm≠0∨d.to_≠0):=fun q=>h1 (.inr ⟨by omega,q⟩)
  rw [Ze ⟨by omega,by omega,by omega⟩];exact h2
 ·rw [Z8 (by rw [h3 om];simp),decide_eq_true ha,decide_eq_true hb];rfl
theorem My {ds:List Zg} {k:Nat} {d:Zg} (h:ds[k]? = some d) (hA:US ds d k=false) (c:Tw ds (ds.drop k) k=Tw ds ds 0):false=WZ ds:=by
 rw [WZ,<-c,Y7 h,Tw,DQ h,hA,Z8 (by simp),Bool.and_false]
theorem Zic {ds:List Zg} {k:Nat} {d:Zg} {r:Bool} (h:ds[k]? = some d) (hA:US ds d k=true) (c:Tw ds (ds.drop k) k=r):Tw ds (ds.drop (k+1)) (k+1)=r:=by
 rw [Y7 h,Tw,DQ h,hA,Ze rfl] at c;exact c
theorem Zib {ds:List Zg} {k:Nat} (hl:ds.length<=4) (hk:ds.length<=k) (c:Tw ds (ds.drop k) k=Tw ds ds 0):true=WZ ds:=by
 rw [WZ,<-c,Xf hk,decide_eq_true hl];rfl
theorem Z43 {m:Nat} {c:Yh} (h:((c.fields.length:Int)>3)∨(¬(Wm m c.fields=true))):Ju m c=false:=by
 rw [Ju]
 rcases h with h|h
 ·rw [decide_eq_false om];rfl
 ·rw [KM.2 h,Bool.and_false]
theorem Z44 {m:Nat} {c:Yh} (h:¬(((c.fields.length:Int)>3)∨(¬(Wm m c.fields=true)))):Ju m c=true:=by
 rw [Ju,V6.1 fun q=>h (.inr q),decide_eq_true (by have:¬(c.fields.length:Int)>3:=fun q=>h (.inl q);omega)];rfl
end Go.Abs
end
section
namespace Go.Abs
structure Vh where
 pms:LI
 lnt:LI
 res:Int
abbrev PG (f:Vh):List AV:=[Z4 f.pms,Z4 f.lnt,.i f.res]
abbrev EX (f:Vh):AV:=.agg (PG f)
def Ty (fs:List Vh):List AV:=fs.map EX
abbrev Dh (xs:List Vh):AV:=.sl (Ty xs) none
abbrev Gt (xs:List Vh) (v:Value):AV:=.sl (Ty xs) (some v)
theorem C2 {xs:List Vh} {j:Nat} {x:Vh} (h:xs[j]? = some x):(Ty xs)[j]? = some (EX x):=by simp [Ty,h]
@[simp] theorem DT (xs:List Vh):(Ty xs).length=xs.length:=by simp [Ty]
theorem NT (xs:List Vh):∀y∈Ty xs,y.leaves.length=3:=by intro y hy;simp only [Ty,W4] at hy;obtain ⟨x,_,rfl⟩:=hy;rfl
theorem Z5n (xs:List Vh):(Zf (Ty xs)).all AV.one=true:=Jy fun y hy=>by simp only [Ty,W4] at hy;obtain ⟨x,_,rfl⟩:=hy;rfl
def W2 (r:Y0):Vh:=⟨r.params,r.lent,r.result⟩
def A4 (m:Nat) (f:Vh):Bool:=KE m ⟨f.pms,f.res⟩&&Jj f.pms f.lnt
def KF (m:Nat):List Vh->Bool
 | []=>true
 | f::r=>if A4 m f=true then KF m r else false
def Iq:List Vh->Bool
 | []=>false
 | f::_=>decide (f.pms.length=0)&&decide (f.res=0)
def Jk (ds:List Zg) (fs:List Vh):Bool:=WZ ds&&(decide (1<=fs.length/\fs.length<=4)&&(Iq fs&&KF ds.length fs))
theorem Ob {fs:List Vh} {x:Vh} (h:fs[0]? = some x):Iq fs=(decide (x.pms.length=0)&&decide (x.res=0)):=by
 cases fs with
 | nil=>simp at h
 | cons f r=>simp at h;subst h;rfl
theorem Sz (m:Nat):∀rs:List Y0,KF m (rs.map W2)=(Jc m (rs.map VM)&&T1 rs)
 | []=>rfl
 | r::rs=>by
  simp only [Ut,KF,Jc,T1,A4,Sz m rs]
  simp only [W2,VM]
  by_cases h1:KE m { params:=r.params,result:=r.result }=true<;>by_cases h2:Jj r.params r.lent=true<;>simp [h1,h2]
theorem R0 (n:Zm):Vb n=(decide (n.routines.length<=4)&&Jk n.decls (n.routines.map W2)):=by
 have hf:Iq (n.routines.map W2)=FB (n.routines.map VM):=by
  cases n.routines with
  | nil=>rfl
  | cons r rs=>rfl
 rw [Vb,Jk,QO,Sz,hf]
 simp only [Jo]
 cases decide (n.routines.length<=4)<;>cases WZ n.decls<;>cases decide (1<=n.routines.length/\n.routines.length<=4)<;>cases Jc n.decls.length (n.routines.map VM) <;>
  cases FB (n.routines.map VM)<;>cases T1 n.routines<;>rfl
theorem GT {rs:List Y0} {j:Nat} {x:Vh} (h:(rs.map W2)[j]? = some x):∃r,rs[j]? = some r/\x=W2 r:=by
 rw [Us] at h
 cases hr:rs[j]? with
 | none=>rw [hr] at h;cases h
 | some r=>rw [hr] at h;cases h;exact ⟨r,rfl,rfl⟩
theorem PP {ps ls:LI} {j:Nat} {v:Int} {r:Bool} (h:ls[j]? = some v) (hg:(0<=v/\v<=(ps.length:Int)-1)/\ps[v.toNat]?≠some 0/\(∀p,(if j=0 then none else ls[j-1]?)=some p->p<v))
  (hr:QH ps (ls.drop j) (if j=0 then none else ls[j-1]?)=r):QH ps (ls.drop (j+1)) (if j+1=0 then none else ls[j+1-1]?)=r:=by
 rw [Y7 h,Lh hg] at hr
 rw [Z8 om,show j+1-1=j from rfl,h];exact hr
theorem Li {ps ls:LI} {j:Nat} {v:Int} {r:Bool} (h:ls[j]? = some v) (hg:¬((0<=v/\v<=(ps.length:Int)-1)/\ps[v.toNat]?≠some 0/\(∀p,(if j=0 then none else ls[j-1]?)=some p->p<v)))
  (hr:QH ps (ls.drop j) (if j=0 then none else ls[j-1]?)=r):r=false:=by
 rw [Y7 h,Gm hg] at hr;exact hr.symm
theorem GU {m:Nat} {fs:List Vh} {k:Nat} {f:Vh} {r:Bool} (h:fs[k]? = some f) (hb:A4 m f=false) (hr:KF m (fs.drop k)=r):r=false:=by
 rw [Y7 h,KF,hb,Z8 (by simp)] at hr;exact hr.symm
theorem Zfl {m:Nat} {fs:List Vh} {k:Nat} {f:Vh} {r:Bool} (h:fs[k]? = some f) (hb:A4 m f=true) (hr:KF m (fs.drop k)=r):KF m (fs.drop (k+1))=r:=by
 rw [Y7 h,KF,Ze hb] at hr;exact hr
end Go.Abs
namespace Go.Abs
section
variable {ds:List Zg} {fs:List Vh} {x:Vh}
theorem Zij (h:((¬(WZ ds=true))∨((fs.length:Int)<1))∨((fs.length:Int)>4)):false=Jk ds fs:=by
 rw [Jk]
 rcases h with (h|h)|h
 ·rw [KM.2 h];rfl
 ·rw [decide_eq_false (p:=1<=fs.length/\fs.length<=4) om];simp
 ·rw [decide_eq_false (p:=1<=fs.length/\fs.length<=4) om];simp
theorem Z0z (hx:fs[0]? = some x) (h:((x.pms.length:Int)>0)∨x.res≠0):false=Jk ds fs:=by
 rw [Jk,Ob hx]
 rcases h with h|h
 ·rw [decide_eq_false (p:=x.pms.length=0) om];simp
 ·rw [decide_eq_false (p:=x.res=0) h];simp
theorem Hg (h:KF ds.length fs=false):false=Jk ds fs:=by rw [Jk,h];simp
theorem Zik (h:¬(((¬(WZ ds=true))∨((fs.length:Int)<1))∨((fs.length:Int)>4))) (hx:fs[0]? = some x) (h1:¬((x.pms.length:Int)>0)) (h2:¬x.res≠0) (h3:KF ds.length fs=true) :
  true=Jk ds fs:=by
 have hv:WZ ds=true:=V6.1 fun q=>h (.inl (.inl q))
 have ha:¬(fs.length:Int)<1:=fun q=>h (.inl (.inr q))
 have hb:¬(fs.length:Int)>4:=fun q=>h (.inr q)
 rw [Jk,Ob hx,hv,h3,decide_eq_true (p:=1<=fs.length/\fs.length<=4) om,decide_eq_true (p:=x.pms.length=0) om,decide_eq_true (p:=x.res=0) (V6.1 h2)];rfl
abbrev Sw (m:Nat) (x:Vh):Prop:=(((x.pms.length:Int)>3)∨(¬(Wm m x.pms=true)))∨(¬(0<=x.res/\x.res<=m))
theorem Zf2 {m:Nat} (h:Sw m x):A4 m x=false:=by
 rw [A4,KE]
 rcases h with (h|h)|h
 ·rw [decide_eq_false (p:=x.pms.length<=3) om];simp
 ·rw [KM.2 h];simp
 ·rw [decide_eq_false h];simp
theorem M3 {m:Nat} (h:Jj x.pms x.lnt=false):A4 m x=false:=by rw [A4,h,Bool.and_false]
theorem Zf3 {m:Nat} (h:¬Sw m x) (hl:Jj x.pms x.lnt=true):A4 m x=true:=by
 have h1:¬(x.pms.length:Int)>3:=fun q=>h (.inl (.inl q))
 rw [A4,KE,hl,decide_eq_true (p:=x.pms.length<=3) om,V6.1 fun q=>h (.inl (.inr q)),decide_eq_true (V6.1 fun q=>h (.inr q))];rfl
end
end Go.Abs
namespace Go.Abs
abbrev YY (n:Zm):AV:=Dh (n.routines.map W2)
end Go.Abs
end
section
namespace Go.Abs
def Wn (us:LI):LI->Option LI
 | []=>some []
 | a::r=>match Xm us a with
  | none=>none
  | some t=>match Wn us r with
   | none=>none
   | some ts=>some (t::ts)
theorem Mv {us:LI}:∀{args ts:LI},Wn us args=some ts->∀tys,W9 us args tys=true↔ts=tys
 | [],ts,h,tys=>by
  rw [Wn] at h;cases h
  cases tys with
  | nil=>simp [W9,Tl]
  | cons t r=>simp [W9,Tl]
 | a::r,ts,h,tys=>by
  rw [Wn] at h
  cases ha:Xm us a with
  | none=>rw [ha] at h;cases h
  | some t=>
   rw [ha] at h
   cases hr:Wn us r with
   | none=>rw [hr] at h;cases h
   | some tr=>
    rw [hr] at h;cases h
    cases tys with
    | nil=>simp [W9,Tl]
    | cons t2 r2=>
     rw [W9,Tl,ha]
     have:=Mv hr r2
     rw [W9] at this
     by_cases he:t=t2
     ·subst he;simp [this]
     ·rw [Z8 (fun q=>he (Q3 q))];simp [he]
theorem MY {us:LI}:∀{args ts:LI},Wn us args=some ts->ts.length=args.length
 | [],ts,h=>by rw [Wn] at h;cases h;rfl
 | a::r,ts,h=>by
  rw [Wn] at h
  cases ha:Xm us a with
  | none=>rw [ha] at h;cases h
  | some t=>
   rw [ha] at h
   cases hr:Wn us r with
   | none=>rw [hr] at h;cases h
   | some tr=>rw [hr] at h;cases h;simp [MY hr]
theorem MZ {us:LI} {b t:Int}:∀{xs ts:LI},Wn us xs=some ts->Xm us b=some t->Wn us (xs++[b])=some (ts++[t])
 | [],ts,h,hb=>by rw [Wn] at h;cases h;simp [Wn,hb]
 | a::r,ts,h,hb=>by
  rw [Wn] at h
  cases ha:Xm us a with
  | none=>rw [ha] at h;cases h
  | some u=>
   rw [ha] at h
   cases hr:Wn us r with
   | none=>rw [hr] at h;cases h
   | some tr=>
    rw [hr] at h;cases h
    rw [QQ,Wn,ha,MZ hr hb];rfl
def DI (n:Zm) (num:Int):LI->Option Int
 | [a,b]=>if W6 n.decls a=true/\b=(VP n.decls a).frm/\num=0 then some (VP n.decls a).to_ else none
 | _=>none
def XM (n:Zm) (op num:Int) (ts:LI):Option Int:=
 if op=0 then (if (-999<=num/\num<=999)/\ts.length=0 then some 0 else none)
 else if op=1∨op=2∨op=3∨op=4 then (if num=0/\ts=[0,0] then some 0 else none)
 else if op=5 then (if num=0/\ts=[0] then some 0 else none)
 else if op=11 then DI n num ts
 else if op=6 then (if 0<=Wh n.decls num/\ts=ZV n.decls num then some (Wh n.decls num) else none)
 else if op=9 then (match Xm n.routines num with
  | none=>none
  | some r=>if ts=r.params then some r.result else none)
 else if op=10 then (match Xm n.routines num with
  | none=>none
  | some r=>if r.params.length≠0/\0<=KW n.decls r.params r.result/\ts=r.params.take (r.params.length-1) then some (KW n.decls r.params r.result) else none)
 else none
theorem EZ {n:Zm} {num:Int} {ts:LI} (h:ts.length≠2):DI n num ts=none:=by
 match ts,h with
 | [],_=>rfl
 | [_],_=>rfl
 | [_,_],h=>simp at h
 | _::_::_::_,_=>rfl
structure Kn (n:Zm):Prop where
 result:∀r∈n.routines,0<=r.result
 params:∀r∈n.routines,∀p∈r.params,0<=p
 decl:∀d∈n.decls,d.cons.length=0->0<=d.frm/\0<=d.to_
 fields:∀c,∀f∈ZV n.decls c,0<=f
abbrev Pa (us:LI) (s:Z5):Prop:=s.into≠0/\(((s.op≠6∨s.into<1)∨s.into>us.length)∨gI us (s.into-1)=0)
theorem Zal {us:LI} {op into:Int} (hnn:∀t∈us,0<=t) (h:¬(into≠0/\(((op≠6∨into<1)∨into>us.length)∨gI us (into-1)=0))):Uf us op into=true:=by
 rw [Uf]
 split
 ·rfl
 ·rename_i h0
  have h1:¬(((op≠6∨into<1)∨into>us.length)∨gI us (into-1)=0):=fun q=>h ⟨h0,q⟩
  have h2:op=6:=V6.1 fun q=>h1 (.inl (.inl (.inl q)))
  have h3:¬into<1:=fun q=>h1 (.inl (.inl (.inr q)))
  have h4:¬into>us.length:=fun q=>h1 (.inl (.inr q))
  have h5:¬gI us (into-1)=0:=fun q=>h1 (.inr q)
  obtain ⟨t,ht⟩:=J1 (xs:=us) (j:=(into-1).toNat) om
  rw [Ze h2,Qi om ht]
  rw [Vy ht] at h5
  have:=hnn t (ZZ ht)
  simp;omega
theorem Zak {us:LI} {op into:Int} (h:into≠0/\(((op≠6∨into<1)∨into>us.length)∨gI us (into-1)=0)):Uf us op into=false:=by
 obtain ⟨h0,h⟩:=h
 rw [Uf,Z8 h0]
 split
 ·rename_i h6
  cases ha:Xm us (into-1) with
  | none=>rfl
  | some t=>
   obtain ⟨a1,a2⟩:=KX ha
   rcases h with ((h|h)|h)|h
   ·exact absurd h6 h
   ·omega
   ·omega
   ·rw [Vy a2] at h;subst h;rfl
 ·rfl
theorem Zhp {n:Zm} {us:LI} {s:Z5} (h:Pa us s):Y8 n us s=-1:=by
 rw [AO,Ze (.inr (.inl (by rw [Zak h];simp)))]
end Go.Abs
namespace Go.Abs
theorem Zam {α:Type} {c:Prop} [Decidable c] {v:α}:(if c then some v else none).isSome=decide c:=by split<;>simp_all
theorem Zfn {n:Zm} (hty:Kn n) {op num:Int} {ts:LI} {x:Int} (h:XM n op num ts=some x):0<=x:=by
 unfold XM at h
 split at h
 ·split at h<;>cases h;exact Int.le_refl 0
 split at h
 ·split at h<;>cases h;exact Int.le_refl 0
 split at h
 ·split at h<;>cases h;exact Int.le_refl 0
 split at h
 ·rcases ts with _|⟨a,_|⟨b,_|⟨c,r⟩⟩⟩
  ·cases h
  ·cases h
  ·rw [DI] at h
   split at h
   ·rename_i hq
    cases h
    rw [VP,Ze hq.1]
    have hA:=hq.1
    simp only [W6,W7,decide_eq_true_eq] at hA
    cases hd:n.decls[(a-1).toNat]? with
    | none=>rw [hd] at hA;simp at hA
    | some d=>
     rw [hd] at hA
     exact (hty.decl d (ZZ hd) (by simpa using hA.2)).2
   ·cases h
  ·cases h
 split at h
 ·split at h
  ·rename_i hq;cases h;exact hq.1
  ·cases h
 split at h
 ·cases ha:Xm n.routines num with
  | none=>rw [ha] at h;cases h
  | some r=>
   rw [ha] at h
   simp only at h
   split at h
   ·cases h;exact hty.result r (ZZ (KX ha).2)
   ·cases h
 split at h
 ·cases ha:Xm n.routines num with
  | none=>rw [ha] at h;cases h
  | some r=>
   rw [ha] at h
   simp only at h
   split at h
   ·rename_i hq;cases h;exact hq.2.1
   ·cases h
 ·cases h
def Jg (n:Zm) (us:LI) (s:Z5) (ts:LI):Int:=
 if Yp s.op=true then (match ts with
  | [t]=>if t≠0/\s.num=0/\s.kids.length=0/\¬((s.op=16∨s.op=17)/\W6 n.decls t=true) then 0 else -1
  | _=>-1)
 else if s.op=7 then (if ts=[0]/\s.num=0 then TO n us s.op s.num s.kids else -1)
 else if s.op=8 then (if ts=[s.num] then TO n us s.op s.num s.kids else -1)
 else if 0<s.kids.length∨(s.op=10/\0<(((Xm n.routines s.num).map (·.lent)).getD []).length) then -1
 else (XM n s.op s.num ts).getD (-1)
theorem Pd {p q:Prop} [Decidable p] [Decidable q] {a b:Int} (h:p↔q):ite p a b=ite q a b:=by
 by_cases hp:p
 ·rw [Ze hp,Ze (h.1 hp)]
 ·rw [Z8 hp,Z8 (fun z=>hp (h.2 z))]
theorem BI {n:Zm} {us:LI} {s:Z5} {ts:LI} (hnn:∀t∈us,0<=t) (hts:Wn us s.args=some ts) (hi:¬Pa us s):Y8 n us s=Jg n us s ts:=by
 have hv:=Zal hnn hi
 have ht:=Mv hts
 have hl:=MY hts
 have hfirst:((s.num≠0/\¬VI s.op=true)∨¬Uf us s.op s.into=true∨(0<s.kids.length/\s.op≠7/\s.op≠8))↔((s.num≠0/\¬VI s.op=true)∨(0<s.kids.length/\s.op≠7/\s.op≠8)):=by
  rw [hv];simp
 rw [AO,Pd hfirst]
 unfold Jg
 by_cases hc:Yp s.op=true
 ·have hop:14<=s.op/\s.op<=17:=by simpa [Yp] using hc
  have hnum:VI s.op=false:=by simp [VI];omega
  rw [Ze hc]
  by_cases hb:s.num≠0∨0<s.kids.length
  ·rw [Ze (by rcases hb with hb|hb;exact .inl ⟨hb,by rw [hnum];simp⟩;exact .inr ⟨hb,by omega,by omega⟩)]
   split
   ·rw [Z8];rintro ⟨h1,h2,h3,h4⟩;omega
   ·rfl
  ·rw [Z8 (by rintro (⟨h1,_⟩|⟨h1,_⟩)<;>exact hb (by first|exact .inl h1|exact .inr h1)),Z8 om,Z8 om,Z8 om,Z8 om,Z8 om,Z8 om,Z8 om,Z8 om,Ze om]
   have Zb:s.num=0:=V6.1 fun q=>hb (.inl q)
   have ZB:s.kids.length=0:=by have:¬0<s.kids.length:=fun q=>hb (.inr q);omega
   rcases he:s.args with _|⟨a,_|⟨b,r⟩⟩
   ·rw [he] at hts;rw [Wn] at hts;cases hts;rfl
   ·rw [he] at hts
    rw [Wn] at hts
    cases ha:Xm us a with
    | none=>rw [ha] at hts;cases hts
    | some t=>
     rw [ha,Wn] at hts;cases hts
     rw [QA,ha]
     simp only
     by_cases ht0:t=0
     ·rw [Ze ht0,Z8 (fun q=>q.1 ht0)]
     ·rw [Z8 ht0]
      by_cases hA:W6 n.decls t=true
      ·by_cases h16:s.op=16∨s.op=17
       ·rw [Ze ⟨by omega,hA⟩,Z8 (fun q=>q.2.2.2 ⟨h16,hA⟩)]
       ·rw [Z8 (by rintro ⟨q,_⟩;omega),Ze ⟨ht0,Zb,ZB,fun q=>h16 q.1⟩]
      ·rw [Z8 (fun q=>hA q.2),Ze ⟨ht0,Zb,ZB,fun q=>hA q.2⟩]
   ·rw [he] at hl
    rw [show QA n.decls us s.op (a::b::r)=-1 from rfl]
    match ts,hl with
    | [t],hl=>simp at hl
    | [],hl=>simp at hl
    | _::_::_,_=>rfl
 have hop:¬(14<=s.op/\s.op<=17):=by simpa [Yp] using hc
 by_cases h7:s.op=7
 ·have hnum:VI s.op=false:=by simp [VI];omega
  conv=>rhs;rw [Z8 hc,Ze h7]
  by_cases hb:s.num=0
  ·rw [Z8 (fun q=>q.elim (fun z=>z.1 hb) fun z=>z.2.1 h7),Z8 om,Z8 om,Z8 om,Z8 om,Ze h7]
   by_cases hq:ts=[0]
   ·rw [Ze ((ht _).2 hq),Ze ⟨hq,hb⟩]
   ·rw [Z8 (fun q=>hq ((ht _).1 q)),Z8 (fun q=>hq q.1)]
  ·rw [Ze (.inl ⟨hb,by rw [hnum];simp⟩),Z8 (fun q=>hb q.2)]
 by_cases h8:s.op=8
 ·have hnum:VI s.op=true:=by simp [VI,h8]
  conv=>rhs;rw [Z8 hc,Z8 h7,Ze h8]
  rw [Z8 (fun q=>q.elim (fun z=>z.2 hnum) fun z=>z.2.2 h8),Z8 om,Z8 om,Z8 om,Z8 om,Z8 h7,Ze h8]
  by_cases hq:ts=[s.num]
  ·rw [Ze ((ht _).2 hq),Ze hq]
  ·rw [Z8 (fun q=>hq ((ht _).1 q)),Z8 hq]
 conv=>rhs;rw [Z8 hc,Z8 h7,Z8 h8]
 by_cases hk:0<s.kids.length
 ·rw [Ze (.inr ⟨hk,h7,h8⟩),Ze (.inl hk)]
 by_cases hlent:s.op=10/\0<(((Xm n.routines s.num).map (·.lent)).getD []).length
 ·conv=>rhs;rw [Ze (.inr hlent)]
  have hnum:VI s.op=true:=by simp [VI,hlent.1]
  have h10:=hlent.1
  rw [Z8 (fun q=>q.elim (fun z=>z.2 hnum) fun z=>hk z.1),Z8 om,Z8 om,Z8 om,Z8 om,Z8 h7,Z8 h8,Ze (.inr h10),Ur]
  cases ha:Xm n.routines s.num with
  | none=>rfl
  | some r=>
   have h2:=hlent.2
   rw [ha] at h2
   simp only [BR,Option.getD_some] at h2
   simp only
   rw [KD,Z8 om,Ze (.inr (.inl h2))]
 conv=>rhs;rw [Z8 (fun q=>Or.elim q hk hlent)]
 have sf:∀{X:Option Int},XM n s.op s.num ts=X->Y8 n us s=X.getD (-1)->Y8 n us s=(XM n s.op s.num ts).getD (-1):=fun a b=>by rw [a];exact b
 have hL:=AO n us s
 rw [Pd hfirst] at hL
 rw [<-hL]
 by_cases hnb:s.num≠0/\¬VI s.op=true
 ·have hnn2:¬(s.op=0∨(s.op=6∨(s.op=8∨(s.op=9∨s.op=10)))):=fun q=>hnb.2 (by simpa [VI] using q)
  refine sf (X:=none) ?_ (by rw [hL,Ze (.inl hnb)];rfl)
  unfold XM
  rw [Z8 om]
  split
  ·rw [Z8 (fun q=>hnb.1 q.1)]
  split
  ·rw [Z8 (fun q=>hnb.1 q.1)]
  split
  ·by_cases hl2:ts.length=2
   ·match ts,hl2 with
    | [a,b],_=>exact Z8 fun q=>hnb.1 q.2.2
   ·exact EZ hl2
  rw [Z8 om,Z8 om,Z8 om]
 rw [Z8 (fun q=>q.elim hnb fun z=>hk z.1)] at hL
 have hnumf:¬(s.op=0∨(s.op=6∨(s.op=8∨(s.op=9∨s.op=10))))->s.num=0:=fun q=>V6.1 fun z=>hnb ⟨z,fun y=>q (by simpa [VI] using y)⟩
 by_cases h0:s.op=0
 ·rw [Ze h0] at hL
  by_cases hq:s.args.length=0/\(-999<=s.num/\s.num<=999)
  ·exact sf (by unfold XM;rw [Ze h0,Ze ⟨hq.2,by omega⟩]) (by rw [hL,Ze hq];rfl)
  ·exact sf (by unfold XM;rw [Ze h0,Z8 (fun q=>hq ⟨by omega,q.1⟩)]) (by rw [hL,Z8 hq];rfl)
 rw [Z8 h0] at hL
 by_cases h1:s.op=1∨s.op=2∨s.op=3∨s.op=4
 ·rw [Ze h1] at hL
  by_cases hq:ts=[0,0]
  ·exact sf (by unfold XM;rw [Z8 h0,Ze h1,Ze ⟨hnumf om,hq⟩]) (by rw [hL,Ze ((ht _).2 hq)];rfl)
  ·exact sf (by unfold XM;rw [Z8 h0,Ze h1,Z8 (fun q=>hq q.2)]) (by rw [hL,Z8 (fun q=>hq ((ht _).1 q))];rfl)
 rw [Z8 h1] at hL
 by_cases h5:s.op=5
 ·rw [Ze h5] at hL
  by_cases hq:ts=[0]
  ·exact sf (by unfold XM;rw [Z8 h0,Z8 h1,Ze h5,Ze ⟨hnumf om,hq⟩]) (by rw [hL,Ze ((ht _).2 hq)];rfl)
  ·exact sf (by unfold XM;rw [Z8 h0,Z8 h1,Ze h5,Z8 (fun q=>hq q.2)]) (by rw [hL,Z8 (fun q=>hq ((ht _).1 q))];rfl)
 rw [Z8 h5] at hL
 by_cases h6:s.op=6
 ·rw [Ze h6] at hL
  have hct:0<Wh n.decls s.num↔0<=Wh n.decls s.num:=by
   rcases Int.lt_or_le (Wh n.decls s.num) 1 with q|q
   ·have:=(Fg q).2;omega
   ·omega
  by_cases hq:0<=Wh n.decls s.num/\ts=ZV n.decls s.num
  ·exact sf (by unfold XM;rw [Z8 h0,Z8 h1,Z8 h5,Z8 om,Ze h6,Ze hq]) (by rw [hL,Ze ⟨hct.2 hq.1,(ht _).2 hq.2⟩];rfl)
  ·exact sf (by unfold XM;rw [Z8 h0,Z8 h1,Z8 h5,Z8 om,Ze h6,Z8 hq]) (by rw [hL,Z8 (fun q=>hq ⟨hct.1 q.1,(ht _).1 q.2⟩)];rfl)
 rw [Z8 h6,Z8 h7,Z8 h8] at hL
 by_cases h9:s.op=9
 ·rw [Ze (.inl h9),Ur] at hL
  cases ha:Xm n.routines s.num with
  | none=>exact sf (by unfold XM;rw [Z8 h0,Z8 h1,Z8 h5,Z8 om,Z8 h6,Ze h9,ha]) (by rw [hL,ha];rfl)
  | some r=>
   rw [ha] at hL
   simp only at hL
   rw [KD,Ze h9] at hL
   have hF:∀{X:Option Int},(if ts=r.params then some r.result else none)=X->XM n s.op s.num ts=X:=fun q=>by
    unfold XM;rw [Z8 h0,Z8 h1,Z8 h5,Z8 om,Z8 h6,Ze h9,ha];exact q
   by_cases hq:ts=r.params
   ·exact sf (hF (Ze hq)) (by rw [hL,Ze ((ht _).2 hq)];rfl)
   ·exact sf (hF (Z8 hq)) (by rw [hL,Z8 (fun q=>hq ((ht _).1 q))];rfl)
 by_cases h10:s.op=10
 ·rw [Ze (.inr h10),Ur] at hL
  cases ha:Xm n.routines s.num with
  | none=>exact sf (by unfold XM;rw [Z8 h0,Z8 h1,Z8 h5,Z8 om,Z8 h6,Z8 h9,Ze h10,ha]) (by rw [hL,ha];rfl)
  | some r=>
   rw [ha] at hL hlent
   simp only [BR,Option.getD_some] at hL hlent
   rw [KD,Z8 h9] at hL
   have hF:∀{X:Option Int},(if r.params.length≠0/\0<=KW n.decls r.params r.result/\ts=r.params.take (r.params.length-1) then some (KW n.decls r.params r.result) else none)=X->XM n s.op s.num ts=X:=fun q=>by
    unfold XM;rw [Z8 h0,Z8 h1,Z8 h5,Z8 om,Z8 h6,Z8 h9,Ze h10,ha];exact q
   by_cases hp:r.params.length=0
   ·exact sf (hF (Z8 fun q=>q.1 hp)) (by rw [hL,Ze (.inl hp)];rfl)
   by_cases hq:ts=r.params.take (r.params.length-1)
   ·rw [Z8 (fun z=>z.elim hp fun z=>z.elim (fun z=>hlent ⟨h10,z⟩) fun z=>z ((ht _).2 hq))] at hL
    by_cases har:0<=KW n.decls r.params r.result
    ·exact sf (hF (Ze ⟨hp,har,hq⟩)) hL
    ·refine sf (hF (Z8 fun q=>har q.2.1)) ?_
     have key:∀(l:List Zg) (i:Nat) (f t:Int),¬0<=Ks f t l i->Ks f t l i=-1:=by
      intro l
      induction l with
      | nil=>intro i f t _;rfl
      | cons d r ih=>
       intro i f t hn
       rw [Ks] at hn ⊢
       split
       ·rename_i hh;rw [Ze hh] at hn;omega
       ·rename_i hh;rw [Z8 hh] at hn;exact ih _ _ _ hn
     exact hL.trans (key _ _ _ _ har)
   ·exact sf (hF (Z8 fun q=>hq q.2.2)) (by rw [hL,Ze (.inr (.inr fun q=>hq ((ht _).1 q)))];rfl)
 rw [Z8 om] at hL
 by_cases h11:s.op=11
 ·rw [Ze h11] at hL
  have hn0:=hnumf om
  have hF:∀{X:Option Int},DI n s.num ts=X->XM n s.op s.num ts=X:=fun q=>by
   unfold XM;rw [Z8 h0,Z8 h1,Z8 h5,Ze h11];exact q
  rcases he:s.args with _|⟨a,_|⟨b,_|⟨c,r⟩⟩⟩
  ·rw [he] at hts hL;rw [Wn] at hts;cases hts;exact sf (hF rfl) hL
  ·rw [he] at hl hL
   exact sf (hF (EZ (by simp at hl;omega))) hL
  ·rw [he] at hts hL
   rw [Wn] at hts
   cases ha:Xm us a with
   | none=>rw [ha] at hts;cases hts
   | some t=>
    rw [ha,Wn] at hts
    cases hb:Xm us b with
    | none=>rw [hb] at hts;cases hts
    | some t2=>
     rw [hb,Wn] at hts;cases hts
     rw [QU,ha] at hL
     simp only at hL
     by_cases hA:W6 n.decls t=true
     ·rw [Ze hA] at hL
      have hA2:=hA
      simp only [W6,W7,decide_eq_true_eq] at hA2
      cases hd:n.decls[(t-1).toNat]? with
      | none=>rw [hd] at hA2;simp at hA2
      | some d=>
       rw [hd] at hL
       simp only at hL
       have hD:VP n.decls t=d:=by rw [VP,Ze hA,hd];rfl
       have h2:=Mv (us:=us) (args:=[b]) (ts:=[t2]) (by rw [Wn,hb,Wn]) [d.frm]
       by_cases hq:t2=d.frm
       ·exact sf (hF (Ze ⟨hA,by rw [hD];exact hq,hn0⟩)) (by rw [hL,Ze (h2.2 (by rw [hq])),hD];rfl)
       ·exact sf (hF (Z8 fun q=>hq (by rw [hD] at q;exact q.2.1))) (by rw [hL,Z8 (fun q=>hq (by simpa using h2.1 q))];rfl)
     ·exact sf (hF (Z8 fun q=>hA q.1)) (by rw [hL,Z8 hA];rfl)
  ·rw [he] at hl hL
   exact sf (hF (EZ (by simp at hl;omega))) hL
 rw [Z8 h11,Z8 om] at hL
 exact sf (X:=none) (by unfold XM;rw [Z8 h0,Z8 h1,Z8 h5,Z8 h11,Z8 h6,Z8 h9,Z8 h10]) hL
end Go.Abs
namespace Go.Abs
theorem R8:∀(n:Nat) (f:Int) (k:Nat) (x:Int),(VB f n)[k]? = some x->x=f+k/\k<n
 | 0,f,k,x,h=>by simp [VB] at h
 | n+1,f,k,x,h=>by
  rw [VB] at h
  cases k with
  | zero=>simp at h;subst h;exact ⟨by omega,by omega⟩
  | succ k=>have:=R8 n (f+1) k x (by simpa using h);exact ⟨by omega,by omega⟩
theorem NF {ds:List Zg} (hd:Ws ds) {t:Int} {k:Nat} {x:Int} (h:(ZX ds t)[k]? = some x):0<=x/\x<=100:=by
 rw [ZX] at h
 split at h
 ·rename_i ht
  obtain ⟨d,hd1⟩:=J1 (xs:=ds) (j:=(t-1).toNat) om
  rw [hd1] at h
  have:=R8 _ _ _ _ h
  have h3:=hd.cons_at hd1
  have h4:=(hd.take (t-1).toNat).sum
  simp only [BR,Option.getD_some] at this
  omega
 ·simp at h
end Go.Abs
namespace Go.Abs
section
variable {S:Option Int} {c:Prop} [Decidable c] {v:Int} {b:Bool}
theorem BB (h:S=if c then some v else none) (hb:b=true↔c):b=S.isSome:=by rw [h,Zam,Xt,hb,decide_eq_true_iff]
theorem BC (h:S=if c then some v else none):∀x,S=some x->v=x:=by
 intro x hx;rw [h] at hx;split at hx
 ·exact Q3 hx
 ·cases hx
theorem EI (h:S=none):false=S.isSome:=by rw [h];rfl
theorem EJ (h:S=none):∀x,S=some x->v=x:=by intro x hx;rw [h] at hx;cases hx
end
section
variable {n:Zm} {op num:Int} {ts:LI}
theorem sf0 (h:op=0):XM n op num ts=if (-999<=num/\num<=999)/\ts.length=0 then some 0 else none:=by unfold XM;rw [Ze h]
theorem sf1 (h:op=1∨op=2∨op=3∨op=4):XM n op num ts=if num=0/\ts=[0,0] then some 0 else none:=by unfold XM;rw [Z8 om,Ze h]
theorem sf5 (h:op=5):XM n op num ts=if num=0/\ts=[0] then some 0 else none:=by unfold XM;rw [Z8 om,Z8 om,Ze h]
theorem Sv (h:op=11):XM n op num ts=DI n num ts:=by unfold XM;rw [Z8 om,Z8 om,Z8 om,Ze h]
theorem Zfi (h:op=11) (hl:(ts.length:Int)≠2):XM n op num ts=none:=(Sv h).trans (EZ om)
theorem M8 (h:op=11) {a b:Int} (hl:¬(ts.length:Int)≠2) (ha:ts[0]? = some a) (hb:ts[1]? = some b) :
  XM n op num ts=if W6 n.decls a=true/\b=(VP n.decls a).frm/\num=0 then some (VP n.decls a).to_ else none:=by
 rw [Sv h]
 match ts,hl,ha,hb with
 | [x,y],_,ha,hb=>simp at ha hb;subst ha;subst hb;rfl
 | [],hl,_,_=>simp at hl
 | [_],hl,_,_=>simp at hl
 | _::_::_::_,hl,_,_=>simp at hl;omega
theorem Zfh (h:op=11) {a:Int} (hl:¬(ts.length:Int)≠2) (ha:ts[0]? = some a) (hn:¬W6 n.decls a=true):XM n op num ts=none:=by
 obtain ⟨b,hb⟩:=J1 (xs:=ts) (j:=1) om
 rw [M8 h hl ha hb,Z8 fun q=>hn q.1]
theorem sf6 (h:op=6):XM n op num ts=if 0<=Wh n.decls num/\ts=ZV n.decls num then some (Wh n.decls num) else none:=by
 unfold XM;rw [Z8 om,Z8 om,Z8 om,Z8 om,Ze h]
theorem Zfj (h:op=9∨op=10) (hr:num<0∨num>=(((n.routines.map W2).length:Nat):Int)):XM n op num ts=none:=by
 have ha:Xm n.routines num=none:=Kt (by simp at hr;omega)
 unfold XM
 rw [Z8 om,Z8 om,Z8 om,Z8 om,Z8 om]
 rcases h with h|h
 ·rw [Ze h,ha]
 ·rw [Z8 om,Ze h,ha]
theorem sf9 (h:op=9) {x:Vh} (hr:¬(num<0∨num>=(((n.routines.map W2).length:Nat):Int))) (hx:(n.routines.map W2)[num.toNat]? = some x) :
  XM n op num ts=if ts=x.pms then some x.res else none:=by
 obtain ⟨r,h1,rfl⟩:=GT hx
 have ha:Xm n.routines num=some r:=Qi (by simp at hr;omega) h1
 unfold XM
 rw [Z8 om,Z8 om,Z8 om,Z8 om,Z8 om,Ze h,ha];rfl
theorem Zfg (h:op=10) {x:Vh} (hr:¬(num<0∨num>=(((n.routines.map W2).length:Nat):Int))) (hx:(n.routines.map W2)[num.toNat]? = some x) (hp:(x.pms.length:Int)-1<0) :
  XM n op num ts=none:=by
 obtain ⟨r,h1,rfl⟩:=GT hx
 have ha:Xm n.routines num=some r:=Qi (by simp at hr;omega) h1
 have hp':r.params.length=0:=by simp only [W2] at hp;omega
 unfold XM
 rw [Z8 om,Z8 om,Z8 om,Z8 om,Z8 om,Z8 om,Ze h,ha]
 exact Z8 fun q=>q.1 hp'
theorem Zff (h:op=10) {x:Vh} {l:Int} (hr:¬(num<0∨num>=(((n.routines.map W2).length:Nat):Int))) (hx:(n.routines.map W2)[num.toNat]? = some x) (hp:¬(x.pms.length:Int)-1<0)
  (hl:x.pms[((x.pms.length:Int)-1).toNat]? = some l) :
  XM n op num ts=if 0<=Uu n.decls l x.res/\ts=x.pms.take ((x.pms.length:Int)-1).toNat then some (Uu n.decls l x.res) else none:=by
 obtain ⟨r,h1,rfl⟩:=GT hx
 have ha:Xm n.routines num=some r:=Qi (by simp at hr;omega) h1
 simp only [W2] at hp hl ⊢
 have hq:((r.params.length:Int)-1).toNat=r.params.length-1:=by omega
 have ht:r.params.take ((r.params.length:Int)-1).toNat=r.params.take (r.params.length-1):=Yn (fun k=>r.params.take k) hq
 have hl':r.params[r.params.length-1]? = some l:=by rw [<-hl];exact Yn (fun k=>r.params[k]?) hq.symm
 have hlast:KW n.decls r.params r.result=Uu n.decls l r.result:=by rw [KW,OI hl']
 unfold XM
 rw [Z8 om,Z8 om,Z8 om,Z8 om,Z8 om,Z8 om,Ze h,ha]
 simp only [hlast]
 by_cases hc:0<=Uu n.decls l r.result/\ts=r.params.take (r.params.length-1)
 ·rw [Ze ⟨by omega,hc⟩]
  exact (Ze ⟨hc.1,hc.2.trans ht.symm⟩).symm
 ·rw [Z8 fun q=>hc q.2]
  exact (Z8 (fun q=>hc ⟨q.1,q.2.trans ht⟩)).symm
theorem sfd (h0:¬op=0) (h1:¬(op=1∨op=2∨op=3∨op=4)) (h5:¬op=5) (h11:¬op=11) (h6:¬op=6) (h9:¬(op=9∨op=10)):XM n op num ts=none:=by
 unfold XM;rw [Z8 h0,Z8 h1,Z8 h5,Z8 h11,Z8 h6,Z8 om,Z8 om]
end
end Go.Abs
end
namespace Go.Abs
mutual
def Z5.rng:Z5->Prop
 | .mk _ num _ _ kids=>(-9223372036854775808<=num/\num<=9223372036854775807)/\TV kids
def Z6.rng:Z6->Prop
 | .mk steps _=>UC steps
def UC:List Z5->Prop
 | []=>True
 | s::r=>s.rng/\UC r
def TV:List Z6->Prop
 | []=>True
 | b::r=>b.rng/\TV r
end
theorem Z5.rng_eq (s:Z5):s.rng=((-9223372036854775808<=s.num/\s.num<=9223372036854775807)/\TV s.kids):=by cases s;rw [Z5.rng];rfl
theorem Z6.rng_eq (b:Z6):b.rng=UC b.steps:=by cases b;rw [Z6.rng];rfl
theorem Mj:∀{xs:List Z5} {k:Nat} {s:Z5},UC xs->xs[k]? = some s->s.rng
 | [],k,s,_,h=>by simp at h
 | x::r,0,s,hr,h=>by rw [UC] at hr;simp at h;subst h;exact hr.1
 | x::r,k+1,s,hr,h=>by rw [UC] at hr;exact Mj (k:=k) hr.2 (by simpa using h)
theorem F8:∀{xs:List Z6} {k:Nat} {b:Z6},TV xs->xs[k]? = some b->b.rng
 | [],k,s,_,h=>by simp at h
 | x::r,0,s,hr,h=>by rw [TV] at hr;simp at h;subst h;exact hr.1
 | x::r,k+1,s,hr,h=>by rw [TV] at hr;exact F8 (k:=k) hr.2 (by simpa using h)
theorem Mw {us:LI}:∀{args:LI},Wn us args=none->∀tys,W9 us args tys=false
 | [],h,tys=>by rw [Wn] at h;cases h
 | a::r,h,tys=>by
  cases tys with
  | nil=>simp [W9,Tl]
  | cons t ts=>
   rw [Wn] at h
   rw [W9,Tl]
   cases ha:Xm us a with
   | none=>simp
   | some u=>
    rw [ha] at h
    cases hr:Wn us r with
    | none=>
     have:=Mw hr ts
     rw [W9] at this
     by_cases he:u=t
     ·subst he;simpa using this
     ·rw [Z8 (fun q=>he (Q3 q))]
    | some tr=>rw [hr] at h;cases h
theorem Zho {n:Zm} {us:LI} {s:Z5} (h:Wn us s.args=none):Y8 n us s=-1:=by
 have ht:=Mw h
 rw [AO]
 split
 ·rfl
 split
 ·rw [Z8];rintro ⟨q,_⟩
  have:s.args=[]:=List.length_eq_zero_iff.1 q
  rw [this,Wn] at h;cases h
 split
 ·rw [Z8 (by rw [ht];simp)]
 split
 ·rw [Z8 (by rw [ht];simp)]
 split
 ·rw [Z8 (by rw [ht];simp)]
 split
 ·rw [Z8 (by rw [ht];simp)]
 split
 ·rw [Z8 (by rw [ht];simp)]
 split
 ·rw [Ur]
  cases Xm n.routines s.num with
  | none=>rfl
  | some r=>
   simp only
   rw [KD]
   split
   ·rw [Z8 (by rw [ht];simp)]
   ·rw [Ze (.inr (.inr (by rw [ht];simp)))]
 split
 ·match hA:s.args with
  | []=>rfl
  | [_]=>rfl
  | [a,b]=>
   rw [QU]
   rw [hA,Wn] at h
   cases ha:Xm us a with
   | none=>rfl
   | some t=>
    rw [ha] at h
    simp only at h ⊢
    split
    ·cases n.decls[(t-1).toNat]? with
     | none=>rfl
     | some d=>
      simp only
      rw [Z8]
      cases hb:Wn us [b] with
      | none=>rw [Mw hb];simp
      | some tr=>rw [hb] at h;cases h
    ·rfl
  | _::_::_::_=>rfl
 split
 ·match hA:s.args with
  | []=>rfl
  | [a]=>
   rw [QA]
   rw [hA,Wn] at h
   cases ha:Xm us a with
   | none=>rfl
   | some t=>rw [ha,Wn] at h;cases h
  | _::_::_=>rfl
 ·rfl
theorem MX {us:LI} {a:Int}:∀{xs:LI} {k:Nat},xs[k]? = some a->Xm us a=none->Wn us xs=none
 | [],k,h,_=>by simp at h
 | x::r,0,h,ha=>by simp at h;subst h;rw [Wn,ha]
 | x::r,k+1,h,ha=>by
  have:=MX (xs:=r) (k:=k) (by simpa using h) ha
  rw [Wn]
  cases Xm us x with
  | none=>rfl
  | some t=>simp only [this]
theorem Zb3 {n:Zm} {us:LI} {ks:List Z6} {ms:List LI} (h:0<ks.length) (t:Int) :
  XU n us (ks.drop 0) (ms.drop 0) (decide (0=0)) t=XU n us ks ms true 0:=by
 cases ks with
 | nil=>simp at h
 | cons b bs=>
  cases ms with
  | nil=>rw [Km,Km,XU,XU]
  | cons m r=>
   simp only [Km,decide_true]
   rw [XU,XU];simp
theorem Nn {b:Z6}:∀{ks:List Z6} {k:Nat},ks[k]? = some b->b.sz<=X2 ks
 | [],k,h=>by simp at h
 | x::r,0,h=>by simp at h;subst h;rw [X2];omega
 | x::r,k+1,h=>by have:=Nn (ks:=r) (k:=k) (by simpa using h);rw [X2];omega
theorem ER (us m:LI):[us,m].flatten=us++m:=by simp
theorem On {xs:LI} {i:Int} (h:i.toNat<xs.length):xs[i.toNat]? = some (gI xs i):=by rw [gI,KN h];rfl
theorem FG {xs:LI} (h:0<xs.length):xs[0]? = some (gI xs 0):=On (i:=0) h
def UA (n:Zm) (num:Int):Vh:=((n.routines.map W2)[num.toNat]?).getD ⟨[],[],0⟩
theorem Sx {n:Zm} {i:Int} (h:i.toNat<(n.routines.map W2).length):(n.routines.map W2)[i.toNat]? = some (UA n i):=by rw [UA,KN h];rfl
theorem Eo {us m:LI} (h1:∀t∈us,0<=t) (h2:∀t∈m,0<=t):∀t∈us++m,0<=t:=fun t h=>(Xa.1 h).elim (h1 t) (h2 t)
theorem B5 {us:LI} {args ts:LI} {k:Nat} (h:Wn us (args.take k)=some ts) (hk:args.length<=k):Wn us args=some ts:=by
 rw [Ve hk] at h;exact h
theorem Z28 {us:LI} {args ts:LI} {k:Nat} {a t:Int} (h:Wn us (args.take k)=some ts) (ha:args[k]? = some a) (ht:Xm us a=some t):Wn us (args.take (k+1))=some (ts++[t]):=by
 rw [WS ha];exact MZ h ht
theorem Re {ts:LI} (h:(ts.length:Int)=1):ts=[gI ts 0]:=by
 match ts,h with
 | [a],_=>rfl
section
variable {n:Zm} {us ts:LI} {s:Z5}
theorem AF {p1 p2 p3 p4 p5:Prop}:(p1/\(p2∨(p3∨(p4∨p5))))↔(p1/\(((p2∨p3)∨p4)∨p5)):=by simp only [or_assoc]
def Fe (n:Zm) (s:Z5) (ts:LI):Int:=match ts with
  | [t]=>if t≠0/\s.num=0/\s.kids.length=0/\¬((s.op=16∨s.op=17)/\W6 n.decls t=true) then 0 else -1
  | _=>-1
theorem BH:Jg n us s ts =
 if Yp s.op=true then Fe n s ts
 else if s.op=7 then (if ts=[0]/\s.num=0 then TO n us s.op s.num s.kids else -1)
 else if s.op=8 then (if ts=[s.num] then TO n us s.op s.num s.kids else -1)
 else if 0<s.kids.length∨(s.op=10/\0<(((Xm n.routines s.num).map (·.lent)).getD []).length) then -1
 else (XM n s.op s.num ts).getD (-1):=by unfold Jg Fe;rfl
theorem NA (h:(ts.length:Int)=1):Fe n s ts=if gI ts 0≠0/\s.num=0/\s.kids.length=0/\¬((s.op=16∨s.op=17)/\W6 n.decls (gI ts 0)=true) then 0 else -1:=by
 match ts,h with
 | [a],_=>rfl
theorem Z3q (h:(ts.length:Int)≠1):Fe n s ts=-1:=by
 match ts,h with
 | [],_=>rfl
 | [a],h=>exact absurd rfl h
 | _::_::_,_=>rfl
theorem Zh3 (hS:Y8 n us s=Jg n us s ts) (hc:Yp s.op=true)
  (h:((((ts.length:Int)=1/\gI ts 0≠0)/\s.num=0)/\(s.kids.length:Int)=0)/\(s.op=16∨s.op=17)) :
  (!W6 n.decls (gI ts 0))=decide (0<=Y8 n us s):=by
 obtain ⟨⟨⟨⟨h1,h2⟩,h3⟩,h4⟩,h5⟩:=h
 have h4':s.kids.length=0:=by omega
 rw [hS,BH,Ze hc,NA h1]
 cases hA:W6 n.decls (gI ts 0)
 ·rw [Ze ⟨h2,h3,h4',by simp⟩];rfl
 ·rw [Z8 (fun q=>q.2.2.2 ⟨h5,rfl⟩)];rfl
theorem Zh4 (hS:Y8 n us s=Jg n us s ts) (hc:Yp s.op=true)
  (h:¬(((((ts.length:Int)=1/\gI ts 0≠0)/\s.num=0)/\(s.kids.length:Int)=0)/\(s.op=16∨s.op=17))) :
  ((((((ts.length:Int)==1)&&(gI ts 0 != 0))&&(s.num==0))&&((s.kids.length:Int)==0)))=decide (0<=Y8 n us s):=by
 rw [hS,BH,Ze hc]
 by_cases h1:(ts.length:Int)=1
 ·rw [NA h1]
  by_cases h2:(gI ts 0≠0/\s.num=0)/\(s.kids.length:Int)=0
  ·obtain ⟨⟨h2,h3⟩,h4⟩:=h2
   have h4':s.kids.length=0:=by omega
   rw [Ze ⟨h2,h3,h4',fun q=>h ⟨⟨⟨⟨h1,h2⟩,h3⟩,h4⟩,q.1⟩⟩,Zp.2 h1,Ym.2 h2,Zp.2 h3,Zp.2 h4];rfl
  ·rw [Z8 (fun q=>h2 ⟨⟨q.1,q.2.1⟩,by have:=q.2.2.1;omega⟩)]
   show _=false
   rw [KM];intro q
   obtain ⟨⟨⟨_,q1⟩,q2⟩,q3⟩:=(YC (YC (YC Zp Ym) Zp) Zp).1 q
   exact h2 ⟨⟨q1,q2⟩,q3⟩
 ·rw [Z3q h1]
  show _=false
  rw [KM];intro q
  obtain ⟨⟨⟨q1,_⟩,_⟩,_⟩:=(YC (YC (YC Zp Ym) Zp) Zp).1 q
  exact h1 q1
theorem Zgz (hS:Y8 n us s=Jg n us s ts) (hc:¬Yp s.op=true) (h7:s.op=7)
  (h:(((ts.length:Int)≠1∨gI ts 0≠0)∨s.num≠0)∨(s.kids.length:Int)≠2):Y8 n us s=-1:=by
 rw [hS,BH,Z8 hc,Ze h7]
 split
 ·rename_i q
  obtain ⟨q1,q2⟩:=q
  rw [q1] at h
  rw [TO,Ze]
  right
  rw [Xj,Ze h7]
  have:gI [0] 0=0:=rfl
  simp [this] at h
  show s.kids.length≠2
  omega
 ·rfl
theorem Zh0 (hS:Y8 n us s=Jg n us s ts) (hc:¬Yp s.op=true) (h7:s.op=7)
  (h:¬((((ts.length:Int)≠1∨gI ts 0≠0)∨s.num≠0)∨(s.kids.length:Int)≠2)):Y8 n us s=XU n us s.kids (List.replicate 2 []) true 0:=by
 have h1:(ts.length:Int)=1:=V6.1 fun q=>h (.inl (.inl (.inl q)))
 have h2:gI ts 0=0:=V6.1 fun q=>h (.inl (.inl (.inr q)))
 have h3:s.num=0:=V6.1 fun q=>h (.inl (.inr q))
 have h4:(s.kids.length:Int)=2:=V6.1 fun q=>h (.inr q)
 rw [hS,BH,Z8 hc,Ze h7,Ze ⟨by rw [Re h1,h2],h3⟩,TO,Z8]
 ·rw [Xj,Ze h7];rfl
 ·rw [Xj,Ze h7];simp;omega
theorem Zh1 (hS:Y8 n us s=Jg n us s ts) (hc:¬Yp s.op=true) (h7:¬s.op=7) (h8:s.op=8)
  (h:(ts.length:Int)≠1∨(gI ts 0≠s.num∨(((((ZX n.decls s.num).map (ZV n.decls)).length:Nat):Int)=0∨(s.kids.length:Int)≠((((ZX n.decls s.num).map (ZV n.decls)).length:Nat):Int)))):Y8 n us s=-1:=by
 rw [hS,BH,Z8 hc,Z8 h7,Ze h8]
 split
 ·rename_i q
  have hg:gI ts 0=s.num:=by rw [q];rfl
  have hl:(ts.length:Int)=1:=by rw [q];rfl
  rw [TO,Ze]
  rw [Xj,Z8 h7]
  omega
 ·rfl
theorem Zh2 (hS:Y8 n us s=Jg n us s ts) (hc:¬Yp s.op=true) (h7:¬s.op=7) (h8:s.op=8)
  (h:¬((ts.length:Int)≠1∨(gI ts 0≠s.num∨(((((ZX n.decls s.num).map (ZV n.decls)).length:Nat):Int)=0∨(s.kids.length:Int)≠((((ZX n.decls s.num).map (ZV n.decls)).length:Nat):Int))))) :
  Y8 n us s=XU n us s.kids ((ZX n.decls s.num).map (ZV n.decls)) true 0:=by
 have h1:(ts.length:Int)=1:=V6.1 fun q=>h (.inl q)
 have h2:gI ts 0=s.num:=V6.1 fun q=>h (.inr (.inl q))
 rw [hS,BH,Z8 hc,Z8 h7,Ze h8,Ze (by rw [Re h1,h2]),TO,Z8]
 ·rw [Xj,Z8 h7]
 ·rw [Xj,Z8 h7];omega
theorem Zbt {n:Zm} {num:Int}:(((Xm n.routines num).map (·.lent)).getD []).length=if 0<=num/\num<(((n.routines.map W2).length:Nat):Int) then (UA n num).lnt.length else 0:=by
 split
 ·rename_i h
  rw [Jo] at h
  obtain ⟨r,hr⟩:=J1 (xs:=n.routines) (j:=num.toNat) om
  rw [Qi om hr,UA,Us,hr];rfl
 ·rename_i h
  rw [Jo] at h
  rw [Kt om];rfl
theorem Z05:(0<s.kids.length∨(s.op=10/\0<(((Xm n.routines s.num).map (·.lent)).getD []).length)) ↔
  ((s.kids.length:Int)>0∨(s.op=10/\(s.num>=0/\(s.num<(((n.routines.map W2).length:Nat):Int)/\((((UA n s.num).lnt).length:Nat):Int)>0)))):=by
 rw [Zbt]
 by_cases hq:0<=s.num/\s.num<(((n.routines.map W2).length:Nat):Int)
 ·rw [Ze hq];omega
 ·rw [Z8 hq];omega
theorem stB (hS:Y8 n us s=Jg n us s ts) (hc:¬Yp s.op=true) (h7:¬s.op=7) (h8:¬s.op=8)
  (h:((s.kids.length:Int)>0∨(s.op=10/\(s.num>=0/\(s.num<(((n.routines.map W2).length:Nat):Int)/\((((UA n s.num).lnt).length:Nat):Int)>0))))):Y8 n us s=-1:=by
 rw [hS,BH,Z8 hc,Z8 h7,Z8 h8,Ze (Z05.2 h)]
theorem stS (hS:Y8 n us s=Jg n us s ts) (hc:¬Yp s.op=true) (h7:¬s.op=7) (h8:¬s.op=8)
  (h:¬((s.kids.length:Int)>0∨(s.op=10/\(s.num>=0/\(s.num<(((n.routines.map W2).length:Nat):Int)/\((((UA n s.num).lnt).length:Nat):Int)>0))))):Y8 n us s=(XM n s.op s.num ts).getD (-1):=by
 rw [hS,BH,Z8 hc,Z8 h7,Z8 h8,Z8 (fun q=>h (Z05.1 q))]
theorem Zh5 (hty:Kn n) (h:Y8 n us s=(XM n s.op s.num ts).getD (-1)):(XM n s.op s.num ts).isSome=decide (0<=Y8 n us s):=by
 rw [h]
 cases hs:XM n s.op s.num ts with
 | none=>rfl
 | some x=>have:=Zfn hty hs;simp [this]
theorem Zh6 {t:Int} (h:Y8 n us s=(XM n s.op s.num ts).getD (-1)) (hp:∀x,XM n s.op s.num ts=some x->t=x):¬Yp s.op=true->0<=Y8 n us s->t=Y8 n us s:=by
 intro _ h0
 rw [h] at h0 ⊢
 cases hs:XM n s.op s.num ts with
 | none=>rw [hs] at h0;exact absurd h0 (by decide)
 | some x=>exact hp x hs
end
theorem Zhn {n:Zm} {us:LI} {s:Z5} (h:0<=Y8 n us s):(0<=s.op/\s.op<=11)∨(14<=s.op/\s.op<=17):=by
 rw [AO] at h
 by_cases hq:(0<=s.op/\s.op<=11)∨(14<=s.op/\s.op<=17)
 ·exact hq
 ·exfalso
  split at h
  ·omega
  rw [Z8 om,Z8 om,Z8 om,Z8 om,Z8 om,Z8 om,Z8 om,Z8 om,Z8 om] at h
  omega
theorem Fm {n:Zm} {us:LI} {s:Z5} (h:0<=Y8 n us s):XF s.op=!Yp s.op:=by
 have:=Zhn h
 rw [XF,Yp,Xt];simp;omega
theorem Zhq {n:Zm} {xs:List Z5} {vs:LI} {k:Nat} {s:Z5} {t:Int} {r:Option LI} (hs:xs[k]? = some s) (h:0<=Y8 n vs s) (ht:¬Yp s.op=true->0<=Y8 n vs s->t=Y8 n vs s)
  (hr:XV n (xs.drop k) vs=r):XV n (xs.drop (k+1)) (if Yp s.op=true then vs else vs++[t])=r:=by
 rw [Y7 hs,XV,Z8 om] at hr
 rw [<-hr,Fm h]
 by_cases hc:Yp s.op=true
 ·rw [Ze hc,hc];rfl
 ·rw [Z8 hc,Ze (by simpa using hc),ht hc h]
theorem Zhr {n:Zm} {xs:List Z5} {vs:LI} {k:Nat} {s:Z5} {r:Option LI} (hs:xs[k]? = some s) (h:¬0<=Y8 n vs s) (hr:XV n (xs.drop k) vs=r):r=none:=by
 rw [Y7 hs,XV,Ze om] at hr;exact hr.symm
theorem Zc2 {c:Prop} [Decidable c] {vs:LI} {t:Int} (h:∀x∈vs,0<=x) (ht:¬c->0<=t):∀x∈(if c then vs else vs++[t]),0<=x:=by
 split
 ·exact h
 ·rename_i hc
  exact Eo h (fun x hx=>by rw [XD.1 hx];exact ht hc)
theorem MV {m:Nat} {xs:LI} (h:Wm m xs=true):∀x∈xs,0<=x/\x<=m:=by
 rw [Wm,JI] at h
 exact fun x hx=>of_decide_eq_true (h x hx)
theorem R3 {n:Zm} (h:Vb n=true):Kn n:=by
 simp only [Vb,QO,W7,decide_eq_true_eq] at h
 obtain ⟨h1,⟨h2,h3,h4,h5⟩,h6⟩:=h
 have hs:∀r∈n.routines,Wm n.decls.length r.params=true/\0<=r.result:=fun r hr=>by
  have:=GV h4 (VM r) (W4.2 ⟨r,hr,rfl⟩)
  simp only [KE,W7,decide_eq_true_eq] at this
  exact ⟨this.2.1,this.2.2.1⟩
 simp only [WZ,W7,decide_eq_true_eq] at h2
 obtain ⟨h2a,h2b⟩:=h2
 rw [I3] at h2b
 have key:∀(i:Nat) (d:Zg),n.decls[i]? = some d->US n.decls d i=true:=fun i d hi=>by
  have:=h2b i (Xk.1 hi).1
  rwa [Vm,DQ hi] at this
 refine ⟨fun r hr=>(hs r hr).2,fun r hr p hp=>(MV (hs r hr).1 p hp).1,fun d hd h0=>?_,fun c f hf=>?_⟩
 ·obtain ⟨i,hi⟩:=List.mem_iff_getElem?.1 hd
  have:=key i d hi
  rw [US,Z8 om] at this
  split at this
  ·cases this
  ·simp only [W7,decide_eq_true_eq] at this;omega
 ·by_cases hc:Wh n.decls c<1
  ·rw [(Fg hc).1] at hf;cases hf
  ·obtain ⟨k,d,x,q1,q2,q3,q4,q5⟩:=HZ hc
   rw [q5] at hf
   have:=key k d q1
   have hp:0<d.cons.length:=by have:=(Xk.1 q3).1;omega
   rw [US,Ze hp] at this
   split at this
   ·have:=NG.1 this x (ZZ q3)
    simp only [Ju,W7] at this
    exact (MV this.2 f hf).1
   ·cases this
structure NTu (n:Zm):Prop where
 result:∀r∈n.routines,r.result<=(n.decls.length:Int)
 decl:∀d∈n.decls,d.cons.length=0->d.to_<=(n.decls.length:Int)
 fields:∀c,∀f∈ZV n.decls c,f<=(n.decls.length:Int)
section
variable {n:Zm} (hu:NTu n)
include hu
end
end Go.Abs
section
namespace Go.Abs
structure Xp where
 mat:Int
 fst:Int
 fds:LI
 chg:Bool
abbrev PD (a:Xp):List AV:=[.i a.mat,.i a.fst,Z4 a.fds,.b a.chg]
abbrev ML (a:Xp):AV:=.agg (PD a)
def WQ (xs:List Xp):List AV:=xs.map ML
abbrev Xi (xs:List Xp):AV:=.sl (WQ xs) none
abbrev Lr (xs:List Xp) (v:Value):AV:=.sl (WQ xs) (some v)
theorem Z56 {xs:List Xp} {j:Nat} {x:Xp} (h:xs[j]? = some x):(WQ xs)[j]? = some (ML x):=by simp [WQ,h]
@[simp] theorem Z57 (xs:List Xp):(WQ xs).length=xs.length:=by simp [WQ]
theorem NP (xs ys:List Xp):WQ (xs++ys)=WQ xs++WQ ys:=by simp [WQ]
theorem CI (xs:List Xp):∀y∈WQ xs,y.leaves.length=4:=by intro y hy;simp only [WQ,W4] at hy;obtain ⟨x,_,rfl⟩:=hy;rfl
theorem I7 (xs:List Xp):(Zf (WQ xs)).all AV.one=true:=Jy fun y hy=>by simp only [WQ,W4] at hy;obtain ⟨x,_,rfl⟩:=hy;rfl
theorem Z58 {xs:List Xp} (h:WQ xs=[]):xs=[]:=by cases xs with|nil=>rfl|cons x r=>cases h
abbrev Vg:=Zr
def Ua:LI->Int->LI
 | [],_=>[]
 | t::r,p=>if t≠0 then p::Ua r (p+1) else Ua r (p+1)
theorem Z8q {xs:LI} {k:Nat} {t p:Int} {acc r:LI} (h:xs[k]? = some t) (ha:acc++Ua (xs.drop k) (p+k)=r) :
  (if t≠0 then acc++[p+k] else acc)++Ua (xs.drop (k+1)) (p+((k+1:Nat):Int))=r:=by
 rw [Y7 h,Ua] at ha
 rw [show p+((k+1:Nat):Int)=p+k+1 by omega]
 split
 ·rename_i q;rw [Ze q] at ha;rw [UN];exact ha
 ·rename_i q;rw [Z8 q] at ha;exact ha
theorem Z8p {xs:LI} {k:Nat} {p:Int} {acc r:LI} (h:xs.length<=k) (ha:acc++Ua (xs.drop k) (p+k)=r):acc=r:=by
 rw [Xf h,Ua,Jn] at ha;exact ha
theorem IN:∀(xs:LI) (p:Int) (own:LI),Ts own p xs=(Ua xs p).foldl (fun o f=>o.set f.toNat (gI o f+1)) own
 | [],_,_=>rfl
 | t::r,p,own=>by
  rw [Ts,Ua]
  split
  ·rw [List.foldl_cons];exact IN r _ _
  ·exact IN r _ _
theorem IP:∀{xs:LI} {p f:Int},f∈Ua xs p->p<=f/\f<p+xs.length
 | [],_,_,h=>by simp [Ua] at h
 | t::r,p,f,h=>by
  rw [Ua] at h
  split at h
  ·rcases YF.1 h with rfl|h
   ·simp only [YS];omega
   ·have:=IP h;simp only [YS];omega
  ·have:=IP h;simp only [YS];omega
theorem OO:∀(xs:LI) (p:Int),(Ua xs p).length<=xs.length
 | [],_=>by simp [Ua]
 | t::r,p=>by
  have:=OO r (p+1)
  rw [Ua];split<;>simp<;>omega
def UH:List Xp->Int->Option Xp
 | [],_=>none
 | a::r,v=>match UH r v with
  | some x=>some x
  | none=>if a.mat=v then some a else none
theorem Rd {a:Xp}:∀{as1:List Xp} {v:Int},UH (as1++[a]) v=if a.mat=v then some a else UH as1 v
 | [],v=>rfl
 | x::r,v=>by
  rw [QQ,UH,Rd]
  by_cases h:a.mat=v
  ·rw [Ze h,Ze h]
  ·rw [Z8 h,Z8 h];rfl
theorem Ev {v:Int}:∀{as1:List Xp},(∀a∈as1,a.mat≠v)->UH as1 v=none
 | [],_=>rfl
 | x::r,h=>by rw [UH,Ev (fun a ha=>h a (XC _ ha))];exact Z8 (h x (Xl ..))
theorem Rc {v:Int} {a:Xp}:∀{as1:List Xp},UH as1 v=some a->a∈as1/\a.mat=v
 | [],h=>by cases h
 | x::r,h=>by
  rw [UH] at h
  cases hr:UH r v with
  | some y=>rw [hr] at h;cases h;have:=Rc hr;exact ⟨XC _ this.1,this.2⟩
  | none=>
   rw [hr] at h
   simp only at h
   split at h
   ·cases h;exact ⟨Xl ..,by assumption⟩
   ·cases h
structure V0 (ds:List Zg) (L:Zr) (as1:List Xp):Prop where
 rng:∀a∈as1,0<=a.mat/\a.mat<a.fst/\a.fst+a.fds.length<=L.vars.length
 par:∀a∈as1,∀v:Int,a.fst<=v->v<a.fst+a.fds.length->gI L.par v=a.mat
 non:∀v:Int,0<=v->v<L.vars.length->0<=gI L.par v->∃a∈as1,a.fst<=v/\v<a.fst+a.fds.length
 off:∀v:Int,0<=v->v<L.vars.length->match UH as1 v with
  | none=>gI L.con v<0
  | some a=>0<=gI L.con v/\a.fst=gI L.fst v/\a.fds=ZV ds (gI L.con v)
theorem V0.same {ds:List Zg} {L M:Zr} {as1:List Xp} (h:V0 ds L as1) (h1:M.vars.length=L.vars.length) (h2:M.par=L.par) (h3:M.con=L.con) (h4:M.fst=L.fst):V0 ds M as1:=by
 refine ⟨?_,?_,?_,?_⟩
 ·rw [h1];exact h.rng
 ·rw [h2];exact h.par
 ·rw [h1,h2];exact h.non
 ·rw [h1,h3,h4];exact h.off
theorem V0.grow {ds:List Zg} {L:Zr} {as1:List Xp} {t o:Int} (h:V0 ds L as1) (hl:WB L):V0 ds (L.grow t o (-1)) as1:=by
 obtain ⟨e1,e2,e3,e4,e5⟩:=hl
 have key:∀{xs:LI} {y v:Int},xs.length=L.vars.length->0<=v->v<L.vars.length->gI (xs++[y]) v=gI xs v:=fun hx h0 h1=>Bg om
 have kend:∀{xs:LI} {y v:Int},xs.length=L.vars.length->v=(L.vars.length:Int)->gI (xs++[y]) v=y:=fun hx h1=>IA om
 have hlen:(L.grow t o (-1)).vars.length=L.vars.length+1:=by simp [Zr.grow]
 refine ⟨fun a ha=>?_,fun a ha v h1 h2=>?_,fun v h0 h1 h2=>?_,fun v h0 h1=>?_⟩
 ·have:=h.rng a ha;omega
 ·have:=h.rng a ha
  show gI (L.par++[-1]) v=a.mat
  rw [key e2 om om];exact h.par a ha v h1 h2
 ·have h2':0<=gI (L.par++[-1]) v:=h2
  by_cases hv:v<L.vars.length
  ·rw [key e2 h0 hv] at h2';exact h.non v h0 hv h2'
  ·rw [kend e2 om] at h2';omega
 ·show match UH as1 v with
   | none=>gI (L.con++[-1]) v<0
   | some a=>0<=gI (L.con++[-1]) v/\a.fst=gI (L.fst++[-1]) v/\a.fds=ZV ds (gI (L.con++[-1]) v)
  by_cases hv:v<L.vars.length
  ·rw [key e3 h0 hv,key e4 h0 hv];exact h.off v h0 hv
  ·rw [Ev (fun a ha=>by have:=h.rng a ha;omega)]
   show gI (L.con++[-1]) v<0
   rw [kend e3 om];omega
theorem V0.arm {ds:List Zg} {L:Zr} {as1:List Xp} {x c:Int} (h:V0 ds L as1) (hl:WB L) (hx:0<=x/\x<L.vars.length) (hc:0<=c) :
  V0 ds (JO ds L x c) (as1++[⟨x,(L.vars.length:Nat),ZV ds c,false⟩]):=by
 obtain ⟨e1,e2,e3,e4,e5⟩:=hl
 rw [JO,IJ]
 have hnew:∀{xs:LI} {y v:Int},xs.length=L.vars.length->(L.vars.length:Int)<=v->v<L.vars.length+(ZV ds c).length->gI (xs++List.replicate (ZV ds c).length y) v=y:=fun hx h0 h1=>ID om
 have K6:∀{xs:LI} {y v:Int},xs.length=L.vars.length->0<=v->v<L.vars.length->gI (xs++List.replicate (ZV ds c).length y) v=gI xs v:=fun hx h0 h1=>Bg om
 refine ⟨fun a ha=>?_,fun a ha v h1 h2=>?_,fun v h0 h1 h2=>?_,fun v h0 h1=>?_⟩
 ·simp only [Yr]
  rcases Xa.1 ha with ha|ha
  ·have:=h.rng a ha;omega
  ·rw [XD.1 ha]
   show 0<=x/\x<(L.vars.length:Nat)/\(L.vars.length:Int)+((ZV ds c).length:Nat)<=_
   omega
 ·show gI (L.par++List.replicate _ x) v=a.mat
  rcases Xa.1 ha with ha|ha
  ·have:=h.rng a ha
   rw [K6 e2 om om];exact h.par a ha v h1 h2
  ·rw [XD.1 ha] at h1 h2 ⊢
   exact hnew e2 h1 h2
 ·simp only [Yr] at h1
  have h2':0<=gI (L.par++List.replicate (ZV ds c).length x) v:=h2
  by_cases hv:v<L.vars.length
  ·rw [K6 e2 h0 hv] at h2'
   obtain ⟨a,ha,q⟩:=h.non v h0 hv h2'
   exact ⟨a,List.mem_append_left _ ha,q⟩
  ·exact ⟨_,List.mem_append_right _ (XD.2 rfl),by show (L.vars.length:Int)<=v;omega,by show v<(L.vars.length:Int)+(ZV ds c).length;omega⟩
 ·simp only [Yr] at h1
  show match UH (as1++[⟨x,(L.vars.length:Nat),ZV ds c,false⟩]) v with
   | none=>gI (L.con.set x.toNat c++List.replicate (ZV ds c).length (-1)) v<0
   | some a=>0<=gI (L.con.set x.toNat c++List.replicate (ZV ds c).length (-1)) v/\a.fst=gI (L.fst.set x.toNat L.vars.length++List.replicate (ZV ds c).length (-1)) v /\
     a.fds=ZV ds (gI (L.con.set x.toNat c++List.replicate (ZV ds c).length (-1)) v)
  rw [Rd]
  by_cases hv:v<L.vars.length
  ·rw [K6 (by simp [e3]) h0 hv,K6 (by simp [e4]) h0 hv]
   by_cases he:x=v
   ·rw [Ze he]
    show 0<=gI (L.con.set x.toNat c) v/\(L.vars.length:Int)=gI (L.fst.set x.toNat L.vars.length) v/\ZV ds c=ZV ds (gI (L.con.set x.toNat c) v)
    rw [FH om om,FH om om]
    exact ⟨hc,rfl,rfl⟩
   ·rw [Z8 he,FI om,FI om];exact h.off v h0 hv
  ·rw [hnew (by simp [e3]) om om]
   rw [Z8 (by show ¬x=v;omega),Ev (fun a ha=>by have:=h.rng a ha;omega)]
   show (-1:Int)<0
   omega
theorem Z1u {L:Zr} {ln:LI} {v:Int} {p:Int} (hv:0<=v/\v<L.vars.length) (hd:∀i:Int,0<=i->i<L.vars.length->gI L.par i<i) (h:¬(gI L.own v>0∨v∈ln)) (hp:gI L.par v=p) (h0:0<=p):Wk L ln v=Wk L ln p:=
 (MT (N:=L.vars.length) rfl hp hv ⟨by omega,fun q=>h (.inr q)⟩ om hd rfl).symm
theorem Z1t {L:Zr} {ln:LI} {v:Int} (h:¬(gI L.own v>0∨v∈ln)) (hp:gI L.par v<0):Wk L ln v=false:=
 (MS rfl rfl ⟨by omega,fun q=>h (.inr q)⟩ hp rfl).symm
theorem Z1v {L:Zr} {ln:LI} {v:Int} (h:gI L.own v>0∨v∈ln):Wk L ln v=true:=
 (MU rfl (fun q=>h.elim (fun z=>by omega) q.2) rfl).symm
end Go.Abs
namespace Go.Abs
def XN (L:Zr) (v:Int):Zr:={ L with own:=L.own.set v.toNat (gI L.own v-1) }
theorem AP {L:Zr} {v:Int}:UM L v=if 1<=gI L.own v then some (XN L v) else none:=by
 rw [UM]
 by_cases h:gI L.own v<1
 ·rw [Ze h,Z8 om]
 ·rw [Z8 h,Ze om];rfl
end Go.Abs
namespace Go.Abs
def Wf (L:Zr) (r:Int):Zr:=if gI L.vars r≠0 then XN L r else L
theorem O1 {L:Zr} {m:Nat} {r:Int} (ho:gI L.vars r≠0->1<=gI L.own r) (hz:V5 ((Wf L r).own.drop m) ((Wf L r).tok.drop m)=true):U9 m r L=some ((Wf L r).take m):=by
 rw [U9]
 by_cases h:gI L.vars r≠0
 ·rw [Ze h,AP,Ze (ho h)]
  have e:Wf L r=XN L r:=Ze h
  rw [e] at hz ⊢
  exact Ze hz
 ·rw [Z8 h]
  have e:Wf L r=L:=Z8 h
  rw [e] at hz ⊢
  exact Ze hz
theorem Z5t {L:Zr} {m:Nat} {r:Int} (h:gI L.vars r≠0) (ho:¬1<=gI L.own r):U9 m r L=none:=by
 rw [U9,Ze h,AP,Z8 ho];rfl
theorem Fw {L:Zr} {m:Nat} {r:Int} (hz:V5 ((Wf L r).own.drop m) ((Wf L r).tok.drop m)=false):U9 m r L=none:=by
 rw [U9]
 by_cases h:gI L.vars r≠0
 ·rw [Ze h,AP]
  have e:Wf L r=XN L r:=Ze h
  rw [e] at hz
  split
  ·exact Z8 (by rw [hz];simp)
  ·rfl
 ·rw [Z8 h]
  have e:Wf L r=L:=Z8 h
  rw [e] at hz
  exact Z8 (by rw [hz];simp)
theorem Hn {os ts:LI} {k:Nat} {o t:Int} {r:Bool} (h1:os[k]? = some o) (h2:ts[k]? = some t) (h:o≠0∨0<=t) (hr:V5 (os.drop k) (ts.drop k)=r):r=false:=by
 rw [Y7 h1,Y7 h2,V5,Ze h] at hr;exact hr.symm
theorem Ho {os ts:LI} {k:Nat} {o t:Int} {r:Bool} (h1:os[k]? = some o) (h2:ts[k]? = some t) (h:¬(o≠0∨0<=t)) (hr:V5 (os.drop k) (ts.drop k)=r):V5 (os.drop (k+1)) (ts.drop (k+1))=r:=by
 rw [Y7 h1,Y7 h2,V5,Z8 h] at hr;exact hr
theorem Z1d {os ts:LI} {k:Nat} {r:Bool} (h1:os.length<=k) (hr:V5 (os.drop k) (ts.drop k)=r):r=true:=by
 rw [Xf h1] at hr;rw [<-hr];simp [V5]
end Go.Abs
namespace Go.Abs
def CC (o:LI) (fs:LI):LI:=fs.foldl (fun o f=>o.set f.toNat (gI o f+1)) o
theorem Z33 {p:Int} {xs own:LI}:CC own (Ua xs p)=Ts own p xs:=(IN xs p own).symm
theorem Z34 {fs o r:LI} {k:Nat} {f x:Int} (h:fs[k]? = some f) (hx:gI o f=x) (hr:CC o (fs.drop k)=r):CC (o.set f.toNat (x+1)) (fs.drop (k+1))=r:=by
 rw [Y7 h,CC,List.foldl_cons,hx] at hr;exact hr
theorem Nr {fs o r:LI} {k:Nat} (h:fs.length<=k) (hr:CC o (fs.drop k)=r):o=r:=by
 rw [Xf h] at hr;exact hr
def QX (n:Zm) (ln:LI) (L:Zr) (op v:Int):Option Zr:=if op=14 then JU L ln v else if op=15 then UM L v else Qr n.decls L op v
section
variable {n:Zm} {ln:LI} {L:Zr} {op v:Int} {am:List Xp} {a:Xp}
theorem Z3r (h:op=14) (ha:¬Wk L ln v=true):QX n ln L op v=none:=by rw [QX,Ze h,JU,Z8 ha]
theorem Z3s (h:op=14) (ha:Wk L ln v=true) {x:Int} (hx:gI L.own v=x):QX n ln L op v=some { L with own:=L.own.set v.toNat (x+1) }:=by rw [QX,Ze h,JU,Ze ha,hx]
theorem Z3u (h:op=15) (ht:1<=gI L.own v):QX n ln L op v=some (XN L v):=by rw [QX,Z8 om,Ze h,AP,Ze ht]
theorem Z3t (h:op=15) (ht:¬1<=gI L.own v):QX n ln L op v=none:=by rw [QX,Z8 om,Ze h,AP,Z8 ht]
theorem NB (h1:¬op=14) (h2:¬op=15):QX n ln L op v=Qr n.decls L op v:=by rw [QX,Z8 h1,Z8 h2]
theorem Zcr {ds:List Zg} (har:V0 ds L am) (hv:0<=v/\v<L.vars.length) (ho:UH am v=none):Qr ds L op v=none:=by
 have:=har.off v hv.1 hv.2
 rw [ho] at this
 rw [Qr,Ze (.inl this)]
theorem Zcq {ds:List Zg} (har:V0 ds L am) (hv:0<=v/\v<L.vars.length) (ho:UH am v=some a) {xt:Int} (hxt:gI L.tok v=xt):Qr ds L op v=if ¬1<=gI L.own v∨(op=17/\xt>=0) then none else
  some { XN L v with own:=Ts (XN L v).own a.fst a.fds,tok:=if op=17 then L.tok.set v.toNat a.fds.length else L.tok }:=by
 have:=har.off v hv.1 hv.2
 rw [ho] at this
 obtain ⟨h1,h2,h3⟩:=this
 have hcon:¬gI L.con v<0:=by omega
 rw [Qr,AP,hxt,<-h2,<-h3]
 by_cases ht:1<=gI L.own v
 ·rw [Ze ht]
  by_cases h17:op=17/\xt>=0
  ·have c1:gI L.con v<0∨(op=17/\0<=xt):=.inr h17
   have c2:¬1<=gI L.own v∨(op=17/\xt>=0):=.inr h17
   rw [Ze c1,Ze c2]
  ·have c1:¬(gI L.con v<0∨(op=17/\0<=xt)):=fun q=>q.elim hcon h17
   have c2:¬(¬1<=gI L.own v∨(op=17/\xt>=0)):=fun q=>q.elim (fun z=>z ht) h17
   rw [Z8 c1,Z8 c2]
 ·rw [Z8 ht]
  have c2:¬1<=gI L.own v∨(op=17/\xt>=0):=.inl ht
  rw [Ze c2]
  split<;>rfl
end
end Go.Abs
namespace Go.Abs
theorem Z4v {ds:List Zg} {L:Zr} {q v:Int} (hk:X8 ds L q) (h1:1<=gI L.own v) (hv:0<=v/\v<L.vars.length):∀y∈(XN L v).own,0<=y/\y<=q:=by
 intro y hy
 rcases Ja hy with hy|rfl
 ·exact ⟨hk.nn y hy,hk.bd y hy⟩
 ·obtain ⟨x,hx⟩:=J1 (xs:=L.own) (j:=v.toNat) (by have:=hk.len.own;omega)
  have hg:=Vy hx
  have:=hk.bd x (ZZ hx)
  omega
end Go.Abs
end
section
namespace Go.Abs
def V4 (n:Zm) (us:LI) (op num:Int):LI->Nat->LI
 | [],_=>[]
 | a::r,i=>if Tu n us op num a i=true then (i:Int)::V4 n us op num r (i+1) else V4 n us op num r (i+1)
section
variable {n:Zm} {us:LI} {op num:Int}
theorem Zd8 {args acc r:LI} {k:Nat} {a:Int} (h:args[k]? = some a) (hc:Tu n us op num a k=true) (hr:acc++V4 n us op num (args.drop k) k=r) :
  (acc++[(k:Int)])++V4 n us op num (args.drop (k+1)) (k+1)=r:=by
 rw [Y7 h,V4,Ze hc] at hr;rw [UN];exact hr
theorem Rw {args acc r:LI} {k:Nat} {a:Int} (h:args[k]? = some a) (hc:¬Tu n us op num a k=true) (hr:acc++V4 n us op num (args.drop k) k=r) :
  acc++V4 n us op num (args.drop (k+1)) (k+1)=r:=by
 rw [Y7 h,V4,Z8 hc] at hr;exact hr
theorem Zd7 {args acc r:LI} {k:Nat} (h:args.length<=k) (hr:acc++V4 n us op num (args.drop k) k=r):acc=r:=by
 rw [Xf h,V4,Jn] at hr;exact hr
theorem LF (h:¬Tv op=true):∀(args:LI) (i:Nat),V4 n us op num args i=[]
 | [],_=>rfl
 | a::r,i=>by
  have hb:Tv op=false:=by simpa using h
  rw [V4,Z8 (by rw [Tu,hb];simp)];exact LF h r (i+1)
theorem LE:∀{args:LI} {i:Nat} {p:Int},p∈V4 n us op num args i->(i:Int)<=p/\p<i+args.length
 | [],_,_,h=>by simp [V4] at h
 | a::r,i,p,h=>by
  rw [V4] at h
  simp only [YS]
  split at h
  ·rcases YF.1 h with rfl|h
   ·omega
   ·have:=LE h;omega
  ·have:=LE h;omega
theorem Rv:∀(args:LI) (i:Nat),(V4 n us op num args i).length<=args.length
 | [],_=>by simp [V4]
 | a::r,i=>by
  have:=Rv r (i+1)
  rw [V4];split<;>simp<;>omega
theorem PQ (h:¬Tv op=true) (i:Nat):¬Wz n op num i=true:=by
 have:op≠9:=fun q=>h (by rw [q];rfl)
 rw [Wz,J8,Z8 this];simp
def AZ (n:Zm) (op num:Int) (args:LI) (k:Nat) (ls:LI):Prop:=∀x,x∈ls↔∃i,i<k/\args[i]? = some x/\Wz n op num i=true
theorem PO {args ls:LI} {k:Nat} (h:AZ n op num args k ls) (hl:¬Wz n op num k=true):AZ n op num args (k+1) ls:=by
 intro x;rw [h x]
 constructor
 ·rintro ⟨i,q1,q2⟩;exact ⟨i,by omega,q2⟩
 ·rintro ⟨i,q1,q2,q3⟩
  rcases BQ i k with q|q
  ·exact ⟨i,q,q2,q3⟩
  ·have:i=k:=by omega
   subst this;exact absurd q3 hl
theorem Zbl {args ls ls2:LI} {k:Nat} {a:Int} (ha:args[k]? = some a) (h:AZ n op num args k ls) (hl:Wz n op num k=true) (h2:∀x,x∈ls2↔x∈ls∨x=a):AZ n op num args (k+1) ls2:=by
 intro x;rw [h2 x,h x]
 constructor
 ·rintro (⟨i,q1,q2⟩|rfl)
  ·exact ⟨i,by omega,q2⟩
  ·exact ⟨k,by omega,ha,hl⟩
 ·rintro ⟨i,q1,q2,q3⟩
  rcases BQ i k with q|q
  ·exact .inl ⟨i,q,q2,q3⟩
  ·have:i=k:=by omega
   subst this;rw [ha] at q2;exact .inr (Q3 q2).symm
theorem Zbn {args:LI}:AZ n op num args 0 []:=by intro x;simp
theorem Zbm {args ls:LI} {k:Nat} (h:AZ n op num args k ls) (hk:args.length<=k):∀x,x∈ls↔∃i,args[i]? = some x/\Wz n op num i=true:=by
 intro x;rw [h x]
 constructor
 ·rintro ⟨i,_,q⟩;exact ⟨i,q⟩
 ·rintro ⟨i,q⟩;exact ⟨i,by have:=(Xk.1 q.1).1;omega,q⟩
end
def Kj (args:LI):LI->Zr->Option Zr
 | [],L=>some L
 | k::r,L=>match UM L (gI args k) with
  | none=>none
  | some L1=>Kj args r L1
theorem EP {n:Zm} {op num:Int} {all:LI}:∀{args:LI} {i:Nat} {L:Zr},all.drop i=args->UX n op num args i L=Kj all (V4 n L.vars op num args i) L
 | [],i,L,_=>rfl
 | a::r,i,L,h=>by
  have hr:all.drop (i+1)=r:=by rw [<-List.drop_drop,h];rfl
  have ha:gI all (i:Int)=a:=by
   have:(all.drop i)[0]? = some a:=by rw [h];rfl
   rw [BK] at this
   exact Vy (by simpa using this)
  rw [UX,V4]
  split
  ·rw [Kj,ha]
   cases ht:UM L a with
   | none=>rfl
   | some L1=>
    simp only
    rw [EP hr,(Ki ht).2.1]
  ·exact EP hr
theorem Zhv {args ps:LI} {k:Nat} {L:Zr} {p x:Int} {r:Option Zr} (h:ps[k]? = some p) (hx:gI args p=x) (ht:1<=gI L.own x) (hr:Kj args (ps.drop k) L=r):Kj args (ps.drop (k+1)) (XN L x)=r:=by
 rw [Y7 h,Kj,hx,AP,Ze ht] at hr;exact hr
theorem Zhw {args ps:LI} {k:Nat} {L:Zr} {p x:Int} {r:Option Zr} (h:ps[k]? = some p) (hx:gI args p=x) (ht:¬1<=gI L.own x) (hr:Kj args (ps.drop k) L=r):r=none:=by
 rw [Y7 h,Kj,hx,AP,Z8 ht] at hr;exact hr.symm
theorem Zhu {args ps:LI} {k:Nat} {L:Zr} {r:Option Zr} (h:ps.length<=k) (hr:Kj args (ps.drop k) L=r):r=some L:=by
 rw [Xf h,Kj] at hr;exact hr.symm
theorem FP {n:Zm} {op num:Int} {ln:LI} {L:Zr} {all:LI}:∀{args:LI} {i:Nat},all.drop i=args ->
  (TZ n op num ln L args i=true↔∀j x,i<=j->all[j]? = some x->Wz n op num j=true->Wk L ln x=true)
 | [],i,h=>by
  simp only [TZ,true_iff]
  intro j x hj hx _
  have:=(Xk.1 hx).1
  have hl:=Yn List.length h
  simp at hl;omega
 | a::r,i,h=>by
  have hr:all.drop (i+1)=r:=by rw [<-List.drop_drop,h];rfl
  have ha:all[i]? = some a:=by
   have:(all.drop i)[0]? = some a:=by rw [h];rfl
   rw [BK] at this;simpa using this
  rw [TZ]
  split
  ·rename_i q
   simp only [Bool.false_eq_true,false_iff]
   exact fun z=>q.2 (z i a (X3 _) ha q.1)
  ·rename_i q
   rw [FP hr]
   constructor
   ·intro z j x hj hx hl
    rcases BQ i j with hij|hij
    ·exact z j x hij hx hl
    ·have:j=i:=by omega
     subst this;rw [ha] at hx;cases hx
     exact V6.1 fun y=>q ⟨hl,y⟩
   ·exact fun z j x hj=>z j x om
theorem OL {n:Zm} {ln:LI} {L L1:Zr} {op num into:Int} {args ls:LI} (h1:Kj args (V4 n L.vars op num args 0) L=some L1) (hl:∀x,x∈ls↔∃i,args[i]? = some x/\Wz n op num i=true) :
  ((∀x∈ls,Wk L1 ln x=true)->Ux n ln L op num into args=J4 L1 into args.length)/\((∃x∈ls,¬Wk L1 ln x=true)->Ux n ln L op num into args=none):=by
 rw [Ux,EP (all:=args) (args:=args) (i:=0) rfl,h1]
 simp only
 constructor
 ·intro h
  rw [Ze ((FP (all:=args) (args:=args) (i:=0) rfl).2 fun j x _ hx hj=>h x ((hl x).2 ⟨j,hx,hj⟩))]
 ·rintro ⟨x,hx,hd⟩
  rw [Z8]
  intro z
  obtain ⟨j,q1,q2⟩:=(hl x).1 hx
  exact hd ((FP (all:=args) (args:=args) (i:=0) rfl).1 z j x (KO _) q1 q2)
theorem Z8j {n:Zm} {ln:LI} {L:Zr} {op num into:Int} {args:LI} (h1:Kj args (V4 n L.vars op num args 0) L=none):Ux n ln L op num into args=none:=by
 rw [Ux,EP (all:=args) (args:=args) (i:=0) rfl,h1]
end Go.Abs
namespace Go.Abs
theorem Zfk {n:Zm} (hn:X1 n) (num:Int):(UA n num).lnt.length<=4194304:=by
 rw [UA,Us]
 cases h:n.routines[num.toNat]? with
 | none=>simp
 | some r=>exact hn.lent r (ZZ h)
theorem Zbk {n:Zm} {op num:Int} {k:Nat}:Wz n op num k=true↔(op=9/\(k:Int)∈(UA n num).lnt):=by
 rw [Wz,J8,decide_eq_true_iff]
 by_cases h:op=9
 ·rw [Ze h,UA,Us]
  cases n.routines[num.toNat]? with
  | none=>simp
  | some r=>simp [h,W2]
 ·rw [Z8 h];simp [h]
end Go.Abs
namespace Go.Abs
theorem clS {xs:LI} {p:LI->Prop}:DE fun r h=>∃(vp vl:Value) (ls:LI),r=.tup [ZQ xs vp,ZQ ls vl]/\h=[.tail vp 1,.tail vl 1]/\p ls:=by
 rintro _ _ ⟨vp,vl,ls,rfl,rfl,_⟩
 refine ⟨.tup fun y hy=>?_,by simp [DF]⟩
 simp only [YF,List.not_mem_nil,or_false] at hy
 rcases hy with rfl|rfl
 ·exact .own (k:=1) (Hf _) (by simp)
 ·exact .own (k:=1) (Hf _) (by simp)
end Go.Abs
end
section
namespace Go.Abs
section
variable {n:Zm} {ln:LI}
theorem Z8k {L L':Zr} {op num into q:Int} {args:LI} {ds:List Zg} (hk:X8 ds L q) (h:Ux n ln L op num into args=some L'):L'.vars=L.vars/\L'.par=L.par/\L'.con=L.con/\L'.fst=L.fst:=by
 rw [Ux] at h
 cases ht:UX n op num args 0 L with
 | none=>rw [ht] at h;cases h
 | some L1=>
  rw [ht] at h
  obtain ⟨_,h1,h2,h3,h4,_⟩:=FQ hk ht
  simp only at h
  split at h
  ·rw [J4] at h
   split at h
   ·split at h
    ·cases h
    ·cases h;exact ⟨h1,h2,h3,h4⟩
   ·cases h;exact ⟨h1,h2,h3,h4⟩
  ·cases h
theorem Zd3 {L L1:Zr} {s:Z5} {q:Int} {ds:List Zg} (hk:X8 ds L q) (h:TR n ln L s.op s.num s.into s.args (T0 n ln L s.op s.num s.args s.kids)=some L1):L1.vars=L.vars/\L1.par=L.par/\L1.con=L.con/\L1.fst=L.fst:=by
 rw [TR] at h
 split at h
 ·obtain ⟨h1,h2,h3,h4,_⟩:=I6 h;exact ⟨h1,h2,h3,h4⟩
 split at h
 ·obtain ⟨_,h1,h2,h3,h4,_⟩:=Ki h;exact ⟨h1,h2,h3,h4⟩
 split at h
 ·obtain ⟨h1,h2,h3,h4,_⟩:=Lv h;exact ⟨h1,h2,h3,h4⟩
 split at h
 ·split at h
  ·cases h
  ·cases hks:s.kids with
   | nil=>rw [hks,T0] at h;cases h
   | cons b bs=>
    rw [hks,T0] at h
    unfold Bn at h
    cases hb:WO n ln (VA n.decls L s.op s.num s.args 0) L.vars.length b with
    | none=>rw [hb] at h;cases h
    | some one=>
     rw [hb] at h
     simp only at h
     split at h
     ·cases h;exact ⟨rfl,rfl,rfl,rfl⟩
     ·cases h
 ·exact Z8k hk h
theorem Z0c (hn:X1 n) {s:Z5} {L L':Zr} {q:Int} {am:List Xp} (hk:X8 n.decls L q) (hq:0<=q) (hty:0<=Y8 n L.vars s) (h:VV n ln L s=some L') (ha:V0 n.decls L am):V0 n.decls L' am:=by
 rw [Mn] at h
 cases hp:TR n ln L s.op s.num s.into s.args (T0 n ln L s.op s.num s.args s.kids) with
 | none=>rw [hp] at h;cases h
 | some L1=>
  rw [hp] at h
  obtain ⟨h1,h2,h3,h4⟩:=Zd3 hk hp
  have hk1:=(Bw hn hk hq (EM hty) hp).1
  have ha1:V0 n.decls L1 am:=ha.same (by rw [h1]) h2 h3 h4
  rw [J0] at h
  split at h
  ·cases h;exact ha1.grow hk1.len
  ·cases h;exact ha1
theorem H5 (hn:X1 n) {am:List Xp}:∀{xs:List Z5} {L L':Zr} {q:Int} {vs:LI},X8 n.decls L q->0<=q->V0 n.decls L am->XV n xs L.vars=some vs->WL n ln L xs=some L' ->
  X8 n.decls L' (q+4*Y9 xs)/\L'.vars=vs/\V0 n.decls L' am
 | [],L,L',q,vs,hk,hq,ha,ht,h=>by
  rw [WL] at h;rw [XV] at ht;cases h;cases ht
  exact ⟨by simpa [Y9] using hk,rfl,ha⟩
 | s::r,L,L',q,vs,hk,hq,ha,ht,h=>by
  rw [WL] at h
  cases hs:VV n ln L s with
  | none=>rw [hs] at h;cases h
  | some L1=>
   rw [hs] at h
   obtain ⟨g1,g2⟩:=EN ht
   obtain ⟨k1,k2⟩:=H3 hn hk hq g1 hs
   have:=H5 hn (xs:=r) k1 (by have:=s.sz_pos;omega) (Z0c hn hk hq g1 hs ha) (by rw [k2];exact g2) h
   refine ⟨?_,this.2⟩
   rw [show q+4*Y9 (s::r)=q+4*s.sz+4*Y9 r by rw [Y9];omega]
   exact this.1
end
end Go.Abs
namespace Go.Abs
def BW (n:Zm):Prop:=∀r∈n.routines,∀i:Nat,(i:Int)∈r.lent->∃t,r.params[i]? = some t/\t≠0
theorem PN {ps:LI}:∀{ls:LI} {prev:Option Int},QH ps ls prev=true->∀v∈ls,(0<=v/\v<=(ps.length:Int)-1)/\ps[v.toNat]?≠some 0
 | [],_,_,v,h=>by cases h
 | x::r,prev,h,v,hv=>by
  rw [QH] at h
  split at h
  ·rename_i q
   rcases YF.1 hv with rfl|hv
   ·exact ⟨q.1,q.2.1⟩
   ·exact PN h v hv
  ·cases h
theorem PR:∀{rs:List Y0},T1 rs=true->∀r∈rs,Jj r.params r.lent=true
 | [],_,r,h=>by cases h
 | x::rs,h,r,hr=>by
  rw [T1] at h
  split at h
  ·rcases YF.1 hr with rfl|hr
   ·assumption
   ·exact PR h r hr
  ·cases h
theorem Zc3 {n:Zm} (h:Vb n=true):BW n:=by
 simp only [Vb,QO,W7,decide_eq_true_eq] at h
 obtain ⟨_,_,h6⟩:=h
 intro r hr i hi
 obtain ⟨h1,h2⟩:=PN (PR h6 r hr) i hi
 obtain ⟨t,ht⟩:=J1 (xs:=r.params) (j:=i) om
 refine ⟨t,ht,fun q=>h2 ?_⟩
 rw [Uh,ht,q]
theorem H9 {us:LI}:∀{args tys:LI} {i:Nat} {a t:Int},Tl us args tys=true->args[i]? = some a->tys[i]? = some t->Xm us a=some t
 | [],_,i,a,t,_,h,_=>by simp at h
 | x::r,[],i,a,t,_,_,h=>by simp at h
 | x::r,y::ys,i,a,t,h,ha,ht=>by
  rw [Tl] at h
  split at h
  ·rename_i hq
   cases i with
   | zero=>simp at ha ht;subst ha;subst ht;exact hq
   | succ i=>exact H9 h (by simpa using ha) (by simpa using ht)
  ·cases h
theorem Zbo {n:Zm} (hl:BW n) {us:LI} {s:Z5} (h:0<=Y8 n us s):∀(i:Nat) (a:Int),s.args[i]? = some a->Wz n s.op s.num i=true->gI us a≠0:=by
 intro i a ha hla
 rw [Wz,J8,decide_eq_true_iff] at hla
 by_cases h9:s.op=9
 ·rw [Ze h9] at hla
  have hn:=(EM h).num h9
  obtain ⟨r,hr⟩:=J1 (xs:=n.routines) (j:=s.num.toNat) om
  rw [hr] at hla
  obtain ⟨t,ht,h0⟩:=hl r (ZZ hr) i hla
  rw [AO] at h
  split at h
  ·omega
  rw [Z8 om,Z8 om,Z8 om,Z8 om,Z8 om,Z8 om,Ze (.inl h9),Ur,Qi om hr] at h
  simp only [KD] at h
  rw [Ze h9] at h
  split at h
  ·rename_i hty
   rw [W9] at hty
   have hq:Xm us a=some t:=by
    first
    | exact H9 hty ha ht
    | exact H9 (Bool.and_eq_true_iff.1 hty).2 ha ht
    | exact H9 (Bool.and_eq_true_iff.1 hty).1 ha ht
   rw [Vy (KX hq).2];exact h0
  ·omega
 ·rw [Z8 h9] at hla;cases hla
end Go.Abs
namespace Go.Abs
theorem Zfe {n:Zm} {us:LI} {s:Z5} (h:∀t∈us,0<=t) (h0:0<=Y8 n us s):∀t∈Qv n us s,0<=t:=by
 rw [Qv];split
 ·exact Eo h fun t ht=>by rw [XD.1 ht];exact h0
 ·exact h
end Go.Abs
namespace Go.Abs
theorem HW {c:Bool} {ok:Int->Prop}:DE fun r h=>∃t:Int,r=.tup [.i t,.b c]/\h=[]/\ok t:=by
 rintro _ _ ⟨t,rfl,rfl,_⟩
 refine ⟨.tup fun y hy=>?_,by simp⟩
 simp only [YF,List.not_mem_nil,or_false] at hy
 rcases hy with rfl|rfl<;>exact .val
section
variable {n:Zm} {ln:LI} {L:Zr} {s:Z5}
theorem Z64 {op t:Int} {r:Option Zr} (h:¬XF op=true):J0 L op t r=r:=by
 cases r with
 | none=>rfl
 | some X=>exact Z8 h
theorem Z0e {x:Int} (hc:Yp s.op=true) (hx:gI s.args 0=x):VV n ln L s=QX n ln L s.op x:=by
 have hop:14<=s.op/\s.op<=17:=by simpa [Yp] using hc
 have hd:¬XF s.op=true:=by rw [XF];simp;omega
 rw [UL,Z64 hd,QX]
 by_cases h14:s.op=14
 ·rw [Ze h14];exact Ly h14 hx
 rw [Z8 h14]
 by_cases h15:s.op=15
 ·rw [Ze h15];exact Lz h15 hx
 rw [Z8 h15]
 exact LA om hx
theorem Mo {L1:Zr} {t:Int} (hP:QJ n ln L s=some L1) (h0:0<=Y8 n L.vars s) (hnc:¬Yp s.op=true) (ht:t=Y8 n L.vars s):VV n ln L s=some (L1.grow t (min t 1) (-1)):=by
 have hd:XF s.op=true:=by rw [Fm h0];simpa using hnc
 rw [UL,hP]
 show (if XF s.op=true then _ else _)=_
 rw [Ze hd,ht,show (if Y8 n L.vars s≠0 then (1:Int) else 0)=min (Y8 n L.vars s) 1 by split<;>omega]
theorem Z0f (hP:QJ n ln L s=none):VV n ln L s=none:=by rw [UL,hP];rfl
theorem LD (h1:¬Yp s.op=true) (h2:¬(s.op=7∨s.op=8)):QJ n ln L s=Ux n ln L s.op s.num s.into s.args:=by
 have hop:¬(14<=s.op/\s.op<=17):=by simpa [Yp] using h1
 rw [QJ,TR,Z8 om,Z8 om,Z8 om,Z8 h2]
theorem Zd2 (h1:¬Yp s.op=true) (h2:¬(s.op=7∨s.op=8)) (h3:¬Tv s.op=true) (h0:0<=Y8 n L.vars s):QJ n ln L s=some L:=by
 rw [LD h1 h2,Ux,EP (all:=s.args) (args:=s.args) (i:=0) rfl,LF h3]
 show (if TZ n s.op s.num ln L s.args 0=true then J4 L s.into s.args.length else none)=some L
 rw [Ze ((FP (all:=s.args) (args:=s.args) (i:=0) rfl).2 fun j x _ _ hl=>absurd hl (PQ h3 j)),J4]
 have hi:¬0<s.into:=by
  intro hi
  rw [AO] at h0
  split at h0
  ·omega
  ·rename_i hq
   have hv:Uf L.vars s.op s.into=true:=V6.1 fun z=>hq (.inr (.inl z))
   rw [Uf,Z8 om] at hv
   split at hv
   ·rename_i h6;exact h3 (by rw [h6];rfl)
   ·cases hv
 rw [Z8 hi]
end
end Go.Abs
namespace Go.Abs
def TK (L:Zr) (am:List Xp) (s:Z5) (m:LI):List Xp:=if s.op=8 then am++[⟨gI s.args 0,(L.vars.length:Nat),m,false⟩] else am
def Jf (n:Zm) (L:Zr) (s:Z5) (k:Nat):Zr:=if s.op=8 then { L with con:=L.con.set (gI s.args 0).toNat (gI (ZX n.decls s.num) k),fst:=L.fst.set (gI s.args 0).toNat L.vars.length } else L
theorem BG {n:Zm} {L:Zr} {s:Z5} {k:Nat}:(Jf n L s k).vars=L.vars:=by rw [Jf];split<;>rfl
theorem Dt {n:Zm} {L:Zr} {s:Z5} {k:Nat}:(Jf n L s k).own=L.own:=by rw [Jf];split<;>rfl
theorem Du {n:Zm} {L:Zr} {s:Z5} {k:Nat}:(Jf n L s k).tok=L.tok:=by rw [Jf];split<;>rfl
theorem Z0a {n:Zm} {L:Zr} {s:Z5} {k:Nat} (h:WB L):WB (Jf n L s k):=by rw [Jf];split;exact h.arm;exact h
theorem Z09 {n:Zm} {L:Zr} {s:Z5} {k:Nat} {m:LI} (hop:s.op=7∨s.op=8) (hm:(Xj n.decls s.op s.num)[k]? = some m):J2 (Jf n L s k) (gI s.args 0) m=VA n.decls L s.op s.num s.args k:=by
 rw [Jf,VA]
 by_cases h8:s.op=8
 ·rw [Ze h8,Ze h8]
  obtain ⟨c,hc,rfl⟩:=HK h8 hm
  have hgc:gI (ZX n.decls s.num) (k:Int)=c:=by rw [gI];simp [hc]
  rw [JO,hgc]
 ·rw [Z8 h8,Z8 h8]
  rw [Xj,Ze om] at hm
  have:m=[]:=by
   match k,hm with
   | 0,hm=>simpa using hm.symm
   | 1,hm=>simpa using hm.symm
   | k+2,hm=>simp at hm
  rw [this];rfl
theorem N2 {n:Zm} {L:Zr} {am:List Xp} {s:Z5} {k:Nat} {m:LI} (hn:X1 n) (ha:V0 n.decls L am) (hl:WB L) (hop:s.op=7∨s.op=8) (hx:0<=gI s.args 0/\gI s.args 0<L.vars.length) (hm:(Xj n.decls s.op s.num)[k]? = some m) :
  V0 n.decls (VA n.decls L s.op s.num s.args k) (TK L am s m):=by
 rw [TK,VA]
 by_cases h8:s.op=8
 ·rw [Ze h8,Ze h8]
  obtain ⟨c,hc,rfl⟩:=HK h8 hm
  have hgc:gI (ZX n.decls s.num) (k:Int)=c:=by rw [gI];simp [hc]
  rw [hgc]
  exact ha.arm hl hx (NF hn.decls hc).1
 ·rw [Z8 h8,Z8 h8];exact ha
end Go.Abs
namespace Go.Abs
theorem H4 {n:Zm}:∀{xs:List Z5} {us vs:LI},XV n xs us=some vs->us.length<=vs.length/\vs.length<=us.length+Y9 xs
 | [],us,vs,h=>by rw [XV] at h;cases h;simp [Y9]
 | s::r,us,vs,h=>by
  obtain ⟨_,g2⟩:=EN h
  have:=H4 g2
  have h2:=GS n us s
  rw [Y9];omega
theorem N1 {L:Zr} {am:List Xp} {s:Z5} {m:LI}:(TK L am s m).length<=am.length+1:=by rw [TK];split<;>simp
theorem N3 {n:Zm} (hty:Kn n) {op num:Int} {k:Nat} {m:LI} (h:(Xj n.decls op num)[k]? = some m):∀f∈m,0<=f:=by
 by_cases h7:op=7
 ·rw [Xj,Ze h7] at h
  have:m=[]:=by
   match k,h with
   | 0,h=>simpa using h.symm
   | 1,h=>simpa using h.symm
   | k+2,h=>simp at h
  rw [this];intro f hf;cases hf
 ·rw [Xj,Z8 h7,Us] at h
  cases hc:(ZX n.decls num)[k]? with
  | none=>rw [hc] at h;cases h
  | some c=>rw [hc] at h;cases h;exact hty.fields c
theorem Fv {L:Zr} {r:Int}:(Wf L r).own.length=L.own.length/\(Wf L r).tok.length=L.tok.length/\(Wf L r).vars=L.vars:=by
 rw [Wf];split
 ·exact ⟨VN,rfl,rfl⟩
 ·exact ⟨rfl,rfl,rfl⟩
end Go.Abs
namespace Go.Abs
theorem H6 {L M:Zr} {n:Zm} {ln:LI} {xs:List Z5} {f:Zr->Option Zr} (h:WL n ln L xs=some M):Dw (WL n ln L xs) f=f M:=by rw [h];rfl
end Go.Abs
end
namespace Go.Abs

end Go.Abs
section
namespace Go.Abs
theorem Z1c:∀{os ts:LI} {m:Nat},os.length=ts.length->(V5 os ts=true↔V5 (os.take m) (ts.take m)=true/\V5 (os.drop m) (ts.drop m)=true)
 | [],[],m,_=>by simp [V5]
 | [],_::_,_,h=>by simp at h
 | _::_,[],_,h=>by simp at h
 | o::os,t::ts,0,h=>by simp [V5]
 | o::os,t::ts,m+1,h=>by
  simp only [BP,List.drop_succ_cons]
  rw [V5,V5]
  split
  ·simp
  ·exact Z1c (by simpa using h)
theorem S4 {n:Zm} {r:Y0} {M:Zr} (hP:WL n r.lent (UG r) r.body.steps=some M) (hl:M.own.length=M.tok.length):TU n r=(U9 0 r.body.result M).isSome:=by
 rw [TU,Jq,hP]
 show (match U9 r.params.length r.body.result M with|none=>false|some L=>(UD L 0).isSome)=_
 rw [U9,U9]
 cases hT:(if gI M.vars r.body.result≠0 then UM M r.body.result else some M) with
 | none=>rfl
 | some M2=>
  have h2:M2.own.length=M2.tok.length:=by
   split at hT
   ·have:=Ki hT;rw [this.2.2.2.2.2.1,this.2.2.2.2.2.2,VN];exact hl
   ·cases hT;exact hl
  show (match UD M2 r.params.length with|none=>false|some L=>(UD L 0).isSome)=(UD M2 0).isSome
  have key:=Z1c (m:=r.params.length) h2
  rw [UD,UD]
  by_cases h1:V5 (M2.own.drop r.params.length) (M2.tok.drop r.params.length)=true
  ·rw [Ze h1]
   show (UD (M2.take r.params.length) 0).isSome=_
   rw [UD]
   by_cases h3:V5 (M2.own.take r.params.length) (M2.tok.take r.params.length)=true
   ·rw [Ze (show V5 ((M2.take r.params.length).own.drop 0) ((M2.take r.params.length).tok.drop 0)=true from h3),Ze (show V5 (M2.own.drop 0) (M2.tok.drop 0)=true from key.2 ⟨h3,h1⟩)];rfl
   ·rw [Z8 (show ¬V5 ((M2.take r.params.length).own.drop 0) ((M2.take r.params.length).tok.drop 0)=true from h3),Z8 (show ¬V5 (M2.own.drop 0) (M2.tok.drop 0)=true from fun z=>h3 (key.1 z).1)]
  ·rw [Z8 h1,Z8 (show ¬V5 (M2.own.drop 0) (M2.tok.drop 0)=true from fun z=>h1 (key.1 z).2)];rfl
theorem Zea {n:Zm} {r:Y0} (hP:WL n r.lent (UG r) r.body.steps=none):TU n r=false:=by rw [TU,Jq,hP];rfl
end Go.Abs
namespace Go.Abs
theorem M7 {xs:LI} {k:Nat} {a b:Int} (h:xs.length=k):(xs++[a]).set k b=xs++[b]:=by subst h;simp
end Go.Abs
namespace Go.Abs
theorem Z2d {ds:List Zg}:V0 ds ⟨[],[],[],[],[],[]⟩ []:=⟨fun a ha=>(nomatch ha),fun a ha=>(nomatch ha),fun v h0 h1=>(by have h2:v<((0:Nat):Int):=h1;omega),fun v h0 h1=>(by have h2:v<((0:Nat):Int):=h1;omega)⟩
theorem Rs {ds:List Zg} {lent:LI}:∀{ps:LI} {i:Nat} {L:Zr},WB L->V0 ds L []->V0 ds (Ke lent ps i L) []
 | [],_,_,_,h=>h
 | t::r,i,L,hl,h=>by rw [Ke];exact Rs hl.grow (h.grow hl)
theorem PZ {ds:List Zg} (rt:Y0):V0 ds (UG rt) []:=Rs ⟨rfl,rfl,rfl,rfl,rfl⟩ Z2d
end Go.Abs
end
section
namespace Go.Abs
end Go.Abs
namespace Go.Abs
end Go.Abs
namespace Go.Abs
end Go.Abs
namespace Go.Abs
end Go.Abs
end
namespace Go.Abs
def Zy (op v:Int):Z5:=.mk op 0 0 [v] []
def Tc (ds:List Zg) (num:Int) (k:Nat):LI:=((ZX ds num).map (ZV ds))[k]?.getD []
section
variable {ds:List Zg} {am:List Xp} {m:Nat}
end
theorem O9 {ds:List Zg} {num:Int} {k:Nat} {m:LI} (h:((ZX ds num).map (ZV ds))[k]? = some m):Tc ds num k=m:=by rw [Tc,h];rfl
theorem Z63 {ds:List Zg} (hd:Ws ds) (num:Int) (k:Nat):(Tc ds num k).length<=3:=by
 rw [Tc,Us]
 cases (ZX ds num)[k]? with
 | none=>simp
 | some c=>exact U5 hd c
theorem Mm {xs:List Z5} {k:Nat} {s:Z5} (h:xs[k]? = some s):Y9 (xs.take (k+1))=Y9 (xs.take k)+s.sz:=by
 induction xs generalizing k with
 | nil=>simp at h
 | cons t r ih=>
  cases k with
  | zero=>simp at h;subst h;simp [Y9]
  | succ k=>rw [BP,BP,Y9,Y9,ih (by simpa using h)];omega
theorem KJ (xs:List Z5) (k:Nat):Y9 (xs.take k)<=Y9 xs:=by
 induction xs generalizing k with
 | nil=>simp
 | cons t r ih=>
  cases k with
  | zero=>simp [Y9]
  | succ k=>have:=ih k;rw [BP,Y9,Y9];omega
theorem Zfc {n:Zm} {us:LI} {s:Z5} (g:0<=Y8 n us s) (h:Yp s.op=true):Qv n us s=us:=by rw [Qv,Fm g,h];rfl
theorem Zfb {n:Zm} {us:LI} {s:Z5} (g:0<=Y8 n us s) (h:¬Yp s.op=true):(Qv n us s).length=us.length+1:=by
 rw [Qv,Fm g,KM.2 h];simp
theorem Zfd {n:Zm} {us:LI} {s:Z5} (g:0<=Y8 n us s):(Qv n us s).length=if Yp s.op=true then us.length else us.length+1:=by
 split
 ·rw [Zfc g (by assumption)]
 ·exact Zfb g (by assumption)
theorem C6 (ys:List Vq):(Zf (Vo ys)).length=ys.length*3:=by rw [UW _ (NR _)];simp
theorem Od (ys:List Vp):(Zf (Ul ys)).length=ys.length:=by rw [UW _ (NQ _)];simp
theorem Oc (ys:List Zg):(Zf (YA ys)).length=ys.length*3:=by rw [UW _ (Ky _)];simp
theorem Z6a (ys:List Yh):(Zf (XO ys)).length=ys.length:=by rw [UW _ (DS _)];simp
theorem Z6b {ds:List Zg} {k:Nat} {d:Zg} (h:ds[k]? = some d):Zf (YA (ds.drop k))=TP d++Zf (YA (ds.drop (k+1))):=by rw [Y7 h];rfl
theorem Z69 {ds:List Yh} {k:Nat} {d:Yh} (h:ds[k]? = some d):Zf (XO (ds.drop k))=Dd d++Zf (XO (ds.drop (k+1))):=by rw [Y7 h];rfl
theorem S7 {ys:List Vq} {ds:List Zg} {k:Nat} {d:Zg} (h:ds[k]? = some d):Zf (Vo ys++YA (ds.drop k))=Zf (Vo ys)++(TP d++Zf (YA (ds.drop (k+1)))):=by
 rw [UF,Z6b h]
theorem Zee {ys:List Vp} {ds:List Yh} {k:Nat} {d:Yh} (h:ds[k]? = some d):Zf (Ul ys++XO (ds.drop k))=Zf (Ul ys)++(Dd d++Zf (XO (ds.drop (k+1)))):=by
 rw [UF,Z69 h]
theorem S6 {ys:List Vq} {ds:List Zg} {k:Nat} (h:ys.length=k) (hk:k<=ds.length):(Zf (Vo ys++YA (ds.drop k))).length=ds.length*3:=by
 rw [UF,Yr,C6,Oc,A9];omega
theorem S5 {ys:List Vp} {ds:List Yh} {k:Nat} (h:ys.length=k) (hk:k<=ds.length):(Zf (Ul ys++XO (ds.drop k))).length=ds.length*1:=by
 rw [UF,Yr,Od,Z6a,A9];omega
theorem Zeg {ys:List Vq} {ds:List Zg} {k:Nat} {f t:Int} {zs:List Vp} {u:Value}:Zf (Vo ys)++([.i f,.i t,Et zs u]++Zf (YA (ds.drop (k+1))))=Zf (Vo (ys++[Vq.mk f t zs u])++YA (ds.drop (k+1))):=by
 rw [Z5k,UF,UF,UN];rfl
theorem Zed {ys:List Vp} {ds:List Yh} {k:Nat} {xs:LI} {u:Value}:Zf (Ul ys)++([ZQ xs u]++Zf (XO (ds.drop (k+1))))=Zf (Ul (ys++[Vp.mk xs u])++XO (ds.drop (k+1))):=by
 rw [Z5j,UF,UF,UN];rfl
theorem Zef {ys:List Vq} {ds:List Zg} {k:Nat} (h:ds.length<=k):Zf (Vo ys++YA (ds.drop k))=Zf (Vo ys):=by rw [Xf h];simp [YA]
theorem Zec {ys:List Vp} {ds:List Yh} {k:Nat} (h:ds.length<=k):Zf (Ul ys++XO (ds.drop k))=Zf (Ul ys):=by rw [Xf h];simp [XO]
theorem Zeh {A B:List AV} {x y z x':AV} {o:Nat} (hA:A.length=o):(A++([x,y,z]++B)).take (o+2)++[x']++(A++([x,y,z]++B)).drop (o+2+1)=A++([x,y,x']++B):=by
 have h:=EF (A:=A++[x,y]) (xs:=[z]) (ys:=[x']) (B:=B) (o:=o+2) (by simp [hA]) rfl
 simpa using h
theorem Zei {A B:List AV} {x y z:AV} {o:Nat} (hA:A.length=o):((A++([x,y,z]++B)).drop (o+2)).take 1=[z]:=by
 have h:=LX (A:=A++[x,y]) (xs:=[z]) (B:=B) (o:=o+2) (by simp [hA])
 simpa using h
theorem Zej {A B:List AV} {x y z x':AV} {o:Nat} (hA:A.length=o):(A++([x,y,z]++B)).set (o+2) x'=A++([x,y,x']++B):=by
 subst hA
 rw [List.set_append_right _ _ om]
 simp
theorem Z1f {f t:Int} {zs:List Vp} {u:Value} {cs:List Yh} (h:zs.map Vp.er=cs):[Vq.mk f t zs u].map Vq.er=[Zg.mk f t cs]:=by
 rw [<-h];rfl
theorem TT:∀(xs ys:List Z5),Y9 (xs++ys)=Y9 xs+Y9 ys
 | [],ys=>by simp [Y9]
 | x::r,ys=>by rw [QQ,Y9,Y9,TT r ys];omega
theorem Ff (op v:Int):(Zy op v).sz=2:=by rw [Zy,Z5.sz];simp [X2]
theorem Mk (op:Int):∀l:LI,Y9 (l.map (Zy op))=2*l.length
 | []=>by simp [Y9]
 | x::r=>by rw [Ut,Y9,Ff,Mk op r,YS];omega
section
variable {ds:List Zg} (hd:Ws ds)
include hd
end
section
variable {ds:List Zg} {cons first:LI}
end
section
variable {ds:List Zg} (hd:Ws ds)
include hd
end
def XZ:List Z5->Nat
 | []=>0
 | s::r=>if s.op=14∨s.op=15 then XZ r+1 else 0
def WI (op:Int):List Z5->LI
 | []=>[]
 | s::r=>if s.op=op then gI s.args 0::WI op r else WI op r
def Ti:LI->Int->LI->LI->LI × LI
 | [],_,D,R=>(D,R)
 | f::r,q,D,R=>if f≠0/\q∈D then Ti r (q+1) (D.erase q) R else if f≠0 then Ti r (q+1) D (R++[q]) else Ti r (q+1) D R
def AJ (xs:List Z5) (x:Int) (fs:LI) (q:Int):LI × LI:=Ti fs q (WI 14 (xs.take (XZ xs))) ((WI 15 (xs.take (XZ xs))).erase x)
def JM (xs:List Z5) (x:Int) (fs:LI) (q:Int):List Z5:=
 if x∈WI 15 (xs.take (XZ xs))/\fs.length≠0 then (AJ xs x fs q).1.map (Zy 14)++[Zy 16 x]++(AJ xs x fs q).2.map (Zy 15)++xs.drop (XZ xs) else xs
def Jp (b:Z6) (x:Int) (fs:LI) (q:Int):Z6:=.mk (JM b.steps x fs q) b.result
theorem GJ:∀xs:List Z5,XZ xs<=xs.length
 | []=>X3 _
 | s::r=>by have:=GJ r;rw [XZ];split<;>simp<;>omega
theorem Sh:∀{xs:List Z5} {s:Z5},s∈xs.take (XZ xs)->s.op=14∨s.op=15
 | [],s,h=>by simp [XZ] at h
 | t::r,s,h=>by
  rw [XZ] at h
  split at h
  ·rename_i q
   rw [BP] at h
   rcases YF.1 h with rfl|h
   ·exact q
   ·exact Sh h
  ·simp at h
theorem HJ:∀xs:List Z5,(WI 14 xs).length+(WI 15 xs).length<=xs.length
 | []=>by simp [WI]
 | s::r=>by
  have:=HJ r
  rw [WI,WI]
  by_cases h:s.op=14
  ·rw [Ze h,Z8 om];simp;omega
  ·rw [Z8 h];split<;>simp<;>omega
theorem Gx:∀(fs:LI) (q:Int) (D R:LI),(Ti fs q D R).1.length+(Ti fs q D R).2.length<=D.length+R.length+fs.length
 | [],q,D,R=>by simp [Ti]
 | f::r,q,D,R=>by
  rw [Ti,YS]
  split
  ·have:=Gx r (q+1) (D.erase q) R
   have h2:=List.length_erase_le (a:=q) (l:=D)
   omega
  ·split
   ·have:=Gx r (q+1) D (R++[q])
    simp only [Yr,YS,Xw] at this
    omega
   ·have:=Gx r (q+1) D R
    omega
theorem Zct {xs:List Z5} {x:Int} {fs:LI} {q:Int} (h:x∈WI 15 (xs.take (XZ xs))) (hf:fs.length<=3):(AJ xs x fs q).1.length+(AJ xs x fs q).2.length<=XZ xs+2:=by
 have h1:=Gx fs q (WI 14 (xs.take (XZ xs))) ((WI 15 (xs.take (XZ xs))).erase x)
 have h2:=HJ (xs.take (XZ xs))
 have h3:=List.length_pos_of_mem h
 rw [List.length_erase_of_mem h] at h1
 rw [WM] at h2
 have h4:=GJ xs
 unfold AJ
 omega
theorem Zgy (xs:List Z5) (k:Nat):Y9 xs=Y9 (xs.take k)+Y9 (xs.drop k):=by rw [<-TT,To]
theorem Z04:∀xs:List Z5,(∀s∈xs,2<=s.sz)->2*xs.length<=Y9 xs
 | [],_=>by simp
 | s::r,h=>by
  have h1:=Z04 r fun t ht=>h t (XC _ ht)
  have h2:=h s (Xl ..)
  rw [Y9,YS];omega
theorem Z20 {xs:List Z5} {x:Int} {fs:LI} {q:Int} (hf:fs.length<=3) (h:∀s∈xs,s.op=14∨s.op=15->2<=s.sz):Y9 (JM xs x fs q)<=Y9 xs+6:=by
 rw [JM]
 split
 ·rename_i hc
  have h1:=Zct (q:=q) hc.1 hf
  have h2:=Z04 (xs.take (XZ xs)) fun s hs=>h s (Qe hs) (Sh hs)
  have h3:=Zgy xs (XZ xs)
  have h4:=GJ xs
  rw [WM] at h2
  rw [TT,TT,TT,Mk,Mk,Y9,Y9,Ff]
  omega
 ·omega
def Cn (s:Z5):Prop:=s=Zy s.op (gI s.args 0)
theorem Z1z {xs:List Z5} {m:Int} {fs:LI} {q:Int} (h:¬(m∈WI 15 (xs.take (XZ xs))/\fs.length≠0)):JM xs m fs q=xs:=Z8 h
end Go.Abs
section
namespace Go.Abs
mutual
def AM (ds:List Zg) (m:Nat):Z5->Z5
 | .mk op num into args kids=>.mk op num into args (TG ds m op num args kids 0)
def TG (ds:List Zg) (m:Nat) (op num:Int) (args:LI):List Z6->Nat->List Z6
 | [],_=>[]
 | b::r,k=>(if op=8 then Jp (Vd ds (m+(Tc ds num k).length) b) (gI args 0) (Tc ds num k) m else Vd ds m b)::TG ds m op num args r (k+1)
def UK (ds:List Zg) (m:Nat):List Z5->List Z5
 | []=>[]
 | s::r=>AM ds m s::UK ds (if Yp s.op=true then m else m+1) r
def Vd (ds:List Zg) (m:Nat):Z6->Z6
 | .mk steps result=>.mk (UK ds m steps) result
end
def GY (ds:List Zg) (m:Nat) (op num:Int) (args:LI) (k:Nat) (b:Z6):Z6:=if op=8 then Jp (Vd ds (m+(Tc ds num k).length) b) (gI args 0) (Tc ds num k) m else Vd ds m b
theorem Me (ds:List Zg) (m:Nat) (s:Z5):AM ds m s=.mk s.op s.num s.into s.args (TG ds m s.op s.num s.args s.kids 0):=by cases s;rw [AM];rfl
theorem GW (ds:List Zg) (m:Nat) (b:Z6):Vd ds m b=.mk (UK ds m b.steps) b.result:=by cases b;rw [Vd];rfl
section
variable {ds:List Zg} {m:Nat}
theorem Zfx {xs acc r:List Z5} {k:Nat} {s:Z5} (h:xs[k]? = some s) (ha:acc++UK ds m (xs.drop k)=r) :
  (acc++[.mk s.op s.num s.into s.args (TG ds m s.op s.num s.args s.kids 0)])++UK ds (if Yp s.op=true then m else m+1) (xs.drop (k+1))=r:=by
 rw [Y7 h,UK,Me] at ha
 rw [<-ha];simp
theorem Zfw {xs acc r:List Z5} {k:Nat} (h:xs.length<=k) (ha:acc++UK ds m (xs.drop k)=r):acc=r:=by
 rw [Xf h,UK,Jn] at ha;exact ha
theorem SA {op num:Int} {args:LI} {bs acc r:List Z6} {k:Nat} {b:Z6} (h:bs[k]? = some b) (ha:acc++TG ds m op num args (bs.drop k) k=r) :
  (acc++[GY ds m op num args k b])++TG ds m op num args (bs.drop (k+1)) (k+1)=r:=by
 rw [Y7 h,TG] at ha
 rw [<-ha,GY];simp
theorem Zft {op num:Int} {args:LI} {bs acc r:List Z6} {k j:Nat} (h:bs.length<=k) (ha:acc++TG ds m op num args (bs.drop k) j=r):acc=r:=by
 rw [Xf h,TG,Jn] at ha;exact ha
end
mutual
def wS (ds:List Zg):Z5->Prop
 | .mk op num into args kids=>(XF op=!Yp op)/\(Yp op=true->num=0/\into=0/\kids=[]/\∃a,args=[a])/\(op=8->(∃a,args=[a]/\0<=a/\a<=900000000)/\kids.length=(ZX ds num).length)/\AQ ds kids
def AQ (ds:List Zg):List Z6->Prop
 | []=>True
 | b::r=>wB ds b/\AQ ds r
def Kl (ds:List Zg):List Z5->Prop
 | []=>True
 | s::r=>wS ds s/\Kl ds r
def wB (ds:List Zg):Z6->Prop
 | .mk steps _=>Kl ds steps
end
section
variable {ds:List Zg}
theorem JH (s:Z5):wS ds s↔(XF s.op=!Yp s.op)/\(Yp s.op=true->s.num=0/\s.into=0/\s.kids=[]/\∃a,s.args=[a])/\(s.op=8->(∃a,s.args=[a]/\0<=a/\a<=900000000)/\s.kids.length=(ZX ds s.num).length)/\AQ ds s.kids:=by cases s;rw [wS];rfl
theorem Jm (b:Z6):wB ds b↔Kl ds b.steps:=by cases b;rw [wB];rfl
theorem AR:∀{xs:List Z5},Kl ds xs↔∀s∈xs,wS ds s
 | []=>by simp [Kl]
 | s::r=>by rw [Kl,AR];simp
theorem Hh:∀{xs:List Z6},AQ ds xs↔∀s∈xs,wB ds s
 | []=>by simp [AQ]
 | s::r=>by rw [AQ,Hh];simp
theorem Z13 {b:Z6} {k:Nat} {s:Z5} (h:wB ds b) (hs:b.steps[k]? = some s):wS ds s:=AR.1 ((Jm b).1 h) s (ZZ hs)
theorem MA {s:Z5} {k:Nat} {b:Z6} (h:wS ds s) (hb:s.kids[k]? = some b):wB ds b:=Hh.1 ((JH s).1 h).2.2.2 b (ZZ hb)
theorem Hk {s:Z5} (h:wS ds s) (hc:Yp s.op=true):Cn s/\s.kids=[]/\∃a,s.args=[a]:=by
 obtain ⟨h1,h2,h3,a,h4⟩:=((JH s).1 h).2.1 hc
 refine ⟨?_,h3,a,h4⟩
 cases s with
 | mk op num into args kids=>
  simp only [Z5.num,Z5.into,Z5.kids,Z5.args] at h1 h2 h3 h4
  subst h1 h2 h3 h4
  rfl
theorem Zio {op v:Int} (h:op=14∨op=15∨op=16):wS ds (Zy op v):=(JH _).2 ⟨by show XF op=!Yp op;rcases h with rfl|rfl|rfl<;>rfl,fun _=>⟨rfl,rfl,rfl,v,rfl⟩,fun e=>absurd e (show op≠8 by omega),True.intro⟩
theorem Zip {s:Z5} (h:wS ds s):XF s.op=!Yp s.op:=((JH s).1 h).1
theorem ET {s:Z5} (h:wS ds s) (h8:s.op=8):(∃a,s.args=[a]/\0<=a/\a<=900000000)/\s.kids.length=(ZX ds s.num).length:=((JH s).1 h).2.2.1 h8
theorem Hx {xs:List Z5} (h:Kl ds xs):∀s∈xs,Yp s.op=true->Cn s:=fun s hs hc=>(Hk (AR.1 h s hs) hc).1
end
section
variable {n:Zm}
end
mutual
def Z5.pz:Z5->Nat
 | .mk _ _ _ args kids=>1+args.length+Dm kids
def Z6.pz:Z6->Nat
 | .mk steps _=>1+Dn steps
def Dn:List Z5->Nat
 | []=>0
 | s::r=>s.pz+Dn r
def Dm:List Z6->Nat
 | []=>0
 | b::r=>b.pz+8+Dm r
end
mutual
theorem Z5.pz_le:∀s:Z5,s.pz<=9*s.sz
 | .mk _ _ _ args kids=>by have:=RK kids;rw [Z5.pz,Z5.sz];omega
theorem Z6.pz_le:∀b:Z6,b.pz+8<=9*b.sz
 | .mk steps _=>by have:=RL steps;rw [Z6.pz,Z6.sz];omega
theorem RL:∀xs:List Z5,Dn xs<=9*Y9 xs
 | []=>KO _
 | s::r=>by have:=s.pz_le;have:=RL r;rw [Dn,Y9];omega
theorem RK:∀xs:List Z6,Dm xs<=9*X2 xs
 | []=>KO _
 | s::r=>by have:=s.pz_le;have:=RK r;rw [Dm,X2];omega
end
section
variable {ds:List Zg}
theorem Z3n {op:Int} (h:op=14∨op=15):Yp op=true:=by rw [Yp];simp;omega
theorem Zfy {xs:List Z5}:∀{m:Nat},Kl ds xs->∀s∈UK ds m xs,s.op=14∨s.op=15->2<=s.sz:=by
 induction xs with
 | nil=>intro m _ s hs;simp [UK] at hs
 | cons t r ih=>
  intro m h s hs ho
  rw [UK] at hs
  rcases YF.1 hs with rfl|hs
  ·rw [Me] at ho ⊢
   obtain ⟨_,_,a,ha⟩:=Hk h.1 (Z3n ho)
   rw [Z5.sz,ha];simp
  ·exact ih h.2 s hs ho
variable (hd:Ws ds)
include hd
mutual
theorem Zfu:∀(s:Z5) {m:Nat},wS ds s->(AM ds m s).sz<=s.pz
 | .mk op num into args kids,m,h=>by
  have:=SC kids (m:=m) (op:=op) (num:=num) (args:=args) (k:=0) h.2.2.2
  rw [AM,Z5.sz,Z5.pz];omega
theorem SC:∀(bs:List Z6) {m:Nat} {op num:Int} {args:LI} {k:Nat},AQ ds bs->X2 (TG ds m op num args bs k)<=Dm bs
 | [],_,_,_,_,_,_=>X3 _
 | b::r,m,op,num,args,k,h=>by
  have h2:=SC r (m:=m) (op:=op) (num:=num) (args:=args) (k:=k+1) h.2
  rw [TG,X2,Dm]
  split
  ·have h1:=GX b (m:=m+(Tc ds num k).length) h.1
   have h3:=Z20 (xs:=(Vd ds (m+(Tc ds num k).length) b).steps) (x:=gI args 0) (q:=(m:Int)) (Z63 hd num k) (by rw [GW];exact Zfy ((Jm b).1 h.1))
   rw [Jp,Z6.sz]
   rw [Z6.sz_eq] at h1
   omega
  ·have h1:=GX b (m:=m) h.1
   omega
theorem SD:∀(xs:List Z5) {m:Nat},Kl ds xs->Y9 (UK ds m xs)<=Dn xs
 | [],_,_=>X3 _
 | s::r,m,h=>by
  have h1:=Zfu s (m:=m) h.1
  have h2:=SD r (m:=if Yp s.op=true then m else m+1) h.2
  rw [UK,Y9,Dn];omega
theorem GX:∀(b:Z6) {m:Nat},wB ds b->(Vd ds m b).sz<=b.pz
 | .mk steps result,m,h=>by
  have:=SD steps (m:=m) h
  rw [Vd,Z6.sz,Z6.pz];omega
end
end
section
variable {ds:List Zg} {m:Nat}
end
def BD (ds:List Zg) (r:Y0):Y0:=⟨r.params,r.lent,r.result,Vd ds r.params.length r.body⟩
def GZ (n:Zm):Zm:=⟨n.decls,n.routines.map (BD n.decls)⟩
end Go.Abs
namespace Go.Abs
theorem Zew {xs:List Z5} {k:Nat} {s:Z5} {r:Nat} (h:xs[k]? = some s) (hs:s.op=14∨s.op=15) (ha:k+XZ (xs.drop k)=r):k+1+XZ (xs.drop (k+1))=r:=by
 rw [Y7 h,XZ,Ze hs] at ha;omega
theorem Zex {xs:List Z5} {k:Nat} {s:Z5} {r:Nat} (h:xs[k]? = some s) (hs:¬(s.op=14∨s.op=15)) (ha:k+XZ (xs.drop k)=r):k=r:=by
 rw [Y7 h,XZ,Z8 hs] at ha;omega
theorem Zev {xs:List Z5} {k:Nat} {r:Nat} (h:xs.length<=k) (ha:k+XZ (xs.drop k)=r):k=r:=by
 rw [Xf h,XZ] at ha;omega
theorem Z2b {op:Int} {xs:List Z5} {acc r:LI} {k:Nat} {s:Z5} (h:xs[k]? = some s) (hs:s.op=op) (ha:acc++WI op (xs.drop k)=r):(acc++[gI s.args 0])++WI op (xs.drop (k+1))=r:=by
 rw [Y7 h,WI,Ze hs] at ha;rw [<-ha];simp
theorem Z2a {op:Int} {xs:List Z5} {acc r:LI} {k:Nat} {s:Z5} (h:xs[k]? = some s) (hs:¬s.op=op) (ha:acc++WI op (xs.drop k)=r):acc++WI op (xs.drop (k+1))=r:=by
 rw [Y7 h,WI,Z8 hs] at ha;exact ha
theorem Z29 {op:Int} {xs:List Z5} {acc r:LI} {k:Nat} (h:xs.length<=k) (ha:acc++WI op (xs.drop k)=r):acc=r:=by
 rw [Xf h,WI,Jn] at ha;exact ha
theorem Z5x {xs acc r:LI} {y:Int} {k:Nat} {x:Int} {d:Bool} (h:xs[k]? = some x) (ha:acc++(if d=true then xs.drop k else (xs.drop k).erase y)=r) :
  (if x=y/\¬d=true then acc else acc++[x])++(if ((x==y&&!d)||d)=true then xs.drop (k+1) else (xs.drop (k+1)).erase y)=r:=by
 rw [Y7 h] at ha
 rw [<-ha]
 by_cases hd:d=true
 ·simp [hd]
 ·by_cases hx:x=y
  ·simp [hd,hx]
  ·rw [Z8 (fun z=>hx z.1),Z8 hd,List.erase_cons_tail (by simpa using hx)]
   simp [hd,hx]
theorem Z5w {xs acc r:LI} {y:Int} {k:Nat} {d:Bool} (h:xs.length<=k) (ha:acc++(if d=true then xs.drop k else (xs.drop k).erase y)=r):acc=r:=by
 rw [Xf h] at ha;simpa using ha
section
variable {fs D R:LI} {q k:Nat} {f:Int} {r:LI × LI}
theorem Zcv (h:fs[k]? = some f) (h0:f≠0) (hm:((q+k:Nat):Int)∈D) (ha:Ti (fs.drop k) (q+k) D R=r):Ti (fs.drop (k+1)) (q+((k+1:Nat):Int)) (D.erase ((q+k:Nat):Int)) R=r:=by
 rw [Y7 h,Ti,Ze ⟨h0,by rw [<-Int.natCast_add];exact hm⟩,<-Int.natCast_add] at ha
 rw [<-ha];congr 1
theorem Zcw (h:fs[k]? = some f) (h0:f≠0) (hm:¬((q+k:Nat):Int)∈D) (ha:Ti (fs.drop k) (q+k) D R=r):Ti (fs.drop (k+1)) (q+((k+1:Nat):Int)) D (R++[((q+k:Nat):Int)])=r:=by
 rw [Y7 h,Ti,Z8 (fun z=>hm (by rw [Int.natCast_add];exact z.2)),Ze h0,<-Int.natCast_add] at ha
 rw [<-ha];congr 1
theorem Zcx (h:fs[k]? = some f) (h0:¬f≠0) (ha:Ti (fs.drop k) (q+k) D R=r):Ti (fs.drop (k+1)) (q+((k+1:Nat):Int)) D R=r:=by
 rw [Y7 h,Ti,Z8 (fun z=>h0 z.1),Z8 h0] at ha
 rw [<-ha];congr 1
theorem Zcu (h:fs.length<=k) (ha:Ti (fs.drop k) (q+k) D R=r):r=(D,R):=by
 rw [Xf h,Ti] at ha;exact ha.symm
end
theorem Z21 {xs:List Z5} {x:Int} {fs:LI} {q:Int} {D R:LI} (h1:x∈WI 15 (xs.take (XZ xs))) (h2:fs.length≠0) (hr:AJ xs x fs q=(D,R)):D.map (Zy 14)++[Zy 16 x]++R.map (Zy 15)++xs.drop (XZ xs)=JM xs x fs q:=by
 rw [JM,Ze ⟨h1,h2⟩,hr]
theorem Zfv {ds:List Zg} {xs:List Z5}:∀{m:Nat},Kl ds xs->∀s∈UK ds m xs,Yp s.op=true->∃a,s.args=[a]:=by
 induction xs with
 | nil=>intro m _ s hs;simp [UK] at hs
 | cons t r ih=>
  intro m h s hs ho
  rw [UK] at hs
  rcases YF.1 hs with rfl|hs
  ·rw [Me] at ho ⊢
   exact (Hk h.1 ho).2.2
  ·exact ih h.2 s hs ho
end Go.Abs
end
namespace Go.Abs
theorem MI {s:Z5} (h:Cn s):∃a,s.args=[a]:=⟨gI s.args 0,by have:=Yn Z5.args h;exact this⟩
section
variable {xs:LI} {v:Int} {lo hi:Nat}
end
section
variable {m:Int} {xs du dr:List Z5} {lf:LI} {d:Bool} {k:Nat} {s:Z5} {W:List Z5 × List Z5 × LI}
end
def YX:List Z5->Nat
 | []=>0
 | s::r=>if Yp s.op=true then YX r+1 else 0
def We (op x:Int):List Z5->Int->Int
 | [],_=>-1
 | s::r,k=>if s.op=op/\gI s.args 0=x then k else We op x r (k+1)
def Kw (many:Nat) (s:Z5):Prop:=(s.op=6/\s.into=0)/\s.args.length=many
instance (many:Nat) (s:Z5):Decidable (Kw many s):=by unfold Kw;infer_instance
def WC (many:Nat):List Z5->Int->Int
 | [],_=>-1
 | s::r,k=>if Kw many s then k else WC many r (k+1)
def Bh (xs:List Z5) (i:Int):Z5:=xs[i.toNat]?.getD (Zy 0 0)
def QE (v:Int) (s:Z5):Z5:=.mk s.op s.num v s.args s.kids
def VC (xs:List Z5) (x:Int):Int:=We 16 x (xs.take (YX xs)) 0
def WP (xs:List Z5) (many:Nat):Int:=WC many (xs.drop (YX xs)) (YX xs)
def Uq (xs:List Z5) (x:Int) (many:Nat):List Z5:=
 if VC xs x<0∨WP xs many<0 then xs else (xs.set (VC xs x).toNat (Zy 17 x)).set (WP xs many).toNat (QE (1+x) (Bh xs (WP xs many)))
def Ue (b:Z6) (x:Int) (many:Nat):Z6:=.mk (Uq b.steps x many) b.result
mutual
def Qs (ds:List Zg) (kept:LI):Z5->Z5
 | .mk op num into args kids=>.mk op num into args (UJ ds kept op num args kids 0)
def UJ (ds:List Zg) (kept:LI) (op num:Int) (args:LI):List Z6->Nat->List Z6
 | [],_=>[]
 | b::r,k=>(if op=8/\¬gI args 0∈kept then Ue (WH ds (if VC b.steps (gI args 0)<0∨WP b.steps (Tc ds num k).length<0 then kept else gI args 0::kept) b) (gI args 0) (Tc ds num k).length else WH ds kept b)::UJ ds kept op num args r (k+1)
def T2 (ds:List Zg) (kept:LI):List Z5->List Z5
 | []=>[]
 | s::r=>Qs ds kept s::T2 ds kept r
def WH (ds:List Zg) (kept:LI):Z6->Z6
 | .mk steps result=>.mk (T2 ds kept steps) result
end
def Gg (ds:List Zg) (kept:LI) (num:Int) (args:LI) (k:Nat) (b:Z6):LI:=if VC b.steps (gI args 0)<0∨WP b.steps (Tc ds num k).length<0 then kept else gI args 0::kept
def Qc (ds:List Zg) (kept:LI) (op num:Int) (args:LI) (k:Nat) (b:Z6):Z6:=if op=8/\¬gI args 0∈kept then Ue (WH ds (Gg ds kept num args k b) b) (gI args 0) (Tc ds num k).length else WH ds kept b
theorem BA (ds:List Zg) (kept:LI) (s:Z5):Qs ds kept s=.mk s.op s.num s.into s.args (UJ ds kept s.op s.num s.args s.kids 0):=by cases s;rw [Qs];rfl
theorem GG (ds:List Zg) (kept:LI) (b:Z6):WH ds kept b=.mk (T2 ds kept b.steps) b.result:=by cases b;rw [WH];rfl
theorem GI (ds:List Zg) (kept:LI):∀xs:List Z5,T2 ds kept xs=xs.map (Qs ds kept)
 | []=>rfl
 | s::r=>by rw [T2,GI ds kept r];rfl
section
variable {ds:List Zg} {kept:LI}
theorem Zeu {xs acc r:List Z5} {k:Nat} {s:Z5} (h:xs[k]? = some s) (ha:acc++T2 ds kept (xs.drop k)=r) :
  (acc++[.mk s.op s.num s.into s.args (UJ ds kept s.op s.num s.args s.kids 0)])++T2 ds kept (xs.drop (k+1))=r:=by
 rw [Y7 h,T2,BA] at ha
 rw [<-ha];simp
theorem Zet {xs acc r:List Z5} {k:Nat} (h:xs.length<=k) (ha:acc++T2 ds kept (xs.drop k)=r):acc=r:=by
 rw [Xf h,T2,Jn] at ha;exact ha
theorem Zeo {op num:Int} {args:LI} {bs acc r:List Z6} {k:Nat} {b:Z6} (h:bs[k]? = some b) (ha:acc++UJ ds kept op num args (bs.drop k) k=r) :
  (acc++[Qc ds kept op num args k b])++UJ ds kept op num args (bs.drop (k+1)) (k+1)=r:=by
 rw [Y7 h,UJ] at ha
 rw [<-ha,Qc,Gg];simp
theorem Zen {op num:Int} {args:LI} {bs acc r:List Z6} {k j:Nat} (h:bs.length<=k) (ha:acc++UJ ds kept op num args (bs.drop k) j=r):acc=r:=by
 rw [Xf h,UJ,Jn] at ha;exact ha
end
section
variable {ds:List Zg}
mutual
theorem Zer:∀(s:Z5) {K K':LI},(∀z,z∈K↔z∈K')->Qs ds K s=Qs ds K' s
 | .mk op num into args kids,K,K',h=>by rw [Qs,Qs,Sc kids h]
theorem Sc:∀(bs:List Z6) {K K':LI} {op num:Int} {args:LI} {k:Nat},(∀z,z∈K↔z∈K')->UJ ds K op num args bs k=UJ ds K' op num args bs k
 | [],_,_,_,_,_,_,_=>by rw [UJ,UJ]
 | b::r,K,K',op,num,args,k,h=>by
  have h1:=Sc r (op:=op) (num:=num) (args:=args) (k:=k+1) h
  have h2:=LY b h
  have h3:∀z,z∈(gI args 0::K)↔z∈(gI args 0::K'):=fun z=>by rw [YF,YF,h z]
  have h4:=LY b h3
  rw [UJ,UJ,h1,h2]
  congr 1
  by_cases hq:op=8/\¬gI args 0∈K
  ·have hq':op=8/\¬gI args 0∈K':=⟨hq.1,fun z=>hq.2 ((h _).2 z)⟩
   rw [Ze hq,Ze hq']
   congr 1
   split
   ·exact h2
   ·exact h4
  ·have hq':¬(op=8/\¬gI args 0∈K'):=fun z=>hq ⟨z.1,fun y=>z.2 ((h _).1 y)⟩
   rw [Z8 hq,Z8 hq']
theorem Se:∀(xs:List Z5) {K K':LI},(∀z,z∈K↔z∈K')->T2 ds K xs=T2 ds K' xs
 | [],_,_,_=>by rw [T2,T2]
 | s::r,K,K',h=>by rw [T2,T2,Zer s h,Se r h]
theorem LY:∀(b:Z6) {K K':LI},(∀z,z∈K↔z∈K')->WH ds K b=WH ds K' b
 | .mk steps result,K,K',h=>by rw [WH,WH,Se steps h]
end
end
theorem Ek:∀xs:List Z5,YX xs<=xs.length
 | []=>X3 _
 | s::r=>by have:=Ek r;rw [YX];split<;>simp<;>omega
section
variable {f:Z5->Z5} (hop:∀s,(f s).op=s.op) (hin:∀s,(f s).into=s.into) (har:∀s,(f s).args=s.args)
include hop
theorem Lb:∀xs:List Z5,YX (xs.map f)=YX xs
 | []=>rfl
 | s::r=>by rw [Ut,YX,YX,hop,Lb r]
include har
theorem N7 {op x:Int}:∀(xs:List Z5) (k:Int),We op x (xs.map f) k=We op x xs k
 | [],_=>rfl
 | s::r,k=>by rw [Ut,We,We,hop,har,N7 r]
theorem Zcs (xs:List Z5) (x:Int):VC (xs.map f) x=VC xs x:=by rw [VC,Lb hop,<-List.map_take,N7 hop har,VC]
include hin
theorem ND {many:Nat}:∀(xs:List Z5) (k:Int),WC many (xs.map f) k=WC many xs k
 | [],_=>rfl
 | s::r,k=>by
  have e:Kw many (f s)↔Kw many s:=by rw [Kw,Kw,hop,hin,har]
  rw [Ut,WC,WC,ND r]
  by_cases h:Kw many s
  ·rw [Ze h,Ze (e.2 h)]
  ·rw [Z8 h,Z8 (fun z=>h (e.1 z))]
theorem Z3v (xs:List Z5) (many:Nat):WP (xs.map f) many=WP xs many:=by rw [WP,Lb hop,<-List.map_drop,ND hop hin har,WP]
end
theorem N6 {op x:Int}:∀{xs:List Z5} {k:Int},¬We op x xs k<0->0<=k->k<=We op x xs k/\We op x xs k<k+xs.length/\∃s,xs[(We op x xs k-k).toNat]? = some s/\s.op=op/\gI s.args 0=x
 | [],k,h,_=>by simp [We] at h
 | s::r,k,h,hk=>by
  rw [We] at h ⊢
  split
  ·rename_i q
   refine ⟨Int.le_refl _,by rw [YS];omega,s,?_,q⟩
   rw [Int.sub_self];rfl
  ·rename_i q
   rw [Z8 q] at h
   obtain ⟨h1,h2,t,h3,h4⟩:=N6 (xs:=r) (k:=k+1) h om
   refine ⟨by omega,by rw [YS];omega,t,?_,h4⟩
   rw [show (We op x r (k+1)-k).toNat=(We op x r (k+1)-(k+1)).toNat+1 by omega,List.getElem?_cons_succ]
   exact h3
theorem NC {many:Nat}:∀{xs:List Z5} {k:Int},¬WC many xs k<0->0<=k->k<=WC many xs k/\WC many xs k<k+xs.length/\∃s,xs[(WC many xs k-k).toNat]? = some s/\Kw many s
 | [],k,h,_=>by simp [WC] at h
 | s::r,k,h,hk=>by
  rw [WC] at h ⊢
  split
  ·rename_i q
   refine ⟨Int.le_refl _,by rw [YS];omega,s,?_,q⟩
   rw [Int.sub_self];rfl
  ·rename_i q
   rw [Z8 q] at h
   obtain ⟨h1,h2,t,h3,h4⟩:=NC (xs:=r) (k:=k+1) h om
   refine ⟨by omega,by rw [YS];omega,t,?_,h4⟩
   rw [show (WC many r (k+1)-k).toNat=(WC many r (k+1)-(k+1)).toNat+1 by omega,List.getElem?_cons_succ]
   exact h3
theorem Ex {xs:List Z5} {x:Int} (h:¬VC xs x<0):0<=VC xs x/\VC xs x<YX xs/\∃s,xs[(VC xs x).toNat]? = some s/\s.op=16/\gI s.args 0=x:=by
 obtain ⟨h1,h2,s,h3,h4⟩:=N6 h (Int.le_refl 0)
 have hl:=Ek xs
 rw [WM,VO hl] at h2
 have h2':VC xs x<YX xs:=by unfold VC;omega
 have h1':0<=VC xs x:=h1
 refine ⟨h1',h2',s,?_,h4⟩
 rw [Int.sub_zero] at h3
 have h5:(VC xs x).toNat<YX xs:=by omega
 rwa [show We 16 x (xs.take (YX xs)) 0=VC xs x from rfl,List.getElem?_take_of_lt h5] at h3
theorem Al {xs:List Z5} {many:Nat} (h:¬WP xs many<0):(YX xs:Int)<=WP xs many/\WP xs many<xs.length/\∃s,xs[(WP xs many).toNat]? = some s/\Kw many s/\Bh xs (WP xs many)=s:=by
 obtain ⟨h1,h2,s,h3,h4⟩:=NC h om
 have hl:=Ek xs
 rw [A9] at h2
 have h1':(YX xs:Int)<=WP xs many:=h1
 have h2':WP xs many<xs.length:=by unfold WP;omega
 rw [BK,show WC many (xs.drop (YX xs)) (YX xs)=WP xs many from rfl,show YX xs+(WP xs many-(YX xs:Int)).toNat=(WP xs many).toNat by omega] at h3
 exact ⟨h1',h2',s,h3,h4,by rw [Bh,h3];rfl⟩
theorem Zdy {f:Z5->Z5} (hop:∀s,(f s).op=s.op) (hin:∀s,(f s).into=s.into) (har:∀s,(f s).args=s.args) (hc:∀x,f (Zy 17 x)=Zy 17 x) (hi:∀v s,f (QE v s)=QE v (f s)) (xs:List Z5) (x:Int) (many:Nat) :
  Uq (xs.map f) x many=(Uq xs x many).map f:=by
 rw [Uq,Zcs hop har,Z3v hop hin har,Uq]
 split
 ·rfl
 ·rename_i hq
  obtain ⟨_,_,s,h3,_,h5⟩:=Al (fun z=>hq (.inr z))
  have e:Bh (xs.map f) (WP xs many)=f (Bh xs (WP xs many)):=by rw [Bh,Us,h3,h5];rfl
  rw [e,List.map_set,List.map_set,hc,hi]
theorem Sa {ds:List Zg} {K:LI} {b:Z6} {x:Int} {many:Nat}:WH ds K (Ue b x many)=Ue (WH ds K b) x many:=by
 rw [Ue,WH,Ue,GG,GI,GI]
 show Z6.mk _ _=Z6.mk (Uq (b.steps.map (Qs ds K)) x many) b.result
 rw [Zdy (f:=Qs ds K) (fun s=>by rw [BA];rfl) (fun s=>by rw [BA];rfl) (fun s=>by rw [BA];rfl) (fun x=>by rw [BA];rfl) (fun v s=>by rw [BA,BA];rfl)]
structure CB (c:LI) (q:Int):Prop where
 len:c.length=4
 bd:∀x∈c,0<=x/\x<=q
mutual
def Ch:Z5->Prop
 | .mk op _ _ _ kids=>op≠17/\Bo kids
def Bo:List Z6->Prop
 | []=>True
 | b::r=>Kb b/\Bo r
def Bp:List Z5->Prop
 | []=>True
 | s::r=>Ch s/\Bp r
def Kb:Z6->Prop
 | .mk steps _=>Bp steps
end
theorem Di (s:Z5):Ch s↔s.op≠17/\Bo s.kids:=by cases s;rw [Ch];rfl
theorem Er (b:Z6):Kb b↔Bp b.steps:=by cases b;rw [Kb];rfl
theorem Es:∀{xs:List Z5},Bp xs↔∀s∈xs,Ch s
 | []=>by simp [Bp]
 | s::r=>by rw [Bp,Es];simp
theorem Gr:∀{xs:List Z6},Bo xs↔∀s∈xs,Kb s
 | []=>by simp [Bo]
 | s::r=>by rw [Bo,Gr];simp
theorem H2:∀{xs:List Z5} {i:Nat} {s:Z5} (t:Z5),xs[i]? = some s->Y9 (xs.set i t)+s.sz=Y9 xs+t.sz
 | [],_,_,_,h=>by simp at h
 | x::r,0,s,t,h=>by simp at h;subst h;rw [List.set_cons_zero,Y9,Y9];omega
 | x::r,i+1,s,t,h=>by
  have:=H2 (xs:=r) (i:=i) t (by simpa using h)
  rw [List.set_cons_succ,Y9,Y9];omega
theorem Zaj (v:Int) (s:Z5):(QE v s).sz=s.sz:=by cases s;rw [QE,Z5.sz,Z5.sz];rfl
theorem NE {xs:List Z5} {x:Int} {many:Nat} (h:¬(VC xs x<0∨WP xs many<0)):(VC xs x).toNat<(WP xs many).toNat:=by
 obtain ⟨h1,h2,_⟩:=Ex (fun z=>h (.inl z))
 obtain ⟨h3,h4,_⟩:=Al (fun z=>h (.inr z))
 omega
theorem GF {xs:List Z5} {x:Int} {many:Nat} (h:¬(VC xs x<0∨WP xs many<0)) {t:Z5} {s:Z5} (hs:xs[(WP xs many).toNat]? = some s):(xs.set (VC xs x).toNat t)[(WP xs many).toNat]? = some s:=by
 have:=NE h
 rw [List.getElem?_set_ne om];exact hs
theorem RY {xs:List Z5} {x:Int} {many:Nat} (h:∀s∈xs,Yp s.op=true->2<=s.sz):Y9 (Uq xs x many)<=Y9 xs:=by
 rw [Uq]
 split
 ·exact X3 _
 ·rename_i hq
  obtain ⟨_,_,s,h3,h4,_⟩:=Ex (fun z=>hq (.inl z))
  obtain ⟨_,_,t,h5,_,h6⟩:=Al (fun z=>hq (.inr z))
  have e1:=H2 (Zy 17 x) h3
  have e2:=H2 (QE (1+x) (Bh xs (WP xs many))) (GF hq (t:=Zy 17 x) h5)
  have h7:=h s (ZZ h3) (by rw [h4];rfl)
  rw [Ff] at e1
  rw [Zaj,h6] at e2
  rw [h6]
  omega
section
variable {ds:List Zg}
theorem Ziq {v:Int} {s:Z5} (h:wS ds s) (h6:s.op=6):wS ds (QE v s):=by
 obtain ⟨h1,h2,h3,h4⟩:=(JH s).1 h
 exact (JH _).2 ⟨h1,fun hc=>absurd hc (by show ¬Yp s.op=true;rw [h6];decide),h3,h4⟩
theorem Zin {v:Int}:wS ds (Zy 17 v):=(JH _).2 ⟨rfl,fun _=>⟨rfl,rfl,rfl,v,rfl⟩,fun e=>absurd e (show (17:Int)≠8 by decide),True.intro⟩
theorem Zim {xs:List Z5} {x:Int} {many:Nat} (h:Kl ds xs):Kl ds (Uq xs x many):=by
 rw [Uq]
 split
 ·exact h
 ·rename_i hq
  obtain ⟨_,_,t,h5,h7,h6⟩:=Al (fun z=>hq (.inr z))
  rw [AR]
  intro s hs
  rcases List.mem_or_eq_of_mem_set hs with hs|rfl
  ·rcases List.mem_or_eq_of_mem_set hs with hs|rfl
   ·exact AR.1 h s hs
   ·exact Zin
  ·rw [h6];exact Ziq (AR.1 h t (ZZ h5)) h7.1.1
theorem Zil {b:Z6} {x:Int} {many:Nat} (h:wB ds b):wB ds (Ue b x many):=by rw [Ue,Jm];exact Zim ((Jm b).1 h)
variable (hd:Ws ds)
mutual
theorem Zes:∀(s:Z5) {K:LI},wS ds s->(Qs ds K s).sz<=s.sz
 | .mk op num into args kids,K,h=>by
  have:=Sd kids (K:=K) (op:=op) (num:=num) (args:=args) (k:=0) h.2.2.2
  rw [Qs,Z5.sz,Z5.sz];omega
theorem Sd:∀(bs:List Z6) {K:LI} {op num:Int} {args:LI} {k:Nat},AQ ds bs->X2 (UJ ds K op num args bs k)<=X2 bs
 | [],_,_,_,_,_,_=>X3 _
 | b::r,K,op,num,args,k,h=>by
  have h2:=Sd r (K:=K) (op:=op) (num:=num) (args:=args) (k:=k+1) h.2
  have key:∀K2:LI,(Ue (WH ds K2 b) (gI args 0) (Tc ds num k).length).sz<=b.sz:=fun K2=>by
   have h1:=LZ b (K:=K2) h.1
   have h3:=RY (xs:=(WH ds K2 b).steps) (x:=gI args 0) (many:=(Tc ds num k).length) (by
    rw [GG,GI]
    intro s hs hc
    obtain ⟨t,ht,rfl⟩:=W4.1 hs
    rw [BA] at hc ⊢
    obtain ⟨_,_,a,ha⟩:=Hk (AR.1 ((Jm b).1 h.1) t ht) hc
    rw [Z5.sz,ha];simp)
   rw [Ue,Z6.sz]
   rw [Z6.sz_eq] at h1
   omega
  rw [UJ,X2,X2]
  split
  ·have:=key (if VC b.steps (gI args 0)<0∨WP b.steps (Tc ds num k).length<0 then K else gI args 0::K)
   omega
  ·have:=LZ b (K:=K) h.1
   omega
theorem Sf:∀(xs:List Z5) {K:LI},Kl ds xs->Y9 (T2 ds K xs)<=Y9 xs
 | [],_,_=>X3 _
 | s::r,K,h=>by
  have h1:=Zes s (K:=K) h.1
  have h2:=Sf r (K:=K) h.2
  rw [T2,Y9,Y9];omega
theorem LZ:∀(b:Z6) {K:LI},wB ds b->(WH ds K b).sz<=b.sz
 | .mk steps result,K,h=>by
  have:=Sf steps (K:=K) h
  rw [WH,Z6.sz,Z6.sz];omega
end
end
theorem Lc:∀{xs:List Z5} {i:Nat} {s t:Z5},xs[i]? = some s->Yp t.op=Yp s.op->YX (xs.set i t)=YX xs
 | [],_,_,_,h,_=>by simp at h
 | x::r,0,s,t,h,e=>by simp at h;subst h;rw [List.set_cons_zero,YX,YX,e]
 | x::r,i+1,s,t,h,e=>by
  rw [List.set_cons_succ,YX,YX,Lc (xs:=r) (i:=i) (by simpa using h) e]
theorem Zba {xs:List Z5} {x:Int} {many:Nat}:YX (Uq xs x many)=YX xs:=by
 rw [Uq]
 split
 ·rfl
 ·rename_i hq
  obtain ⟨_,_,s,h3,h4,_⟩:=Ex (fun z=>hq (.inl z))
  obtain ⟨_,_,t,h5,_,h6⟩:=Al (fun z=>hq (.inr z))
  rw [Lc (GF hq (t:=Zy 17 x) h5) (by rw [h6];rfl),Lc h3 (by rw [h4];rfl)]
theorem N9 {op x:Int}:∀{xs:List Z5} {k:Int},(∀s∈xs,s.op≠op)->We op x xs k=-1
 | [],_,_=>rfl
 | s::r,k,h=>by
  rw [We,Z8 (fun z=>h s (Xl ..) z.1)]
  exact N9 fun t ht=>h t (XC _ ht)
theorem Na {op x:Int}:∀{xs:List Z5} {k:Int},0<=k->(∃s∈xs,s.op=op/\gI s.args 0=x)->0<=We op x xs k
 | [],_,_,h=>by obtain ⟨s,hs,_⟩:=h;cases hs
 | s::r,k,hk,h=>by
  rw [We]
  split
  ·exact hk
  ·rename_i q
   obtain ⟨t,ht,h1⟩:=h
   rcases YF.1 ht with rfl|ht
   ·exact absurd h1 q
   ·exact Na om ⟨t,ht,h1⟩
theorem Z0o {xs:List Z5} {x:Int} {many:Nat} (hn:Bp xs):0<=We 17 x ((Uq xs x many).take (YX (Uq xs x many))) 0↔¬(VC xs x<0∨WP xs many<0):=by
 rw [Zba]
 constructor
 ·intro h hq
  rw [Uq,Ze hq,N9 (fun s hs=>((Di s).1 (Es.1 hn s (Qe hs))).1)] at h
  omega
 ·intro hq
  obtain ⟨h1,h2,s,h3,h4,_⟩:=Ex (fun z=>hq (.inl z))
  have hap:=NE hq
  refine Na (Int.le_refl 0) ⟨Zy 17 x,?_,rfl,rfl⟩
  rw [Uq,Z8 hq]
  refine ZZ (i:=(VC xs x).toNat) ?_
  rw [List.getElem?_take_of_lt om,List.getElem?_set_ne om,List.getElem?_set_self (Xk.1 h3).1]
def Bq (b:Z6):Prop:=∀s∈b.steps,Bo s.kids
theorem Cg {b:Z6} (h:Kb b):Bq b:=fun s hs=>((Di s).1 (Es.1 ((Er b).1 h) s hs)).2
theorem Zc7 {b:Z6} {k j:Nat} {s:Z5} {c:Z6} (h:Bq b) (hs:b.steps[k]? = some s) (hc:s.kids[j]? = some c):Kb c:=Gr.1 (h s (ZZ hs)) c (ZZ hc)
theorem R7 {b:Z6} {x:Int} {many:Nat} (h:Kb b):Bq (Ue b x many):=by
 intro s hs
 have hs:s∈Uq b.steps x many:=hs
 rw [Uq] at hs
 split at hs
 ·exact Cg h s hs
 ·rename_i hq
  obtain ⟨_,_,t,h5,_,h6⟩:=Al (fun z=>hq (.inr z))
  rcases List.mem_or_eq_of_mem_set hs with hs|rfl
  ·rcases List.mem_or_eq_of_mem_set hs with hs|rfl
   ·exact Cg h s hs
   ·exact True.intro
  ·rw [h6];exact Cg h t (ZZ h5)
theorem Zdx {ds:List Zg} {b:Z6} {x:Int} {many:Nat} (h:wB ds b):(Ue b x many).sz<=b.sz:=by
 have:=RY (xs:=b.steps) (x:=x) (many:=many) fun s hs hc=>by
  have h7:=Hx ((Jm b).1 h) s hs hc
  rw [h7,Ff];omega
 rw [Ue,Z6.sz,b.sz_eq];omega
def Bz (ds:List Zg) (r:Y0):Y0:=⟨r.params,r.lent,r.result,WH ds [] r.body⟩
def GH (n:Zm):Zm:=⟨n.decls,n.routines.map (Bz n.decls)⟩

theorem Z50 {n:Zm} {us:LI} {s:Z5} (h:¬Y8 n us s<0):XF s.op=!Yp s.op:=by
 obtain ⟨op,num,into,args,kids⟩:=s
 rw [Y8] at h
 show XF op=!Yp op
 by_cases h0:(0<=op/\op<=11)∨(14<=op/\op<=17)
 ·rcases h0 with h0|h0
  ·have e1:XF op=true:=by simp [XF];omega
   have e2:Yp op=false:=by simp [Yp];omega
   rw [e1,e2];rfl
  ·have e1:XF op=false:=by simp [XF];omega
   have e2:Yp op=true:=by simp [Yp];omega
   rw [e1,e2];rfl
 ·exfalso
  apply h
  repeat' split
  all_goals first|omega|decide
mutual
def Z2.sz:Z2->Nat
 | .mk _ _ kids=>1+Xz kids
def Xz:List Z2->Nat
 | []=>0
 | e::r=>e.sz+Xz r
end
theorem Z2.sz_eq (e:Z2):e.sz=1+Xz e.kids:=by cases e;rw [Z2.sz];rfl
theorem DV:∀xs ys:List Z2,Xz (xs++ys)=Xz xs+Xz ys
 | [],ys=>by simp [Xz]
 | x::r,ys=>by rw [QQ,Xz,Xz,DV r];omega
theorem C4:∀{xs:List Z2} {k:Nat} {e:Z2},xs[k]? = some e->e.sz<=Xz xs
 | [],k,e,h=>by simp at h
 | x::r,0,e,h=>by simp at h;subst h;rw [Xz];omega
 | x::r,k+1,e,h=>by have:=C4 (xs:=r) (k:=k) (by simpa using h);rw [Xz];omega
theorem O3:∀{xs:List Z2},xs.length<=Xz xs
 | []=>KO _
 | x::r=>by have:=O3 (xs:=r);have:=x.sz_eq;rw [Xz,YS];omega
def Ao:Zg:=⟨0,0,[⟨[]⟩,⟨[0,1]⟩]⟩
def Ap:Zg:=⟨0,0,[⟨[]⟩,⟨[3,0,3]⟩]⟩
def NK:List Zg:=[⟨0,0,[⟨[1,3]⟩]⟩,⟨1,0,[]⟩,⟨0,0,[⟨[1,1,0]⟩,⟨[0]⟩,⟨[3]⟩]⟩,⟨0,1,[]⟩]
def Ay:List (List Zg):=[[Ao,⟨0,0,[]⟩,Ap],[Ao,⟨0,0,[]⟩,Ap,⟨0,0,[⟨[1,3]⟩]⟩],[Ao,⟨0,0,[]⟩,Ap,⟨1,0,[]⟩],[Ao,⟨0,0,[]⟩,Ap,⟨0,0,[⟨[1,1,0]⟩,⟨[0]⟩,⟨[3]⟩]⟩],[Ao,⟨0,0,[]⟩,Ap,⟨0,1,[]⟩]]
def GD (ds:List Zg):Prop:=ds∈Ay
theorem GD.ok {ds:List Zg} (h:GD ds):Ws ds:=by
 have k:=(by decide:∀ds∈Ay,ds.length<=4/\(∀d∈ds,d.cons.length<=3)/\∀d∈ds,∀c∈d.cons,c.fields.length<=3) ds h
 exact ⟨k.1,k.2.1,k.2.2⟩
theorem GD.len {ds:List Zg} (h:GD ds):3<=ds.length/\ds.length<=4:=by
 exact (by decide:∀ds∈Ay,3<=ds.length/\ds.length<=4) ds h
def J9 (t:Int):Prop:=t=0∨t=1∨t=3
instance (t:Int):Decidable (J9 t):=inferInstanceAs (Decidable (_∨_∨_))
theorem GD.low {ds:List Zg} (h:GD ds):ZX ds 0=[]/\ZX ds 1=[0,1]/\ZX ds 2=[]/\ZX ds 3=[2,3]/\ZV ds 0=[]/\ZV ds 1=[0,1]/\ZV ds 2=[]/\ZV ds 3=[3,0,3]:=
 (by decide:∀ds∈Ay,ZX ds 0=[]/\ZX ds 1=[0,1]/\ZX ds 2=[]/\ZX ds 3=[2,3]/\ZV ds 0=[]/\ZV ds 1=[0,1]/\ZV ds 2=[]/\ZV ds 3=[3,0,3]) ds h
theorem GD.fields {ds:List Zg} (h:GD ds):∀c∈ZX ds 1++(ZX ds 3++ZX ds 4),∀t∈ZV ds c,J9 t:=
 (by decide:∀ds∈Ay,∀c∈ZX ds 1++(ZX ds 3++ZX ds 4),∀t∈ZV ds c,J9 t) ds h
theorem GD.cons_cases {ds:List Zg} (h:GD ds) {t:Int} {c:Int} (hc:c∈ZX ds t):(0<=c/\c<=9)/\(t=1∨t=3∨t=4)/\(ZV ds c).length<=3/\∀u∈ZV ds c,J9 u:=by
 have ht:1<=t/\t<=ds.length:=by
  by_cases q:1<=t/\t<=ds.length
  ·exact q
  ·rw [ZX,Z8 q] at hc;cases hc
 have hl:=h.len
 have hlow:=h.low
 have key:∀c∈ZX ds 1++(ZX ds 3++ZX ds 4),0<=c/\c<=9:=
  (by decide:∀ds∈Ay,∀c∈ZX ds 1++(ZX ds 3++ZX ds 4),0<=c/\c<=9) ds h
 have h4:t=1∨t=2∨t=3∨t=4:=by omega
 have hf:=h.fields
 have hd:=U5 h.ok c
 rcases h4 with rfl|rfl|rfl|rfl
 ·exact ⟨key c (Xa.2 (.inl hc)),.inl rfl,hd,hf c (Xa.2 (.inl hc))⟩
 ·rw [hlow.2.2.1] at hc;cases hc
 ·exact ⟨key c (Xa.2 (.inr (Xa.2 (.inl hc)))),.inr (.inl rfl),hd,hf c (Xa.2 (.inr (Xa.2 (.inl hc))))⟩
 ·exact ⟨key c (Xa.2 (.inr (Xa.2 (.inr hc)))),.inr (.inr rfl),hd,hf c (Xa.2 (.inr (Xa.2 (.inr hc))))⟩
def JL:List (LI × Int):=[([],0),([1],0),([1,1],1),([1],1),([1,0],1),([2,1],1),([1,1],0),([3],0),([0],1),([0,1],1),([3,0],3),([3],1),([1,3,0],0),([0],0),([0,0],0),([1,0],0)]
def TI (f:Func):Prop:=(f.params,f.result)∈JL
theorem TI.bd {f:Func} (h:TI f):f.params.length<=3/\(∀t∈f.params,0<=t/\t<=3)/\J9 f.result:=by
 have key:∀q∈JL,q.1.length<=3/\(∀t∈q.1,0<=t/\t<=3)/\J9 q.2:=by decide
 exact key _ h
theorem TI.clo {ds:List Zg} {f:Func} (hd:GD ds) (h:TI f) (hp:0<Uu ds (gI f.params ((f.params.length:Int)-1)) f.result):∀t∈f.params.dropLast,J9 t:=by
 have key:∀q∈JL,0<Uu ds (gI q.1 ((q.1.length:Int)-1)) q.2->∀t∈q.1.dropLast,J9 t:=
  (by decide +kernel:∀ds∈Ay,∀q∈JL,0<Uu ds (gI q.1 ((q.1.length:Int)-1)) q.2->∀t∈q.1.dropLast,J9 t) ds hd
 exact key _ h hp
structure GP (p:Wd):Prop where
 decls:GD p.decls
 len:1<=p.funcs.length/\p.funcs.length<=4
 sigs:∀f∈p.funcs,TI f
def Qd (ds:List Zg) (op num:Int) (m:Nat) (k:Nat):Nat:=
 if op=13 then m+k else if op=8 then (if k=0 then m else m+(ZV ds (gI (ZX ds num) ((k:Int)-1))).length) else m
mutual
def eW (ds:List Zg) (nf:Nat):Nat->Z2->Prop
 | m,.mk op num kids=>(0<=op/\op<=13)/\(op=12->kids=[]/\0<=num/\num<m)/\(op=13->kids.length=2)/\(op=7->kids.length=3)/\(op=8->kids.length=1+(ZX ds num).length)/\(op=9->0<=num/\num<nf)/\(-2000<=num/\num<=2000)/\kids.length<=4 /\
  QZ ds nf (Qd ds op num m) 0 kids
def QZ (ds:List Zg) (nf:Nat) (sc:Nat->Nat):Nat->List Z2->Prop
 | _,[]=>True
 | k,e::r=>eW ds nf (sc k) e/\QZ ds nf sc (k+1) r
end
theorem Z5q {ds:List Zg} {nf m:Nat} (e:Z2):eW ds nf m e↔(0<=e.op/\e.op<=13)/\(e.op=12->e.kids=[]/\0<=e.num/\e.num<m)/\(e.op=13->e.kids.length=2)/\(e.op=7->e.kids.length=3)/\(e.op=8->e.kids.length=1+(ZX ds e.num).length)/\(e.op=9->0<=e.num/\e.num<nf)/\(-2000<=e.num/\e.num<=2000)/\e.kids.length<=4 /\
  QZ ds nf (Qd ds e.op e.num m) 0 e.kids:=by cases e;rw [eW];rfl
theorem CP {ds:List Zg} {nf:Nat} {sc:Nat->Nat}:∀{xs:List Z2} {j k:Nat} {e:Z2},QZ ds nf sc j xs->xs[k]? = some e->eW ds nf (sc (j+k)) e
 | [],j,k,e,_,h=>by simp at h
 | x::r,j,0,e,hw,h=>by simp at h;subst h;exact hw.1
 | x::r,j,k+1,e,hw,h=>by
  have:=CP (xs:=r) (j:=j+1) (k:=k) hw.2 (by simpa using h)
  rw [show j+(k+1)=j+1+k by omega];exact this
theorem NY {ds:List Zg} {nf:Nat} {sc:Nat->Nat}:∀{xs ys:List Z2} {j:Nat},QZ ds nf sc j (xs++ys)↔QZ ds nf sc j xs/\QZ ds nf sc (j+xs.length) ys
 | [],ys,j=>by simp [QZ]
 | x::r,ys,j=>by
  rw [QQ,QZ,QZ,NY (xs:=r),and_assoc,YS,show j+1+r.length=j+(r.length+1) by omega]
theorem In {ds:List Zg} {nf m:Nat} {sc:Nat->Nat} (hs:∀k,sc k=m):∀{xs:List Z2} {j:Nat},(∀e∈xs,eW ds nf m e)->QZ ds nf sc j xs
 | [],_,_=>True.intro
 | x::r,j,h=>⟨by rw [hs];exact h x (Xl ..),In hs fun e he=>h e (XC _ he)⟩
theorem C3 {ds:List Zg} {nf m:Nat} {op num:Int} {kids:List Z2} (ho:0<=op/\op<=11/\op≠7/\op≠8) (hc:op=9->0<=num/\num<nf) (hn:-2000<=num/\num<=2000) (hl:kids.length<=4) (hk:∀e∈kids,eW ds nf m e):eW ds nf m (.mk op num kids):=by
 rw [eW]
 refine ⟨by omega,fun h=>by omega,fun h=>by omega,fun h=>by omega,fun h=>by omega,hc,hn,hl,In (m:=m) (fun k=>?_) hk⟩
 rw [Qd,Z8 om,Z8 om]
theorem Z5r {ds:List Zg} {nf m:Nat} {z:Int} (hz:-2000<=z/\z<=2000):eW ds nf m (.mk 0 z []):=C3 om (fun h=>by omega) hz (by simp) (fun e he=>by cases he)
theorem Z5s {ds:List Zg} {nf m:Nat} {z:Int} (hz:0<=z/\z<m) (hm:m<=2000):eW ds nf m (.mk 12 z []):=by
 rw [eW]
 exact ⟨by omega,fun _=>⟨rfl,hz⟩,fun h=>by omega,fun h=>by omega,fun h=>by omega,fun h=>by omega,by omega,by simp,True.intro⟩
theorem NW {ds:List Zg} {nf m:Nat} {num:Int} {kids:List Z2} (hn:-2000<=num/\num<=2000) (hl:kids.length=3) (hk:∀e∈kids,eW ds nf m e):eW ds nf m (.mk 7 num kids):=by
 rw [eW]
 refine ⟨by omega,fun h=>by omega,fun h=>by omega,fun _=>hl,fun h=>by omega,fun h=>by omega,hn,by omega,In (m:=m) (fun k=>?_) hk⟩
 rw [Qd,Z8 om,Z8 om]
theorem NX {ds:List Zg} {nf m:Nat} {num:Int} {a b:Z2} (hn:-2000<=num/\num<=2000) (ha:eW ds nf m a) (hb:eW ds nf (m+1) b):eW ds nf m (.mk 13 num [a,b]):=by
 rw [eW]
 exact ⟨by omega,fun h=>by omega,fun _=>rfl,fun h=>by omega,fun h=>by omega,fun h=>by omega,hn,by simp,ha,hb,True.intro⟩
theorem Im {ds:List Zg} {nf m:Nat} {num:Int} {a:Z2} {arms:List Z2} (hn:-2000<=num/\num<=2000) (h3:arms.length<=3) (hl:arms.length=(ZX ds num).length) (ha:eW ds nf m a) (hk:QZ ds nf (Qd ds 8 num m) 1 arms):eW ds nf m (.mk 8 num (a::arms)):=by
 rw [eW]
 refine ⟨by omega,fun h=>by omega,fun h=>by omega,fun h=>by omega,fun _=>by rw [YS];omega,fun h=>by omega,hn,by rw [YS];omega,?_,hk⟩
 rw [Qd,Z8 om,Ze rfl,Ze rfl]
 exact ha
def bS (b:Nat):Nat:=max 4 (10*b-10)
def bC (b:Nat):Nat:=max 40 (100*b-100)
def X0:List Z5->Nat
 | []=>0
 | s::r=>(if Yp s.op=true then 0 else 1)+X0 r
theorem Jv:∀xs ys:List Z5,X0 (xs++ys)=X0 xs+X0 ys
 | [],ys=>by simp [X0]
 | x::r,ys=>by rw [QQ,X0,X0,Jv r];omega
theorem B9:∀xs:List Z5,X0 xs<=xs.length
 | []=>X3 _
 | x::r=>by have:=B9 r;rw [X0,YS];split<;>omega
def T3 (ds:List Zg) (op num:Int) (m:Nat) (k:Nat):Nat:=if op=8 then m+(ZV ds (gI (ZX ds num) k)).length else m
mutual
def fS (ds:List Zg) (nf:Nat):Nat->Z5->Prop
 | m,.mk op num into args kids=>((0<=op/\op<=11)∨(14<=op/\op<=17))/\(∀a∈args,0<=a/\a<m)/\(14<=op->num=0/\into=0/\kids=[]/\∃a,args=[a])/\(op=7->kids.length=2)/\(op=8->kids.length=(ZX ds num).length)/\(op=7∨op=8->∃a,args=[a]) /\
  (op=9->0<=num/\num<nf)/\(-2000<=num/\num<=2000)/\(0<=into/\into<=m)/\args.length<=4/\(op≠7/\op≠8->kids=[])/\TY ds nf (T3 ds op num m) 0 kids
def TY (ds:List Zg) (nf:Nat) (sc:Nat->Nat):Nat->List Z6->Prop
 | _,[]=>True
 | k,b::r=>fB ds nf (sc k) b/\TY ds nf sc (k+1) r
def Tz (ds:List Zg) (nf:Nat):Nat->List Z5->Prop
 | _,[]=>True
 | m,s::r=>fS ds nf m s/\Tz ds nf (if Yp s.op=true then m else m+1) r
def fB (ds:List Zg) (nf:Nat):Nat->Z6->Prop
 | m,.mk steps result=>Tz ds nf m steps/\0<=result/\result<(m+X0 steps:Nat)
end
section
variable {ds:List Zg} {nf:Nat}
structure FS (ds:List Zg) (nf m:Nat) (s:Z5):Prop where
 op:(0<=s.op/\s.op<=11)∨(14<=s.op/\s.op<=17)
 args:∀a∈s.args,0<=a/\a<m
 cnt:14<=s.op->s.num=0/\s.into=0/\s.kids=[]/\∃a,s.args=[a]
 k7:s.op=7->s.kids.length=2
 k8:s.op=8->s.kids.length=(ZX ds s.num).length
 one:s.op=7∨s.op=8->∃a,s.args=[a]
 call:s.op=9->0<=s.num/\s.num<nf
 num:-2000<=s.num/\s.num<=2000
 into:0<=s.into/\s.into<=m
 alen:s.args.length<=4
 kn:s.op≠7/\s.op≠8->s.kids=[]
 kids:TY ds nf (T3 ds s.op s.num m) 0 s.kids
theorem Fz {m:Nat} (s:Z5):fS ds nf m s↔FS ds nf m s:=by
 cases s
 rw [fS]
 exact ⟨fun ⟨h1,h2,h3,h4,h5,h6,h7,h8,h9,h10,h11,h12⟩=>⟨h1,h2,h3,h4,h5,h6,h7,h8,h9,h10,h11,h12⟩,fun h=>⟨h.op,h.args,h.cnt,h.k7,h.k8,h.one,h.call,h.num,h.into,h.alen,h.kn,h.kids⟩⟩
theorem DX {m:Nat} (b:Z6):fB ds nf m b↔Tz ds nf m b.steps/\0<=b.result/\b.result<(m+X0 b.steps:Nat):=by cases b;rw [fB];rfl
theorem DY {sc:Nat->Nat}:∀{xs:List Z6} {j k:Nat} {b:Z6},TY ds nf sc j xs->xs[k]? = some b->fB ds nf (sc (j+k)) b
 | [],j,k,b,_,h=>by simp at h
 | x::r,j,0,b,hw,h=>by simp at h;subst h;exact hw.1
 | x::r,j,k+1,b,hw,h=>by
  have:=DY (xs:=r) (j:=j+1) (k:=k) hw.2 (by simpa using h)
  rw [show j+(k+1)=j+1+k by omega];exact this
theorem O5 {sc:Nat->Nat}:∀{xs ys:List Z6} {j:Nat},TY ds nf sc j (xs++ys)↔TY ds nf sc j xs/\TY ds nf sc (j+xs.length) ys
 | [],ys,j=>by simp [TY]
 | x::r,ys,j=>by
  rw [QQ,TY,TY,O5 (xs:=r),and_assoc,YS,show j+1+r.length=j+(r.length+1) by omega]
theorem O6 {sc:Nat->Nat} {xs:List Z6} {b:Z6} (h:TY ds nf sc 0 xs) (hb:fB ds nf (sc xs.length) b):TY ds nf sc 0 (xs++[b]):=
 O5.2 ⟨h,by rw [Vm];exact hb,True.intro⟩
theorem CR:∀{xs ys:List Z5} {m:Nat},Tz ds nf m (xs++ys)↔Tz ds nf m xs/\Tz ds nf (m+X0 xs) ys
 | [],ys,m=>by simp [Tz,X0]
 | x::r,ys,m=>by
  rw [QQ,Tz,Tz,CR (xs:=r),and_assoc,X0]
  by_cases h:Yp x.op=true
  ·rw [Ze h,Ze h,Vm]
  ·rw [Z8 h,Z8 h,AU]
theorem FA {xs:List Z5} {s:Z5} {m:Nat} (h:Tz ds nf m xs) (hs:fS ds nf (m+X0 xs) s):Tz ds nf m (xs++[s]):=CR.2 ⟨h,hs,True.intro⟩
theorem DZ:∀{xs:List Z5} {k m:Nat} {s:Z5},Tz ds nf m xs->xs[k]? = some s->fS ds nf (m+X0 (xs.take k)) s
 | [],k,m,s,_,h=>by simp at h
 | x::r,0,m,s,hw,h=>by simp at h;subst h;exact hw.1
 | x::r,k+1,m,s,hw,h=>by
  have:=DZ (xs:=r) (k:=k) hw.2 (by simpa using h)
  rw [BP,X0]
  by_cases hc:Yp x.op=true
  ·rw [Ze hc] at this ⊢;rw [Vm];exact this
  ·rw [Z8 hc] at this ⊢;rw [<-AU];exact this
mutual
theorem Zir:∀(s:Z5) {m:Nat},fS ds nf m s->m+4*s.sz<=900000000->Ws ds->wS ds s
 | .mk op num into args kids,m,h,hb,hd=>by
  rw [fS] at h
  obtain ⟨h1,h2,h3,h4,h5,h6,h7,h8,h9,h10,h11,h12⟩:=h
  rw [Z5.sz] at hb
  rw [wS]
  refine ⟨?_,fun hc=>h3 (show 14<=op/\op<=17 by simpa [Yp] using hc).1,fun h8'=>⟨?_,h5 h8'⟩,Z15 kids h12 (fun k=>?_) hd⟩
  ·rcases h1 with h1|h1
   ·have e1:Yp op=false:=by simp [Yp];omega
    have e2:XF op=true:=by simp [XF];omega
    rw [e1,e2];rfl
   ·have e1:Yp op=true:=by simp [Yp];omega
    have e2:XF op=false:=by simp [XF];omega
    rw [e1,e2];rfl
  ·obtain ⟨a,ha⟩:=h6 (.inr h8')
   have:=h2 a (by rw [ha];exact XD.2 rfl)
   exact ⟨a,ha,by omega⟩
  ·have hf:=U5 hd (gI (ZX ds num) k)
   show T3 ds op num m k+4*X2 kids<=900000003
   rw [T3];split<;>omega
theorem Z15:∀(bs:List Z6) {sc:Nat->Nat} {k:Nat},TY ds nf sc k bs->(∀k,sc k+4*X2 bs<=900000003)->Ws ds->AQ ds bs
 | [],_,_,_,_,_=>True.intro
 | b::r,sc,k,h,hb,hd=>by
  have hp:=b.sz_eq
  exact ⟨Z14 b h.1 (by have:=hb k;rw [X2] at this;omega) hd,Z15 r h.2 (fun j=>by have:=hb j;rw [X2] at this;omega) hd⟩
theorem Z16:∀(xs:List Z5) {m:Nat},Tz ds nf m xs->m+4*Y9 xs<=900000000->Ws ds->Kl ds xs
 | [],_,_,_,_=>True.intro
 | s::r,m,h,hb,hd=>by
  rw [Y9] at hb
  have hp:=s.sz_pos
  refine ⟨Zir s h.1 om hd,Z16 r h.2 ?_ hd⟩
  split<;>omega
theorem Z14:∀(b:Z6) {m:Nat},fB ds nf m b->m+4*b.sz<=900000004->Ws ds->wB ds b
 | .mk steps result,m,h,hb,hd=>by
  rw [Z6.sz] at hb
  rw [fB] at h
  rw [wB]
  exact Z16 steps h.1 om hd
end
mutual
theorem Ze4:∀(s:Z5) {m:Nat},fS ds nf m s->s.rng
 | .mk op num into args kids,m,h=>by
  rw [fS] at h
  obtain ⟨h1,h2,h3,h4,h5,h6,h7,h8,h9,h10,h11,h12⟩:=h
  rw [Z5.rng]
  exact ⟨by omega,S0 kids h12⟩
theorem S0:∀(bs:List Z6) {sc:Nat->Nat} {k:Nat},TY ds nf sc k bs->TV bs
 | [],_,_,_=>True.intro
 | b::r,sc,k,h=>⟨LR b h.1,S0 r h.2⟩
theorem S1:∀(xs:List Z5) {m:Nat},Tz ds nf m xs->UC xs
 | [],_,_=>True.intro
 | s::r,m,h=>⟨Ze4 s h.1,S1 r h.2⟩
theorem LR:∀(b:Z6) {m:Nat},fB ds nf m b->b.rng
 | .mk steps result,m,h=>by rw [fB] at h;rw [Z6.rng];exact S1 steps h.1
end
end
structure FN (n:Zm) (q:Nat):Prop where
 decls:GD n.decls
 len:1<=n.routines.length/\n.routines.length<=4
 sigs:∀r∈n.routines,(r.params,r.result)∈JL
 lent:∀r∈n.routines,r.lent.length<=3/\∀i∈r.lent,0<=i/\i<r.params.length
 body:∀r∈n.routines,fB n.decls n.routines.length r.params.length r.body/\r.body.sz<=q
theorem FN.ok {n:Zm} {q:Nat} (h:FN n q):X1 n:=
 ⟨h.decls.ok,h.len.2,fun r hr=>(TI.bd (f:=⟨r.params,r.result,default⟩) (h.sigs r hr)).1,fun r hr=>by have:=(h.lent r hr).1;omega⟩
def Pk (n k:Int):Prop:=0<=k/\(0<n->k<n)/\(n<=0->k=0)
theorem Pk.lt {n k:Int} (h:Pk n k) (hn:0<n):0<=k/\k<n:=⟨h.1,h.2.1 hn⟩
theorem Pk.zero {n:Int}:Pk n 0:=⟨Int.le_refl _,fun h=>h,fun _=>rfl⟩
theorem Pk.rem {n a:Int} (ha:0<=a) (hn:0<n):Pk n (a % n):=⟨Int.emod_nonneg _ om,fun _=>Int.emod_lt_of_pos _ hn,fun _=>by omega⟩
def AD (ds:List Zg):Prop:=ds.length<=8/\∀d∈ds,d.cons.length<=4/\∀c∈d.cons,c.fields.length<=4
theorem GD.ad {ds:List Zg} (h:GD ds):AD ds:=(by decide:∀ds∈Ay,ds.length<=8/\∀d∈ds,d.cons.length<=4/\∀c∈d.cons,c.fields.length<=4) ds h
theorem AD.set {ds:List Zg} (h:AD ds) (k:Nat) {d:Zg} (hd:d.cons.length<=4/\∀c∈d.cons,c.fields.length<=4):AD (ds.set k d):=
 ⟨by rw [VN];exact h.1,fun x hx=>(List.mem_or_eq_of_mem_set hx).elim (h.2 x) fun e=>by rw [e];exact hd⟩
theorem AD.app {ds es:List Zg} (h:AD ds) (hl:ds.length+es.length<=8) (hd:∀d∈es,d.cons.length<=4/\∀c∈d.cons,c.fields.length<=4):AD (ds++es):=
 ⟨by rw [Yr];exact hl,fun x hx=>(Xa.1 hx).elim (h.2 x) (hd x)⟩
theorem GD.three:GD [Ao,⟨0,0,[]⟩,Ap]:=List.Mem.head _
theorem GD.four:∀{k:Nat} {x:Zg},NK[k]? = some x->GD ([Ao,⟨0,0,[]⟩,Ap]++[x])
 | 0,x,h=>by cases h;exact .tail _ (.head _)
 | 1,x,h=>by cases h;exact .tail _ (.tail _ (.head _))
 | 2,x,h=>by cases h;exact .tail _ (.tail _ (.tail _ (.head _)))
 | 3,x,h=>by cases h;exact .tail _ (.tail _ (.tail _ (.tail _ (.head _))))
 | k+4,x,h=>by simp [NK] at h
theorem Bu {l:LI} {z a b:Int} (h:z∈l) (hl:l.all (fun x=>decide (a<=x/\x<=b))=true):a<=z/\z<=b:=by
 have:=JI.1 hl z h
 exact of_decide_eq_true this
def rk (t:Int):Nat:=if J9 t then 0 else 1
theorem LQ (t:Int):rk t<=1:=by rw [rk];split<;>omega
theorem RZ {t:Int} (h:J9 t):rk t=0:=Ze h
def SE (g:Wd) (q:Nat) (e:Z2):Prop:=(∀m,eW g.decls g.funcs.length m e)/\e.sz<=q
def GE (g:Wd) (m q:Nat) (e:Z2):Prop:=eW g.decls g.funcs.length m e/\e.sz<=q
theorem SE.ge {g:Wd} {q q' m:Nat} {e:Z2} (h:SE g q e) (hq:q<=q'):GE g m q' e:=⟨h.1 m,Vu h.2 hq⟩
theorem GE.le {g:Wd} {m q q':Nat} {e:Z2} (h:GE g m q e) (hq:q<=q'):GE g m q' e:=⟨h.1,Vu h.2 hq⟩
theorem Fy {m:Nat}:∀{xs:List Z2},(∀e∈xs,e.sz<=m)->Xz xs<=xs.length*m
 | [],_=>KO _
 | x::r,h=>by
  have h1:=h x (Xl ..)
  have h2:=Fy (xs:=r) fun e he=>h e (XC _ he)
  rw [Xz,YS,Qx];omega
theorem XE {α:Type} {p:α->Prop} {xs:List α} {a:α} (h:∀x∈xs,p x) (ha:p a):∀x∈xs++[a],p x:=fun x hx=>(Xa.1 hx).elim (h x) fun q=>by rw [XD.1 q];exact ha
theorem SE.int {g:Wd} {z:Int} {q:Nat} (hz:-2000<=z/\z<=2000) (hq:1<=q):SE g q (.mk 0 z []):=⟨fun _=>Z5r hz,by simpa [Z2.sz,Xz] using hq⟩
theorem SE.node {g:Wd} {op num:Int} {ys:List Z2} {q k:Nat} (ho:op=6∨op=10) (hn:0<=num/\num<=2000) (hy:∀e∈ys,SE g 1 e) (hl:ys.length<=k) (hk:k<=3) (hq:1+k<=q):SE g q (.mk op num ys):=by
 refine ⟨fun m=>C3 om (fun h=>by omega) om om fun e he=>(hy e he).1 m,?_⟩
 have:=Fy (xs:=ys) (m:=1) fun e he=>(hy e he).2
 rw [Z2.sz];omega
def B1 (ds:List Zg) (t c:Int):Prop:=(0<=c/\c<=9)/\(ZV ds c).length<=3*rk t/\∀u∈ZV ds c,J9 u
instance (ds:List Zg) (t c:Int):Decidable (B1 ds t c):=inferInstanceAs (Decidable (_/\_/\_))
theorem Sq {ds:List Zg} (h:GD ds):∀t∈[(1:Int),2,3,4],∀c∈ZX ds t,(t∈ZV ds c->∀c0,(ZX ds t)[0]? = some c0->B1 ds t c0)/\(¬t∈ZV ds c->B1 ds t c):=by
 intro t ht c hc
 have k1:=(by decide:∀ds∈Ay,∀t∈[(1:Int),2,3,4],∀c∈ZX ds t,(t∈ZV ds c->B1 ds t (gI (ZX ds t) 0))/\(¬t∈ZV ds c->B1 ds t c)) ds h t ht c hc
 refine ⟨fun q c0 h0=>?_,k1.2⟩
 have:=k1.1 q
 rwa [Vy (i:=0) h0] at this
theorem NH {ds:List Zg} (h:GD ds) {t c:Int} (hc:c∈ZX ds t):t∈[(1:Int),2,3,4]:=by
 obtain ⟨_,h2,_⟩:=h.cons_cases hc
 rcases h2 with rfl|rfl|rfl<;>simp
theorem Zfa {ds:List Zg} (h:GD ds) {t c c0:Int} (hc:c∈ZX ds t) (ht:t∈ZV ds c) (h0:(ZX ds t)[0]? = some c0):B1 ds t c0:=(Sq h t (NH h hc) c hc).1 ht c0 h0
theorem Zf9 {ds:List Zg} (h:GD ds) {t c:Int} (hc:c∈ZX ds t) (ht:¬t∈ZV ds c):B1 ds t c:=(Sq h t (NH h hc) c hc).2 ht
theorem Ze3 {ds:List Zg} (h:GD ds) {t:Int} (h0:(ZX ds t).length=0) (ht:0<t):rk t=1:=by
 rw [rk,Z8]
 rintro (q|q|q)
 ·omega
 ·rw [q,h.low.2.1] at h0;cases h0
 ·rw [q,h.low.2.2.2.1] at h0;cases h0
def Ab (g:Wd) (t i:Int):Prop:=0<=i/\∃f,g.funcs[i.toNat]? = some f/\0<f.params.length/\Uu g.decls (gI f.params ((f.params.length:Int)-1)) f.result=t
theorem Ab.lt {g:Wd} {t i:Int} (h:Ab g t i):0<=i/\i<g.funcs.length:=by
 obtain ⟨h1,f,h2,_⟩:=h
 have:=(Xk.1 h2).1
 omega
theorem Ab.mk {g:Wd} {t x2:Int} {k:Nat} {f:Func} (hf:g.funcs[k]? = some f) (hl:0<f.params.length) (hx:f.params[f.params.length-1]? = some x2) (ha:Uu g.decls x2 f.result=t):Ab g t (k:Int):=by
 refine ⟨by omega,f,by simpa using hf,hl,?_⟩
 rw [Vy (i:=(f.params.length:Int)-1) (by rw [show ((f.params.length:Int)-1).toNat=f.params.length-1 by omega];exact hx)]
 exact ha
theorem Ab.low {g:Wd} {t i u:Int} {f:Func} {j:Nat} (hg:GP g) (h:Ab g t i) (ht:0<t) (hf:g.funcs[i.toNat]? = some f) (hj:j+1<f.params.length) (hu:f.params[j]? = some u):rk u=0:=by
 obtain ⟨_,f',h2,_,h4⟩:=h
 have e:f'=f:=Q3 (h2.symm.trans hf)
 subst e
 have h5:=(hg.sigs f' (ZZ hf)).clo hg.decls (by rw [h4];exact ht)
 refine RZ (h5 u ?_)
 rw [List.dropLast_eq_take]
 exact ZZ (i:=j) (by rw [List.getElem?_take_of_lt om];exact hu)
end Go.Abs
section
namespace Go.Abs
theorem JQ (b:Nat):bS b=max 4 (10*b-10):=rfl
theorem JP (b:Nat):bC b=max 40 (100*b-100):=rfl
theorem Ep {L q b:Nat} (hL:L<=3) (hb:3<=b) (hq:L*q<=b-1):1+L*bS q<=bS b:=by
 rw [JQ,JQ]
 have:L=0∨L=1∨L=2∨L=3:=by omega
 rcases this with rfl|rfl|rfl|rfl<;>omega
theorem Zbz {L q b:Nat} (hL:L<=3) (hb:3<=b) (hq:L*q<=b-2):5+L*bS q<=bS b:=by
 rw [JQ,JQ]
 have:L=0∨L=1∨L=2∨L=3:=by omega
 rcases this with rfl|rfl|rfl|rfl<;>omega
theorem Zbr {b:Nat} (hb:3<=b):1+(bS (b / 2)+bS (b / 2))<=bS b:=by rw [JQ,JQ];omega
theorem Z23 {b:Nat} (hb:3<=b):5+bS (b-2)<=bS b:=by rw [JQ,JQ];omega
theorem AI {L q b:Nat} (hL:L<=3) (hb:3<=b) (hq:L*q<=b-1):10+L*bC q<=bC b:=by
 rw [JP,JP]
 have:L=0∨L=1∨L=2∨L=3:=by omega
 rcases this with rfl|rfl|rfl|rfl<;>omega
theorem Zby {L q b:Nat} (hL:L<=3) (hb:3<=b) (hq:L*q<=b-2):40+L*bC q<=bC b:=by
 rw [JP,JP]
 have:L=0∨L=1∨L=2∨L=3:=by omega
 rcases this with rfl|rfl|rfl|rfl<;>omega
theorem Zbq {b:Nat} (hb:3<=b):10+(bC (b / 2)+bC (b / 2))<=bC b:=by rw [JP,JP];omega
theorem Z22 {b:Nat} (hb:3<=b):40+bC (b-2)<=bC b:=by rw [JP,JP];omega
theorem Nc (b:Nat):4<=bS b:=by rw [JQ];omega
theorem Nb (b:Nat):40<=bC b:=by rw [JP];omega
theorem Qj (L b:Nat):L*(b / L)<=b:=Nat.mul_div_le b L
theorem PY {k L C:Nat} (h:k<L):(k+1)*C=k*C+C/\(k+1)*C<=L*C:=⟨by rw [Qx,Nat.one_mul],QR C h⟩
theorem Dq {ds:List Zg} {d x:Int} {m k:Nat} (h:(ZX ds d)[k]? = some x):Qd ds 8 d m (1+k)=m+(ZV ds x).length:=by
 rw [Qd,Z8 om,Ze rfl,Z8 om,Vy (i:=((1+k:Nat):Int)-1) (by rw [show (((1+k:Nat):Int)-1).toNat=k by omega];exact h)]
section
variable {g:Wd} {m:Nat}
theorem GE.var {z:Int} {q:Nat} (hz:0<=z/\z<m) (hm:m<=2000) (hq:1<=q):GE g m q (.mk 12 z []):=⟨Z5s hz hm,by simpa [Z2.sz,Xz] using hq⟩
theorem GE.list {ys:List Z2} {L s:Nat} (h:∀e∈ys,GE g m s e) (hl:ys.length=L):Xz ys<=L*s:=by rw [<-hl];exact Fy fun e he=>(h e he).2
theorem GE.node {op num:Int} {ys:List Z2} {L s q:Nat} (ho:0<=op/\op<=11/\op≠7/\op≠8) (hc:op=9->0<=num/\num<g.funcs.length) (hn:-2000<=num/\num<=2000) (h:∀e∈ys,GE g m s e) (hl:ys.length=L) (hL:L<=3) (hq:1+L*s<=q):GE g m q (.mk op num ys):=by
 have:=GE.list h hl
 exact ⟨C3 ho hc hn om fun e he=>(h e he).1,by rw [Z2.sz];omega⟩
theorem GE.if_ {num:Int} {ys:List Z2} {s q:Nat} (hn:-2000<=num/\num<=2000) (h:∀e∈ys,GE g m s e) (hl:ys.length=3) (hq:1+3*s<=q):GE g m q (.mk 7 num ys):=by
 have:=GE.list h hl
 exact ⟨NW hn hl fun e he=>(h e he).1,by rw [Z2.sz];omega⟩
theorem GE.let_ {a b:Z2} {s q:Nat} (ha:GE g m s a) (hb:GE g (m+1) s b) (hq:1+(s+s)<=q):GE g m q (.mk 13 0 [a,b]):=by
 refine ⟨NX om ha.1 hb.1,?_⟩
 have h1:=ha.2
 have h2:=hb.2
 simp only [Z2.sz,Xz];omega
theorem GE.two {op num:Int} {a b:Z2} {s1 s2 q:Nat} (ho:0<=op/\op<=11/\op≠7/\op≠8/\op≠9) (hn:-2000<=num/\num<=2000) (ha:GE g m s1 a) (hb:GE g m s2 b) (hq:1+(s1+s2)<=q):GE g m q (.mk op num [a,b]):=by
 refine ⟨C3 om (fun h=>by omega) hn (by simp) fun e he=>?_,?_⟩
 ·rcases YF.1 he with rfl|he
  ·exact ha.1
  ·rw [XD.1 he];exact hb.1
 ·have h1:=ha.2
  have h2:=hb.2
  simp only [Z2.sz,Xz];omega
theorem GE.match_ {d:Int} {e:Z2} {ys:List Z2} {L s q:Nat} (hd:-2000<=d/\d<=2000) (he:GE g m 4 e) (hw:QZ g.decls g.funcs.length (Qd g.decls 8 d m) 1 ys) (hs:∀e∈ys,e.sz<=s) (hl:ys.length=L) (hL:L=(ZX g.decls d).length) (h3:L<=3) (hq:5+L*s<=q):GE g m q (.mk 8 d (e::ys)):=by
 refine ⟨Im hd om om he.1 hw,?_⟩
 have h1:=Fy hs
 rw [hl] at h1
 have h2:=he.2
 rw [Z2.sz,Xz];omega
end
def NL (s:Nat) (left w:Int):Prop:=((s:Int)<=left/\w=left-s)∨(left<s/\w=-1)
end Go.Abs
namespace Go.Abs
theorem Cf {L b p pp M:Nat} (hL:L<=3) (hb:3<=b) (h:pp<=p+8) (hp:p+(bC b-1)<=M):pp+L*bC ((b-1) / L)<=M:=by
 have:=AI hL hb (Qj L (b-1))
 omega
end Go.Abs
end
namespace Go.Abs
theorem Z60 (a b:Z2):Xz [a,b]=a.sz+b.sz:=by simp only [Xz];omega
theorem Fx (a b c:Z2):Xz [a,b,c]=a.sz+b.sz+c.sz:=by simp only [Xz];omega
theorem DJ:bS 3=20/\bS 4=30/\bS 12=110/\bS 16=150/\bS 18=170/\bC 3=200/\bC 4=300/\bC 16=1500:=by decide
theorem F4 {b:Nat} (h:b<=20):bS b<=190/\bC b<=1900/\(b<=2->bS b<=10):=by rw [JQ,JP];omega
section
variable {g:Wd} {m:Nat}
theorem SE.ofs {op num:Int} {ys:List Z2} {q:Nat} (ho:0<=op/\op<=11/\op≠7/\op≠8/\op≠9) (hn:-2000<=num/\num<=2000) (hl:ys.length<=4) (hy:∀e∈ys,∃s,SE g s e) (hq:1+Xz ys<=q):SE g q (.mk op num ys):=
 ⟨fun m=>C3 om (fun h=>by omega) hn hl fun e he=>let ⟨_,h⟩:=hy e he;h.1 m,by rw [Z2.sz];exact hq⟩
theorem SE.nil {op num:Int} {q:Nat} (ho:0<=op/\op<=11/\op≠7/\op≠8/\op≠9) (hn:-2000<=num/\num<=2000) (hq:1<=q):SE g q (.mk op num []):=
 SE.ofs ho hn (by simp) (fun e he=>by cases he) (by simpa [Xz] using hq)
theorem SE.two {op num:Int} {a b:Z2} {s1 s2 q:Nat} (ho:0<=op/\op<=11/\op≠7/\op≠8/\op≠9) (hn:-2000<=num/\num<=2000) (ha:SE g s1 a) (hb:SE g s2 b) (hq:1+(s1+s2)<=q):SE g q (.mk op num [a,b]):=by
 refine SE.ofs ho hn (by simp) (fun e he=>?_) ?_
 ·rcases YF.1 he with rfl|he
  ·exact ⟨_,ha⟩
  ·rw [XD.1 he];exact ⟨_,hb⟩
 ·have h1:=ha.2
  have h2:=hb.2
  rw [Z60];omega
theorem SE.three {op num:Int} {a b c:Z2} {s1 s2 s3 q:Nat} (ho:0<=op/\op<=11/\op≠7/\op≠8/\op≠9) (hn:-2000<=num/\num<=2000) (ha:SE g s1 a) (hb:SE g s2 b) (hc:SE g s3 c) (hq:1+(s1+s2+s3)<=q):SE g q (.mk op num [a,b,c]):=by
 refine SE.ofs ho hn (by simp) (fun e he=>?_) ?_
 ·rcases YF.1 he with rfl|he
  ·exact ⟨_,ha⟩
  ·rcases YF.1 he with rfl|he
   ·exact ⟨_,hb⟩
   ·rw [XD.1 he];exact ⟨_,hc⟩
 ·have h1:=ha.2
  have h2:=hb.2
  have h3:=hc.2
  rw [Fx];omega
theorem GE.int {z:Int} {q:Nat} (hz:-2000<=z/\z<=2000) (hq:1<=q):GE g m q (.mk 0 z []):=(SE.int (g:=g) (q:=q) hz hq).ge (X3 _)
theorem GE.three {op num:Int} {a b c:Z2} {s1 s2 s3 q:Nat} (ho:0<=op/\op<=11/\op≠8/\op≠9) (hn:-2000<=num/\num<=2000) (ha:GE g m s1 a) (hb:GE g m s2 b) (hc:GE g m s3 c) (hq:1+(s1+s2+s3)<=q):GE g m q (.mk op num [a,b,c]):=by
 have hk:∀e∈[a,b,c],eW g.decls g.funcs.length m e:=fun e he=>by
  rcases YF.1 he with rfl|he
  ·exact ha.1
  ·rcases YF.1 he with rfl|he
   ·exact hb.1
   ·rw [XD.1 he];exact hc.1
 refine ⟨?_,?_⟩
 ·by_cases h7:op=7
  ·subst h7;exact NW hn rfl hk
  ·exact C3 om (fun h=>by omega) hn (by simp) hk
 ·have h1:=ha.2
  have h2:=hb.2
  have h3:=hc.2
  rw [Z2.sz,Fx];omega
theorem GE.one {op num:Int} {a:Z2} {s1 q:Nat} (ho:0<=op/\op<=11/\op≠7/\op≠8/\op≠9) (hn:-2000<=num/\num<=2000) (ha:GE g m s1 a) (hq:1+s1<=q):GE g m q (.mk op num [a]):=by
 refine ⟨C3 om (fun h=>by omega) hn (by simp) fun e he=>?_,?_⟩
 ·rw [XD.1 he];exact ha.1
 ·have h1:=ha.2
  simp only [Z2.sz,Xz];omega
theorem GE.letS {a b:Z2} {s1 s2 q:Nat} (ha:GE g m s1 a) (hb:GE g (m+1) s2 b) (hq:1+(s1+s2)<=q):GE g m q (.mk 13 0 [a,b]):=by
 refine ⟨NX om ha.1 hb.1,?_⟩
 have h1:=ha.2
 have h2:=hb.2
 simp only [Z2.sz,Xz];omega
theorem GE.matchL (hg:GP g) {e a b:Z2} {s1 s2 s3 q:Nat} (he:GE g m s1 e) (ha:GE g m s2 a) (hb:GE g (m+2) s3 b) (hq:1+(s1+s2+s3)<=q):GE g m q (.mk 8 1 [e,a,b]):=by
 have hl:=hg.decls.low
 refine ⟨Im om (by simp) (by rw [hl.2.1];rfl) he.1 ⟨?_,?_,True.intro⟩,?_⟩
 ·rw [Dq (k:=0) (x:=0) (by rw [hl.2.1];rfl),hl.2.2.2.2.1];exact ha.1
 ·rw [Dq (k:=1) (x:=1) (by rw [hl.2.1];rfl),hl.2.2.2.2.2.1];exact hb.1
 ·have h1:=he.2
  have h2:=ha.2
  have h3:=hb.2
  rw [Z2.sz,Fx];omega
theorem GE.matchT (hg:GP g) {e a b:Z2} {s1 s2 s3 q:Nat} (he:GE g m s1 e) (ha:GE g m s2 a) (hb:GE g (m+3) s3 b) (hq:1+(s1+s2+s3)<=q):GE g m q (.mk 8 3 [e,a,b]):=by
 have hl:=hg.decls.low
 refine ⟨Im om (by simp) (by rw [hl.2.2.2.1];rfl) he.1 ⟨?_,?_,True.intro⟩,?_⟩
 ·rw [Dq (k:=0) (x:=2) (by rw [hl.2.2.2.1];rfl),hl.2.2.2.2.2.2.1];exact ha.1
 ·rw [Dq (k:=1) (x:=3) (by rw [hl.2.2.2.1];rfl),hl.2.2.2.2.2.2.2];exact hb.1
 ·have h1:=he.2
  have h2:=ha.2
  have h3:=hb.2
  rw [Z2.sz,Fx];omega
theorem HH {α:Type} {p:α->Prop} {a:α} (h:p a):∀x∈[a],p x:=fun x hx=>by rw [XD.1 hx];exact h
end
structure Hy (g:Wd):Prop where
 gp:GP g
 body:∀f∈g.funcs,eW g.decls g.funcs.length f.params.length f.body/\f.body.sz<=30
structure GL (ds:List Zg) (k j:Nat) (rq:List Func):Prop where
 len:rq.length=4
 sigs:∀f∈rq,TI f
 zero:∀f,rq[0]? = some f->f.params.length=0
 body:∀i f,j<=i->i<k->rq[i]? = some f->eW ds k f.params.length f.body/\f.body.sz<=30
theorem GL.gp {ds:List Zg} {k j:Nat} {rq:List Func} (h:GL ds k j rq) (hd:GD ds) (hk:1<=k/\k<=4):GP ⟨ds,rq.take k⟩:=
 ⟨hd,by show 1<=(rq.take k).length/\_;rw [WM,h.len];omega,fun f hf=>h.sigs f (Qe hf)⟩
theorem GL.len_take {ds:List Zg} {k j:Nat} {rq:List Func} (h:GL ds k j rq) (hk:k<=4):(rq.take k).length=k:=by rw [WM,h.len];omega
theorem GL.set {ds:List Zg} {k j:Nat} {rq:List Func} {f:Func} {e:Z2} (h:GL ds k j rq) (hj:1<=j) (hf:rq[j-1]? = some f) (he:eW ds k f.params.length e/\e.sz<=30):GL ds k (j-1) (rq.set (j-1) ⟨f.params,f.result,e⟩):=by
 have hl:=(Xk.1 hf).1
 refine ⟨by rw [VN];exact h.len,fun x hx=>?_,fun x hx=>?_,fun i x h1 h2 hx=>?_⟩
 ·rcases List.mem_or_eq_of_mem_set hx with hx|rfl
  ·exact h.sigs x hx
  ·exact h.sigs f (ZZ hf)
 ·rw [List.getElem?_set] at hx
  split at hx
  ·rename_i h0
   cases hx
   exact h.zero f (by rw [<-h0];exact hf)
  ·exact h.zero x hx
 ·rw [List.getElem?_set] at hx
  split at hx
  ·cases hx
   exact he
  ·exact h.body i x om h2 hx
theorem GL.done {ds:List Zg} {k:Nat} {rq:List Func} (h:GL ds k 0 rq) (hd:GD ds) (hk:1<=k/\k<=4):Hy ⟨ds,rq.take k⟩:=by
 refine ⟨h.gp hd hk,fun f hf=>?_⟩
 show eW ds (rq.take k).length _ _/\_
 rw [h.len_take hk.2]
 obtain ⟨i,hi⟩:=MF hf
 have hi2:i<(rq.take k).length:=(Xk.1 hi).1
 rw [h.len_take hk.2] at hi2
 rw [List.getElem?_take_of_lt hi2] at hi
 exact h.body i f om hi2 hi
theorem Ma {l:List Func} {f:Func} {k:Nat} (h:l[k]? = some f) (hl:l.all (fun f=>decide ((f.params,f.result)∈JL))=true):TI f:=show (f.params,f.result)∈JL from of_decide_eq_true (JI.1 hl f (ZZ h))
theorem GL.start {ds:List Zg} {k:Nat} {e:Z2} {a b c:Func} (ha:TI a) (hb:TI b) (hc:TI c):GL ds k k [⟨[],0,e⟩,a,b,c]:=by
 refine ⟨rfl,fun f hf=>?_,fun f hf=>?_,fun i f h1 h2=>by omega⟩
 ·rcases YF.1 hf with rfl|hf
  ·exact List.Mem.head _
  ·rcases YF.1 hf with rfl|hf
   ·exact ha
   ·rcases YF.1 hf with rfl|hf
    ·exact hb
    ·rw [XD.1 hf];exact hc
 ·cases hf;rfl
theorem Zcc {l:LI} {k:Nat} {a b:Nat} (h:(k:Int)∈l) (hl:l.all (fun x=>decide ((a:Int)<=x/\x<=b))=true):a<=k/\k<=b:=by
 have:=of_decide_eq_true (JI.1 hl _ h)
 omega
mutual
def Kd (p:Int->Prop):Z5->Prop
 | .mk op _ _ _ kids=>p op/\Kc p kids
def Kc (p:Int->Prop):List Z6->Prop
 | []=>True
 | b::r=>Vs p b/\Kc p r
def Q9 (p:Int->Prop):List Z5->Prop
 | []=>True
 | s::r=>Kd p s/\Q9 p r
def Vs (p:Int->Prop):Z6->Prop
 | .mk steps _=>Q9 p steps
end
section
variable {p q:Int->Prop}
theorem Ew (s:Z5):Kd p s↔p s.op/\Kc p s.kids:=by cases s;rw [Kd];rfl
theorem Gu (b:Z6):Vs p b↔Q9 p b.steps:=by cases b;rw [Vs];rfl
theorem Dj:∀{xs:List Z6},Kc p xs↔∀b∈xs,Vs p b
 | []=>by simp [Kc]
 | b::r=>by rw [Kc,Dj];simp
theorem Ci:∀{xs:List Z5},Q9 p xs↔∀b∈xs,Kd p b
 | []=>by simp [Q9]
 | b::r=>by rw [Q9,Ci];simp
theorem Gv {xs ys:List Z5}:Q9 p (xs++ys)↔Q9 p xs/\Q9 p ys:=by simp only [Ci,Xa];exact ⟨fun h=>⟨fun b hb=>h b (.inl hb),fun b hb=>h b (.inr hb)⟩,fun h b hb=>hb.elim (h.1 b) (h.2 b)⟩
theorem Rh {xs:List Z6} {b:Z6} (h:Kc p xs) (hb:Vs p b):Kc p (xs++[b]):=Dj.2 (XE (Dj.1 h) hb)
theorem Gw {xs:List Z5} {b:Z5} (h:Q9 p xs) (hb:Kd p b):Q9 p (xs++[b]):=Ci.2 (XE (Ci.1 h) hb)
end
def WU (op:Int):Prop:=op<=11
def VG (op:Int):Prop:=op<=15
end Go.Abs
section
namespace Go.Abs
structure LW (ds:List Zg) (nf q:Nat) (e:Z2) (ys:List Z5) (v:Int):Prop where
 fs:Tz ds nf q ys
 v:0<=v/\v<(q+X0 ys:Nat)
 sz:Y9 ys<=6*e.sz
 op:Q9 WU ys
theorem LW.dn {ds:List Zg} {nf q:Nat} {e:Z2} {ys:List Z5} {v:Int} (h:LW ds nf q e ys v):X0 ys<=6*e.sz/\ys.length<=6*e.sz:=by
 have h1:=B9 ys
 have h2:=Je ys
 have h3:=h.sz
 omega
structure LB (ds:List Zg) (nf q:Nat) (e:Z2) (b:Z6):Prop where
 fb:fB ds nf q b
 sz:b.sz<=1+6*e.sz
 op:Vs WU b
section
variable {ds:List Zg} {nf q:Nat}
theorem DL:∀xs ys:List Z6,X2 (xs++ys)=X2 xs+X2 ys
 | [],ys=>by simp [X2]
 | x::r,ys=>by rw [QQ,X2,X2,DL r];omega
theorem LW.block {e:Z2} {ys:List Z5} {v:Int} (h:LW ds nf q e ys v):LB ds nf q e ⟨ys,v⟩:=
 ⟨by rw [fB];exact ⟨h.fs,h.v⟩,by rw [Z6.sz];have:=h.sz;omega,by rw [Vs];exact h.op⟩
theorem LW.var {e:Z2} {v:Int} (hv:0<=v/\v<q):LW ds nf q e [] v:=⟨True.intro,by simpa [X0] using hv,by simp [Y9],True.intro⟩
theorem LW.let_ {e a b:Z2} {ys zs:List Z5} {v1 v2:Int} (ha:LW ds nf q a ys v1) (hb:LW ds nf (q+X0 ys) b zs v2) (he:a.sz+b.sz<e.sz):LW ds nf q e (ys++zs) v2:=by
 refine ⟨CR.2 ⟨ha.fs,hb.fs⟩,by rw [Jv,<-AU];exact hb.v,?_,Gv.2 ⟨ha.op,hb.op⟩⟩
 have h1:=ha.sz
 have h2:=hb.sz
 rw [TT];omega
theorem DR {ys:List Z5} {s:Z5} (h:Yp s.op=false):X0 (ys++[s])=X0 ys+1:=by
 rw [Jv]
 simp [X0,h]
theorem LW.node {e:Z2} {ys:List Z5} {as1:LI} (ho:0<=e.op/\e.op<=11/\e.op≠7/\e.op≠8) (hc:e.op=9->0<=e.num/\e.num<nf) (hn:-2000<=e.num/\e.num<=2000) (hf:Tz ds nf q ys) (ha:∀a∈as1,0<=a/\a<(q+X0 ys:Nat)) (hl:as1.length<=4) (hs:Y9 ys<=6*Xz e.kids) (hop:Q9 WU ys) :
  LW ds nf q e (ys++[⟨e.op,e.num,0,as1,[]⟩]) ((q+X0 ys:Nat):Int):=by
 have hcb:Yp e.op=false:=by simp [Yp];omega
 refine ⟨FA hf ?_,?_,?_,Gw hop (by rw [Kd];exact ⟨by show e.op<=11;omega,True.intro⟩)⟩
 ·rw [fS]
  exact ⟨.inl ⟨by omega,by omega⟩,ha,fun h=>by omega,fun h=>by omega,fun h=>by omega,fun h=>by omega,hc,hn,by omega,hl,fun _=>rfl,True.intro⟩
 ·rw [DR (show Yp (Z5.mk e.op e.num 0 as1 []).op=false from hcb)];omega
 ·rw [TT,e.sz_eq]
  simp only [Y9,Z5.sz,X2]
  omega
theorem LW.branch {e:Z2} {ys:List Z5} {v:Int} {bs:List Z6} {s0 sr:Nat} (ho:e.op=7∨e.op=8) (h7:e.op=7->bs.length=2) (h8:e.op=8->bs.length=(ZX ds e.num).length) (hn:-2000<=e.num/\e.num<=2000) (hf:Tz ds nf q ys) (hv:0<=v/\v<(q+X0 ys:Nat))
  (hb:TY ds nf (T3 ds e.op e.num (q+X0 ys)) 0 bs) (hl:bs.length<=3) (h0:Y9 ys<=6*s0) (h1:X2 bs<=bs.length+6*sr) (hs:s0+sr<=Xz e.kids) (hop:Q9 WU ys) (hob:Kc WU bs):LW ds nf q e (ys++[⟨e.op,e.num,0,[v],bs⟩]) ((q+X0 ys:Nat):Int):=by
 have hcb:Yp e.op=false:=by simp [Yp];omega
 refine ⟨FA hf ?_,?_,?_,Gw hop (by rw [Kd];exact ⟨by show e.op<=11;omega,hob⟩)⟩
 ·rw [fS]
  exact ⟨.inl ⟨by omega,by omega⟩,fun a ha=>by rw [XD.1 ha];exact hv,fun h=>by omega,h7,h8,fun _=>⟨v,rfl⟩,fun h=>by omega,hn,by omega,by simp,fun h=>by omega,hb⟩
 ·rw [DR (show Yp (Z5.mk e.op e.num 0 [v] bs).op=false from hcb)];omega
 ·rw [TT,e.sz_eq]
  simp only [Y9,Z5.sz,YS,Xw]
  omega
theorem So {ds:List Zg} {op num:Int} {m k:Nat} (h:op=13):Qd ds op num m k=m+k:=Ze h
theorem Zf7 {ds:List Zg} {op num:Int} {m:Nat} (h:op≠13):Qd ds op num m 0=m:=by simp [Qd,h]
theorem Sp {ds:List Zg} {op num:Int} {m k:Nat} (h:op≠13/\op≠8):Qd ds op num m k=m:=by simp [Qd,h.1,h.2]
theorem Zf8 {ds:List Zg} {op num x:Int} {m k j:Nat} (h:op=8) (hk:k=j+1) (hx:(ZX ds num)[j]? = some x):Qd ds op num m k=m+(ZV ds x).length:=by
 subst h;subst hk;rw [Nat.add_comm j 1];exact Dq hx
theorem M5 {ds:List Zg} {op num x:Int} {m j:Nat} (h:op=8) (hx:(ZX ds num)[j]? = some x):T3 ds op num m j=m+(ZV ds x).length:=by
 rw [T3,Ze h,Vy (i:=(j:Int)) (by simpa using hx)]
theorem M6 {ds:List Zg} {op num:Int} {m j:Nat} (h:op≠8):T3 ds op num m j=m:=Z8 h
theorem Bd {xs:List Z2} {k:Nat} {e:Z2} (h:xs[k]? = some e):Xz (xs.take (k+1))=Xz (xs.take k)+e.sz:=by rw [WS h,DV,Xz,Xz];rfl
theorem Av {xs:List Z2} (k:Nat):Xz (xs.take k)<=Xz xs:=by
 have h:=Yn Xz (To k xs)
 rw [DV] at h;omega
theorem O4 {xs:List Z2} {a b:Z2} (ha:xs[0]? = some a) (hb:xs[1]? = some b):a.sz+b.sz<=Xz xs:=by
 have h1:Xz (xs.take 1)=Xz (xs.take 0)+a.sz:=Bd ha
 have h2:Xz (xs.take 2)=Xz (xs.take 1)+b.sz:=Bd hb
 have h3:=Av (xs:=xs) 2
 omega
theorem ES {us:LI} {v:Int} {d:Nat} (hu:∀a∈us,0<=a/\a<(q:Int)) (hv:0<=v/\v<(q+d:Nat)):∀a∈us++[v],0<=a/\a<((q+d:Nat):Int):=
 XE (fun a ha=>by have:=hu a ha;omega) hv
theorem Hc {us:LI} {d:Nat} (hu:∀a∈us,0<=a/\a<(q:Int)):∀a∈us,0<=a/\a<((q+d:Nat):Int):=fun a ha=>by have:=hu a ha;omega
theorem Zi9 {us ns:LI} {d mf:Nat} (hu:∀a∈us,0<=a/\a<(q:Int)) (hn:∀i∈ns,((q+d:Nat):Int)<=i/\i<((q+d:Nat):Int)+mf):∀a∈us++ns,0<=a/\a<((q+d+mf:Nat):Int):=fun a ha=>by
 rcases Xa.1 ha with h|h
 ·have:=hu a h;omega
 ·have:=hn a h;omega
theorem F9:∀bs:List Z6,bs.length<=X2 bs
 | []=>X3 _
 | b::r=>by have:=F9 r;have:=b.sz_pos;rw [X2,YS];omega
end
end Go.Abs
namespace Go.Abs
structure RF (ds:List Zg) (nf q:Nat) (p:Int->Prop) (r:Y0):Prop where
 sig:(r.params,r.result)∈JL
 lent:r.lent.length<=3/\∀i∈r.lent,0<=i/\i<r.params.length
 body:fB ds nf r.params.length r.body/\r.body.sz<=q
 op:Vs p r.body
structure FO (n:Zm) (q:Nat) (p:Int->Prop):Prop where
 fn:FN n q
 op:∀r∈n.routines,Vs p r.body
theorem FO.rf {n:Zm} {q:Nat} {p:Int->Prop} (h:FO n q p) {r:Y0} (hr:r∈n.routines):RF n.decls n.routines.length q p r:=⟨h.fn.sigs r hr,h.fn.lent r hr,h.fn.body r hr,h.op r hr⟩
theorem FO.all {n:Zm} {q:Nat} {p:Int->Prop} (hd:GD n.decls) (hl:1<=n.routines.length/\n.routines.length<=4) (h:∀r∈n.routines,RF n.decls n.routines.length q p r):FO n q p:=
 ⟨⟨hd,hl,fun r hr=>(h r hr).sig,fun r hr=>(h r hr).lent,fun r hr=>(h r hr).body⟩,fun r hr=>(h r hr).op⟩
structure RN (ds:List Zg) (nf:Nat) (r:Y0):Prop where
 sig:(r.params,r.result)∈JL
 lent:r.lent=[]
 body:fB ds nf r.params.length r.body/\r.body.sz<=181
 op:Vs WU r.body
theorem RN.all {n:Zm} {q:Nat} (hd:GD n.decls) (hl:1<=n.routines.length/\n.routines.length<=4) (h:∀r∈n.routines,RN n.decls n.routines.length r) (hq:181<=q):FO n q WU:=
 FO.all hd hl fun r hr=>⟨(h r hr).sig,by rw [(h r hr).lent];exact ⟨by simp,fun i hi=>by cases hi⟩,⟨(h r hr).body.1,Vu (h r hr).body.2 hq⟩,(h r hr).op⟩
end Go.Abs
namespace Go.Abs
theorem RN.of {ds:List Zg} {nf:Nat} {ps:LI} {rt:Int} {b:Z6} {e:Z2} (hs:(ps,rt)∈JL) (h:LB ds nf ps.length e b) (he:e.sz<=30):RN ds nf ⟨ps,[],rt,Z6.mk b.steps b.result⟩:=by
 have e1:Z6.mk b.steps b.result=b:=by cases b;rfl
 rw [e1]
 exact ⟨hs,rfl,⟨h.fb,by have:=h.sz;show b.sz<=181;omega⟩,h.op⟩
end Go.Abs
end
namespace Go.Abs
theorem Ml:∀{xs:List Z5} {s:Z5},s∈xs->s.sz<=Y9 xs
 | [],s,h=>by cases h
 | x::r,s,h=>by
  rw [Y9]
  rcases YF.1 h with rfl|h
  ·omega
  ·have:=Ml h;omega
theorem HR:∀{xs:List Z6} {b:Z6},b∈xs->b.sz<=X2 xs
 | [],b,h=>by cases h
 | x::r,b,h=>by
  rw [X2]
  rcases YF.1 h with rfl|h
  ·omega
  ·have:=HR h;omega
structure LC (n:Zm) (k:Nat) (xs:List LI):Prop where
 len:xs.length=k
 ok:∀(i:Nat) (l:LI),xs[i]? = some l->l.length<=3/\∀r,n.routines[i]? = some r->∀v∈l,0<=v/\v<(r.params.length:Int)
theorem LC.nil {n:Zm}:LC n 0 []:=⟨rfl,fun i l h=>by simp at h⟩
theorem LC.snoc {n:Zm} {k:Nat} {xs:List LI} {l:LI} (h:LC n k xs) (hl:l.length<=3) (hv:∀r,n.routines[k]? = some r->∀v∈l,0<=v/\v<(r.params.length:Int)):LC n (k+1) (xs++[l]):=by
 refine ⟨by rw [Yr,h.len];rfl,fun i l' hi=>?_⟩
 by_cases hk:i<xs.length
 ·rw [DA hk] at hi
  exact h.ok i l' hi
 ·rw [Cu om] at hi
  have h0:i-xs.length=0:=by
   cases e:i-xs.length with
   | zero=>rfl
   | succ q=>rw [e] at hi;simp at hi
  rw [h0] at hi
  cases hi
  have e:i=k:=by have:=h.len;omega
  subst e
  exact ⟨hl,hv⟩
end Go.Abs
