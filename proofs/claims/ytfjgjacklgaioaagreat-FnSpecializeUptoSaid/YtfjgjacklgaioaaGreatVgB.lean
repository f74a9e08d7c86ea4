/-
  A part of the proofs of several laws (see the last file): no condition.
-/
import Derived.Test.YtfjgjacklgaioaaGreatVgA
import Derived.Test.YtfjgjacklgaioaaGreatRows
import Derived.Deep.Slices
import Derived.ChangeArms
set_option linter.all false
set_option linter.unusedVariables false
set_option linter.unusedSimpArgs false
set_option linter.unusedSectionVars false
set_option maxRecDepth 10000
set_option maxHeartbeats 4000000
namespace Go.Abs
theorem Ad.mono {w:World} {G G':Yd} {v:Value} {k:Nat} {ls:List AV} (hA:Ud G w w G') (h:Ad w G v k ls):Ad w G' v k ls:=by
 rcases h with ⟨rfl,h0⟩|⟨g,len,cap,cur,el,rfl,h1,h2,h3,h4,h5⟩
 ·exact .inl ⟨rfl,h0⟩
 ·exact .inr ⟨g,len,cap,cur,el,rfl,h1,h2,h3,h4,h5.mono hA⟩
theorem QH.same {w:World} {G G':Yd} {r:Res} (hA:Ud G w w G') (h:QH w G r):QH w G' r:=by
 cases r with
 | obj b ls=>obtain ⟨cs,e,h1,h2⟩:=h;exact ⟨cs,e,h1,h2.mono hA⟩
 | tail v k=>exact h
 | ge s=>exact h
 | vec v ls=>
  rcases h with ⟨rfl,h0⟩|⟨g,cap,cur,el,rfl,h1,h2,h3,h4⟩
  ·exact .inl ⟨rfl,h0⟩
  ·exact .inr ⟨g,cap,cur,el,rfl,h1,h2,h3,h4.mono hA⟩
 | many ts=>exact h
 | own B m=>exact h
 | row v k ls=>exact h.mono hA
theorem Yx.alloc_rrow {w:World} {G:Yd} {h:List Res} (hh:Yx w G h) (cs:Array Value) (t:TypeId) {ls:List AV} {len cap k:Nat} (hcap:len<=cap) (Xv:cs.size=cap*k) (hl:ls.length=len*k)
  (hls:YW w G ls (cs.toList.take (len*k))) :
  Yx (w.alloc (.cells cs t)) G (.row (.slice (some ⟨w.heap.size,0,none⟩) len cap) k ls::h)/\YZ w G h (w.alloc (.cells cs t)) G (.row (.slice (some ⟨w.heap.size,0,none⟩) len cap) k ls::h):=by
 have hA:Ud G w (w.alloc (.cells cs t)) G:=⟨fun b j hg=>E8 w _ (hh.lt b j hg),fun _ _ h=>h⟩
 refine hh.alloc (.cells cs t) (h':=[.row (.slice (some ⟨w.heap.size,0,none⟩) len cap) k ls]) (fun _ _ h=>h) (fun _ _ h=>.inl h) ?_ ?_ (C6 _ _) ?_
 ·intro r hr
  rw [XH.1 hr]
  exact .inr ⟨_,len,cap,cs,t,rfl,Dq w _,hcap,Xv,hl,hls.mono hA⟩
 ·intro r hr b j hf
  rw [XH.1 hr] at hf
  exact hf
 ·intro r hr b j hf hg
  rw [XH.1 hr] at hf
  have:=hh.lt b j hg
  have:b=w.heap.size:=hf
  omega
theorem Yx.rwrite {w:World} {G:Yd} {h2:List Res} {g len cap k:Nat} {ls ls':List AV} (hh:Yx w G (.row (.slice (some ⟨g,0,none⟩) len cap) k ls::h2)) {cs cs':Array Value} {e:TypeId}
  (hb:w.heap[g]? = some (.cells cs e (0,0))) (Xv:cs'.size=cs.size) (hle:len<=cap) (hcap:cs.size=cap*k) (hl:ls'.length=len*k) (hls:YW w G ls' (cs'.toList.take (len*k))) :
  Yx (w.setRow g cs') G (.row (.slice (some ⟨g,0,none⟩) len cap) k ls'::h2) /\
   YZ w G (.row (.slice (some ⟨g,0,none⟩) len cap) k ls::h2) (w.setRow g cs') G (.row (.slice (some ⟨g,0,none⟩) len cap) k ls'::h2):=by
 have hmem:Res.row (.slice (some ⟨g,0,none⟩) len cap) k ls∈Res.row (.slice (some ⟨g,0,none⟩) len cap) k ls::h2:=Xd ..
 have hA:Ud G w (w.setRow g cs') G:=⟨fun c j hg=>by
  have hne:c≠g:=fun he=>hh.prot _ hmem c j he hg
  simp [World.cell?,U8 w g c cs' hne],fun _ _ h=>h⟩
 have hpw:=Vn.1 hh.apart
 have hother:∀r∈h2,∀c j,r.fp c j->c≠g:=fun r hr c j hf hc=>hpw.1 r hr c j hc hf
 have e1:YZ w G [.row (.slice (some ⟨g,0,none⟩) len cap) k ls] (w.setRow g cs') G [.row (.slice (some ⟨g,0,none⟩) len cap) k ls']:=by
  refine ⟨rfl,rfl,rfl,by simp [World.setRow],fun _ _ h=>h,?_,fun _ _ _ h=>.inl h,?_⟩
  ·intro c hc
   by_cases hcb:c=g
   ·subst hcb
    exact .inr ⟨cs,cs',e,(0,0),hb,setRow_heap w c cs cs' e (0,0) hb,Xv,fun j hj=>absurd ⟨_,Xd ..,rfl⟩ hj⟩
   ·exact .inl (U8 w g c cs' hcb)
  ·rintro c j _ ⟨r,hr,hf⟩
   rw [XH.1 hr] at hf
   exact ⟨_,Xd ..,hf⟩
 have e2:Yx (w.setRow g cs') G [.row (.slice (some ⟨g,0,none⟩) len cap) k ls']:=by
  refine ⟨fun r hr=>?_,C6 _ _,fun r hr c j hf hg=>?_,fun c j hg=>?_⟩
  ·rw [XH.1 hr]
   exact .inr ⟨g,len,cap,cs',e,rfl,setRow_heap w g cs cs' e (0,0) hb,hle,Xv.trans hcap,hl,hls.mono hA⟩
  ·rw [XH.1 hr] at hf
   exact hh.prot _ hmem c j hf hg
  ·have:=hh.lt c j hg
   simpa [World.setRow] using this
 exact Yx.frame (h:=[.row (.slice (some ⟨g,0,none⟩) len cap) k ls]) (k:=h2) hh e1 e2
theorem Zgp {w:World} {G:Yd} {h:List Res} {k:Nat} (hh:Yx w G h):Yx w G (.row (.slice none 0 0) k []::h)/\YZ w G h w G (.row (.slice none 0 0) k []::h):=
 ⟨⟨fun r hr=>by
   rcases YH.1 hr with rfl|hr
   ·exact .inl ⟨rfl,rfl⟩
   ·exact hh.ok r hr,Vn.2 ⟨fun _ _ _ _ hf=>hf.elim,hh.apart⟩,fun r hr b o hf hg=>by
   rcases YH.1 hr with rfl|hr
   ·exact hf.elim
   ·exact hh.prot r hr b o hf hg,hh.lt⟩,
  ⟨rfl,rfl,rfl,X6 _,fun _ _ h=>h,fun _ _=>.inl rfl,fun _ _ _ h=>.inl h,fun b o _ ⟨r,hr,hf⟩=>by
   rcases YH.1 hr with rfl|hr
   ·exact hf.elim
   ·exact ⟨r,hr,hf⟩⟩⟩
theorem Ad.form {w:World} {G:Yd} {v:Value} {k:Nat} {ls:List AV} (h:Ad w G v k ls):∃a len cap,v=.slice a len cap/\ls.length=len*k:=by
 rcases h with ⟨rfl,rfl⟩|⟨g,len,cap,cur,e,rfl,_,_,_,h4,_⟩
 ·exact ⟨none,0,0,rfl,by simp⟩
 ·exact ⟨_,len,cap,rfl,h4⟩
theorem CM {w:World} {G:Yd} {v:Value} {k:Nat} {es:List AV} {h2:List Res} (hh:Yx w G (.row v k (Zh es)::h2)) (hes:∀y∈es,y.leaves.length=k) (hk:0<k) :
  ∃G',Yx w G' (.tail v k::h2)/\YZ w G (.row v k (Zh es)::h2) w G' (.tail v k::h2)/\RV w G' (.sl es (some v)) v:=by
 have hpw:=Vn.1 hh.apart
 have hfl:=T5 es hes
 rcases hh.ok _ (Xd ..) with ⟨rfl,h0⟩|⟨g,len,cap,cur,e,rfl,h1,h3,h4,h5,h6⟩
 ·have hes0:es=[]:=by
   cases es with
   | nil=>rfl
   | cons y r=>
    have h7:0<(r.length+1)*k:=Nat.mul_pos om hk
    rw [h0,X5] at hfl
    rw [<-hfl] at h7
    simp at h7
  subst hes0
  obtain ⟨k1,k2⟩:=MT (sz:=k) (hh.sub (C7 _ _))
  refine ⟨G,k1,⟨rfl,rfl,rfl,X6 _,fun _ _ h=>h,fun _ _=>.inl rfl,fun _ _ _ h=>.inl h,?_⟩,.nil (by simp)⟩
  rintro b o _ ⟨r,hr,hf⟩
  rcases YH.1 hr with rfl|hr
  ·exact hf.elim
  ·exact ⟨r,Xp _ hr,hf⟩
 ·have hlen:len=es.length:=HT hk (h5.symm.trans hfl)
  subst hlen
  let G':Yd:=fun b o=>G b o∨(b=g/\o<es.length*k)
  have hA:Ud G w w G':=⟨fun _ _ _=>rfl,fun _ _ h=>.inl h⟩
  have hmem:Res.row (.slice (some ⟨g,0,none⟩) es.length cap) k (Zh es)∈Res.row (.slice (some ⟨g,0,none⟩) es.length cap) k (Zh es)::h2:=Xd ..
  refine ⟨G',⟨fun r hr=>?_,Vn.2 ⟨fun r hr b o f1 f2=>hpw.1 r hr b o f1.1 f2,hpw.2⟩,fun r hr b o hf hg=>?_,fun b o hg=>?_⟩,
   ⟨rfl,rfl,rfl,X6 _,fun _ _ h=>.inl h,fun _ _=>.inl rfl,fun b o _ hg=>hg.imp id fun ⟨e1,_⟩=>⟨_,hmem,e1⟩,?_⟩,?_⟩
  ·rcases YH.1 hr with rfl|hr
   ·exact .inr ⟨g,es.length,cap,cur,e,rfl,h1,h3,h4⟩
   ·exact (hh.ok r (Xp _ hr)).same hA
  ·rcases YH.1 hr with rfl|hr2
   ·obtain ⟨hbg,hf2⟩:=hf
    rcases hg with hg|⟨_,hg⟩
    ·exact hh.prot _ hmem b o hbg hg
    ·omega
   ·rcases hg with hg|⟨hbg,_⟩
    ·exact hh.prot r (Xp _ hr2) b o hf hg
    ·exact hpw.1 r hr2 b o hbg hf
  ·rcases hg with hg|⟨rfl,_⟩
   ·exact hh.lt b o hg
   ·exact (Tf.1 h1).1
  ·rintro b o _ ⟨r,hr,hf⟩
   rcases YH.1 hr with rfl|hr
   ·exact ⟨_,hmem,hf.1⟩
   ·exact ⟨r,Xp _ hr,hf⟩
  ·refine .sl (k:=k) (fun x hx=>by cases hx;rfl) h3 (Vf.of_flat es hes (WE.of_cells (h6.mono hA) fun j u hj=>?_))
   have hjl:j<es.length*k:=by
    have:=(Xs.1 hj).1
    have h7:=h6.length
    omega
   rw [Ql,Zd hjl] at hj
   refine ⟨?_,.inr ⟨rfl,by omega⟩⟩
   rw [Vy,cell_of_row w g j cur e (0,0) h1]
   simpa using hj
section
variable {P:Program} {n:Nat} {ops:Array Oper} {B:Fr->List Res->Prop} {k:Nat} {F:Fr} {h h2:List Res}
theorem HC {k:Nat}:TD h (.row (.slice none 0 0) k []::h):=fun _ _ hh=>let ⟨a,b⟩:=Zgp hh;⟨_,a,b⟩
theorem Zjm (j:Nat) {v:Value} {kk m:Nat} {ls:List AV} (hl:Dx P ops F k=some (.val v)) (hj:h[j]? = some (.row v kk ls)) (hm:ls.length=m*kk) (hk:0<kk):XB P (ZD ops k) F h [] (.val (.int .i64 m)):=by
 unfold Dx at hl
 generalize hoo:ZD ops k=o at hl
 obtain ⟨dst,op,type,pos,after,guard⟩:=o
 cases op<;>simp only at hl<;>try (cases hl)
 rename_i c
 obtain ⟨callee,args,tys⟩:=c
 simp only at hl
 split at hl
 ·rename_i x t hargs htys
  split at hl
  ·rename_i el hu
   simp only [Wo] at hl
   intro n w G a hF hh
   have hv:=hF.ev x
   rw [hl] at hv
   have hv:=hv.val_inv
   obtain ⟨ad,len,cap,rfl,hlen⟩:=Ad.form (hh.ok _ (Y4 hj))
   have:len=m:=HT hk (hlen.symm.trans hm)
   subst this
   have e1:args=#[x]:=by rw [<-Ut (xs:=args),hargs]
   have e2:tys=#[t]:=by rw [<-Ut (xs:=tys),htys]
   subst e1;subst e2
   exact ⟨_,.val,fun w' _ _=>by simp [execOp,resolve,invoke,builtin,hv,Builtin.len_,VK hu,goInt]⟩
  ·cases hl
 ·cases hl
def LS (ops:Array Oper) (F:Fr) (k:Nat):Option (TypeId × AV):=
 match (ZD ops k).op with
 | .load t x=>some (t,F.ev x)
 | _=>none
theorem Zjn (j:Nat) {g len cap kk o:Nat} {ls zs:List AV} {t:TypeId} {y:AV} (hl:LS ops F k=some (t,.val (.pointer (some ⟨g,o,none⟩)))) (hj:h[j]? = some (.row (.slice (some ⟨g,0,none⟩) len cap) kk ls))
  (hz:(ls.drop o).take zs.length=zs) (hy:B3 P t zs=some y):XB P (ZD ops k) F h [g] y:=by
 unfold LS at hl
 generalize hoo:ZD ops k=q at hl
 obtain ⟨dst,op,type,pos,after,guard⟩:=q
 cases op<;>simp only at hl<;>try (cases hl)
 rename_i t' x
 intro n w G a hF hh
 simp only [Wo,Prod.mk.injEq] at hl
 obtain ⟨rfl,hl⟩:=hl
 have hv:=hF.ev x
 rw [hl] at hv
 have hv:=hv.val_inv
 rcases hh.ok _ (Y4 hj) with ⟨h0,_⟩|⟨g',len',cap',cur,e,h0,h1,h2,h3,h4,h5⟩
 ·cases h0
 ·cases h0
  have hc:=(h5.drop o).take zs.length
  rw [hz] at hc
  obtain ⟨v,j1,j2⟩:=Hn (P:=P) (b:=g) (o:=o) hy hc
  refine ⟨v,j1,fun w' _ hw=>?_⟩
  have hrow:=hw g (by simp)
  rw [h1] at hrow
  simp only [execOp,hv]
  refine Vm ?_
  simp only [Instr.loadAt,Instr.sureAddr,Sem.run_bind,Sem.run_pure,Result.andThen_ok]
  refine j2 w' fun j u hj=>?_
  rw [cell_of_row w' g (o+j) cur e (0,0) hrow]
  rw [Ql] at hj
  split at hj
  ·rw [CY,Ql] at hj
   split at hj
   ·simpa using hj
   ·cases hj
  ·cases hj
theorem Sq {K:Fr->List Res->Prop} {g len cap kk:Nat} {ls xs:List AV} {i:Nat} (hs:storeAt P ops F k=some (g,i,xs)) (hlt:i+xs.length<=ls.length)
  (hK:K F (.row (.slice (some ⟨g,0,none⟩) len cap) kk (ls.take i++xs++ls.drop (i+xs.length))::h2)):WO P n (ZD ops k) F (.row (.slice (some ⟨g,0,none⟩) len cap) kk ls::h2) K:=by
 unfold storeAt at hs
 generalize hoo:ZD ops k=q at hs
 obtain ⟨dst,op,type,pos,after,guard⟩:=q
 cases op<;>simp only at hs<;>try (cases hs)
 rename_i t x z
 split at hs
 ·rename_i b' o' inf hx hi
  split at hs
  ·rename_i hc
   simp only [W9] at hc
   simp only [Wo,Prod.mk.injEq] at hs
   obtain ⟨rfl,rfl,hz⟩:=hs
   intro Q w G a hF hh
   have hvx:=hF.ev x
   rw [hx] at hvx
   have hvx:=hvx.val_inv
   have hvy:=hF.ev z
   have hcs:=hvy.cells hc.2.1
   rw [hz] at hcs hc
   have hone:=hcs.one_cells hc.2.2
   have Xv:inf.size=xs.length:=UX hc.1
   have hlen:(a.eval z).cells.size=xs.length:=by have:=hcs.length;simpa using this
   rcases hh.ok (.row (.slice (some ⟨b',0,none⟩) len cap) kk ls) (Xd ..) with ⟨h0,_⟩|⟨g',len',cap',cur,e,h0,h1,h2',h3,h4,h5⟩
   ·cases h0
   ·cases h0
    have hlc:len*kk<=cap*kk:=Kq _ h2'
    have hst:=run_storeCells_at P b' o' e (a.eval z).cells.toList 0 cur w h1 (by simp [hlen];omega) hone
    simp only [CZ,Jj] at hst
    have hr:(execOp a.eval { dst:=none,op:=.store t x z,type:=type,pos:=pos,after:=after,guard:=guard }).run P w =
      .ok .skip (w.setRow b' (cur.toList.take o'++(a.eval z).cells.toList++cur.toList.drop (o'+(a.eval z).cells.size)).toArray):=by
     simp only [execOp,hvx]
     simp [Instr.storeAt,Instr.sureAddr,storeVar,K7 hi,hlen,Xv,hst]
    unfold Oper.wp
    rw [hr]
    have hcl:(a.eval z).cells.toList.length=xs.length:=by simpa using hlen
    obtain ⟨j1,j2⟩:=hh.rwrite (ls':=ls.take o'++xs++ls.drop (o'+xs.length)) (cs':=(cur.toList.take o'++(a.eval z).cells.toList++cur.toList.drop (o'+(a.eval z).cells.size)).toArray) h1
     (by simp [hlen];omega) h2' h3 (by simp;omega) (by
      rw [DU,hlen]
      have e1:(cur.toList.take o'++(a.eval z).cells.toList++cur.toList.drop (o'+xs.length)).take (len*kk) =
        (cur.toList.take (len*kk)).take o'++(a.eval z).cells.toList++(cur.toList.take (len*kk)).drop (o'+xs.length):=by
       have q1:(cur.toList.take o'++(a.eval z).cells.toList).length=o'+xs.length:=by simp [hlen];omega
       rw [List.take_append,q1,Vx om,List.take_take,UD om,List.drop_take]
      rw [e1]
      exact ((h5.take o').append hcs).append (h5.drop _))
    refine ⟨F,_,G,hK,?_,j1,j2⟩
    have:=hF.mono (j2.agree hh)
    simpa [Act.put] using this
  ·cases hs
 ·cases hs
theorem Zex {K:Fr->List Res->Prop} {sz:Nat} (hd:VO n (ZD ops k)=true) (ha:Q3 P ops F k=some ([],0,sz))
  (hK:∀g,K (F.put (ZD ops k).dst (.val (.slice (some ⟨g,0,none⟩) 0 0))) (.row (.slice (some ⟨g,0,none⟩) 0 0) sz []::h)):WO P n (ZD ops k) F h K:=by
 unfold Q3 at ha
 generalize hoo:ZD ops k=q at ha hd hK
 obtain ⟨dst,op,type,pos,after,guard⟩:=q
 cases op<;>simp only at ha<;>try (cases ha)
 rename_i t ln parts
 split at ha
 case h_2=>cases ha
 rename_i e ht
 split at ha
 case h_2=>cases ha
 rename_i i hi
 split at ha
 case h_2=>cases ha
 rename_i hc
 simp only [W9] at hc
 split at ha
 case h_2=>cases ha
 rename_i ls' hf
 simp only [Wo,Prod.mk.injEq] at ha
 obtain ⟨rfl,rfl,Xv⟩:=ha
 intro Q w G a hF hh
 obtain ⟨cs,h1,h2⟩:=Hm hF parts ht hi rfl hc.1 hc.2 hf
 have hr:(execOp a.eval { dst:=dst,op:=.buildSlice t 0 parts,type:=type,pos:=pos,after:=after,guard:=guard }).run P w =
   .ok (.value (.slice (some ⟨w.heap.size,0,none⟩) 0 0)) (w.alloc (.cells cs e)):=by
  simp only [execOp]
  exact Vm h2
 unfold Oper.wp
 rw [hr]
 have hlc:=h1.length
 simp only [Jj] at hlc
 obtain ⟨j1,j2⟩:=hh.alloc_rrow cs e (ls:=[]) (len:=0) (cap:=0) (k:=sz) (X6 _) (by simpa using hlc) (by simp) (by simpa using YW.nil)
 exact ⟨_,_,G,hK _,(hF.mono (j2.agree hh)).put (Tm hd) .val,j1,j2⟩
theorem Zev {K:Fr->List Res->Prop} {g sz:Nat} {xs:List AV} {hx:Option Value} (hd:VO n (ZD ops k)=true) (ha:T0 P ops F k=some (.val (.slice (some ⟨g,0,none⟩) 0 0),.sl xs hx,sz))
  (hxs:∀y∈xs,y.leaves.length=sz) (hbound:xs.length<=4294967296)
  (hK:∀v:Hd,K (F.put (ZD ops k).dst (.val v.v)) (.row v.v sz (Zh xs)::h2)):WO P n (ZD ops k) F (.row (.slice (some ⟨g,0,none⟩) 0 0) sz []::h2) K:=by
 unfold T0 at ha
 generalize hoo:ZD ops k=o at ha hd hK
 obtain ⟨dst,op,type,pos,after,guard⟩:=o
 cases op<;>simp only at ha<;>try (cases ha)
 rename_i c
 obtain ⟨callee,args,tys⟩:=c
 simp only at ha
 split at ha
 case h_2=>cases ha
 rename_i s x t t' hargs htys
 split at ha
 case h_2=>cases ha
 rename_i e htt ht
 have:=UX htt
 subst this
 split at ha
 case h_2=>cases ha
 rename_i i hinfo
 split at ha
 case h_2=>cases ha
 rename_i z hz
 split at ha
 case h_2=>cases ha
 rename_i hb
 simp only [W9] at hb
 simp only [Wo,Prod.mk.injEq] at ha
 obtain ⟨h3,h4,hk1⟩:=ha
 have e1:args=#[s,x]:=by rw [<-Ut (xs:=args),hargs]
 have e2:tys=#[t,t]:=by rw [<-Ut (xs:=tys),htys]
 subst e1;subst e2
 have hzs:z.cells.size=sz:=by rw [UX hb.1,hk1]
 have hby:=Vo hb.2
 intro Q w G a hF hh
 have v1:=hF.ev s
 have v2:=hF.ev x
 rw [h3] at v1
 rw [h4] at v2
 have v1:=v1.val_inv
 have v2:=v2.forget
 have finish:∀(v':Hd) w',(Builtin.append_ #[t,t] type #[.slice (some ⟨g,0,none⟩) 0 0,a.eval x]).run P w=.ok v'.v w'->Yx w' G (.row v'.v sz (Zh xs)::h2) ->
   YZ w G (.row (.slice (some ⟨g,0,none⟩) 0 0) sz []::h2) w' G (.row v'.v sz (Zh xs)::h2) ->
   ({ dst:=dst,op:=.call { callee:=.builtin .append,args:=#[s,x],argTypes:=#[t,t] },type:=type,pos:=pos,after:=after,guard:=guard }:Oper).wp P a w
    (fun a' w'=>∃F' h' G',K F' h'/\FR w' G' n F' a'/\Yx w' G' h'/\YZ w G (.row (.slice (some ⟨g,0,none⟩) 0 0) sz []::h2) w' G' h') Q:=by
  intro v' w' hr j1 j2
  have hrun:(execOp a.eval { dst:=dst,op:=.call { callee:=.builtin .append,args:=#[s,x],argTypes:=#[t,t] },type:=type,pos:=pos,after:=after,guard:=guard }).run P w=.ok (.value v'.v) w':=by
   simp only [execOp,resolve,invoke,builtin,Sem.run_bind,Sem.run_pure,Result.andThen_ok,C5,VZ,Aa,v1,hr]
  unfold Oper.wp
  rw [hrun]
  exact ⟨_,_,G,hK v',(hF.mono (j2.agree hh)).put (Tm hd) .val,j1,j2⟩
 by_cases hxe:xs=[]
 ·subst hxe
  cases v2q:a.eval x with
  | slice ad' l' c'=>
   rw [v2q] at v2
   cases v2<;>exact finish ⟨some ⟨g,0,none⟩,0,0⟩ _ (by rw [v2q];exact DJ ht hinfo (X6 _) w) hh (YZ.refl w G _)
  | _=>rw [v2q] at v2;cases v2
 ·generalize hax:a.eval x=ax at v2 finish
  cases v2 with
  | nil _=>exact absurd rfl hxe
  | sl hq hcc hm=>
   rename_i b o' k' c
   have hpos:0<xs.length:=Fy.2 hxe
   have hfm:=hm.flat_mem
   obtain ⟨news,hn,hnc⟩:=hfm.cells
   have hfl:=T5 xs hxs
   have hnl:news.length=xs.length*i.size:=by rw [hn.length,hfl,hk1]
   have hnews:∀j u,news[j]? = some u->w.cell? ((⟨b,o',none⟩:Addr).add j)=some u:=fun j u hj=>by rw [Jn];exact (hnc j u hj).1
   have hbb:(0+xs.length)*i.bytes<=140737488355328:=by
    have:=Nat.mul_le_mul hbound hby
    rw [Vy]
    omega
   have hr:=run_append_grow (P:=P) w t type e i z ht hinfo hz ⟨g,0,none⟩ 0 0 [] (by simp) (fun j u hj=>by simp at hj) ⟨b,o',none⟩ xs.length c news hnl hnews om om (growslice_fits om hbb)
   simp only [Vy] at hr
   have Xr:=grownCap_ge w xs.length 0 e
   obtain ⟨j1,j2⟩:=hh.drew.alloc_rrow ([].toArray++news.toArray++Builtin.zeroCells z.cells (grownCap w xs.length 0 e-xs.length)) e
    (ls:=Zh xs) (len:=xs.length) (cap:=grownCap w xs.length 0 e) (k:=sz) Xr
    (by
     have q2:(grownCap w xs.length 0 e-xs.length)*sz=grownCap w xs.length 0 e*sz-xs.length*sz:=Nat.sub_mul ..
     have q3:xs.length*sz<=grownCap w xs.length 0 e*sz:=Kq _ Xr
     simp only [Array.size_append,DT,size_zeroCells,hzs,XP,Vy,hnl,hk1]
     omega) hfl
    (by
     have q1:([].toArray++news.toArray++Builtin.zeroCells z.cells (grownCap w xs.length 0 e-xs.length)).toList.take (xs.length*sz)=news:=by
      simp only [DS,Bl]
      rw [<-hk1,<-hnl]
      exact AA
     rw [q1]
     exact hn.mono (Bu w G))
   have hs:List.Sublist (.row (.slice (some ⟨w.drew.heap.size,0,none⟩) xs.length (grownCap w xs.length 0 e)) sz (Zh xs)::h2)
     (.row (.slice (some ⟨w.drew.heap.size,0,none⟩) xs.length (grownCap w xs.length 0 e)) sz (Zh xs)::.row (.slice (some ⟨g,0,none⟩) 0 0) sz []::h2):=List.Sublist.cons_cons _ (C7 _ _)
   exact finish ⟨some ⟨w.heap.size,0,none⟩,xs.length,grownCap w xs.length 0 e⟩ _ hr (j1.sub hs) ((YZ.drew w G _).trans (j2.sub' hs))
theorem Z08 {w:World} {G:Yd} {v:Hd} {kk m:Nat} {ls:List AV} (h:Ad w G v.v kk ls) (hm:ls.length=m*kk) (hk:0<kk) (h0:0<m):∃g c,v=⟨some ⟨g,0,none⟩,m,c⟩:=by
 obtain ⟨a,l,c⟩:=v
 rcases h with ⟨h1,h2⟩|⟨g,len,cap,cur,e,h1,h2,h3,h4,h5,h6⟩
 ·subst h2
  have:=Nat.mul_pos h0 hk
  rw [XP] at hm
  omega
 ·cases h1
  have:l=m:=HT hk (h5.symm.trans hm)
  subst this
  exact ⟨g,c,rfl⟩
theorem Z3i (j m:Nat) {v:Hd} {kk:Nat} {ls:List AV} {c:Code} {A:V8} (hj:h[j]? = some (.row v.v kk ls)) (hm:ls.length=m*kk) (hk:0<kk) (h0:0<m)
  (H:∀g c',v=⟨some ⟨g,0,none⟩,m,c'⟩->Yw P n c A F h):Yw P n c A F h:=by
 intro w G a hF hh
 obtain ⟨g,c',e⟩:=Z08 (hh.ok _ (Y4 hj)) hm hk h0
 exact H g c' e w G a hF hh
theorem Z3h (t j:Nat) {v:Hd} {kk:Nat} {es:List AV} {c:Code} {A:V8} (hF':F.get t=.h v) (hp:Wu [j] h=some [.row v.v kk (Zh es)]) (hes:∀y∈es,y.leaves.length=kk) (hk:0<kk)
  (H:Yw P n c A ((t,.sl es (some v.v))::F) (.tail v.v kk::XR [j] h)):Yw P n c A F h:=by
 intro w G a hF hh
 have hp':=UK (VS hp)
 obtain ⟨G',h1,h2',h3⟩:=CM (hh.perm hp') hes hk
 have e:=h2'.perm hp'.symm (K9 _)
 have hF2:=hF.mono (e.agree hh)
 have hv:=hF2.get t
 rw [hF'] at hv
 have hv:=hv.val_inv
 refine wp_mono (H w G' a ⟨hF2.defers,hF2.size,fun s=>?_⟩ h1) fun e' a' w' hc=>hc.trans e
 show RV w G' (match Nat.beq t s with|true=>_|false=>Fr.get F s) _
 cases hb:Nat.beq t s with
 | true=>
  have:=UX hb
  subst this
  rw [hv]
  exact h3
 | false=>exact hF2.get s
theorem Z2e (j i p:Nat) {u v:Value} {kk kv:Nat} {es ls:List AV} (hp:Wu [j,i] h=some [.row u kk (Zh es),.row v kv ls]) (hes:∀y∈es,y.leaves.length=kk) (hk:0<kk) (hl:ls[p]? = some (.val u)) :
  TD h (.row v kv (ls.set p (.sl es (some u)))::.tail u kk::XR [j,i] h):=by
 intro w G hh
 have hp':=UK (VS hp)
 have hh':=hh.perm hp'
 obtain ⟨G',h1,h2',h3⟩:=CM (h2:=.row v kv ls::XR [j,i] h) hh' hes hk
 have e:=h2'.perm hp'.symm (K9 _)
 have h1:Yx w G' (.tail u kk::.row v kv ls::XR [j,i] h):=h1
 have perm:(Res.tail u kk::.row v kv ls::XR [j,i] h).Perm (.row v kv ls::.tail u kk::XR [j,i] h):=List.Perm.swap ..
 have h4:=h1.perm perm
 have e4:=e.perm (K9 _) perm
 have hset:∀{w:World} {G:Yd},RV w G (.sl es (some u)) u->Ad w G v kv ls->Ad w G v kv (ls.set p (.sl es (some u))):=by
  intro w G hu hr
  rcases hr with ⟨rfl,h0⟩|⟨g,len,cap,cur,el,rfl,k1,k2,k3,k4,k5⟩
  ·exact .inl ⟨rfl,by rw [h0];rfl⟩
  ·refine .inr ⟨g,len,cap,cur,el,rfl,k1,k2,k3,by rw [Tg];exact k4,?_⟩
   obtain ⟨c,c1,c2⟩:=k5.get p _ hl
   have:=c2.val_inv
   subst this
   have h6:=k5.set p hu
   rwa [show (cur.toList.take (len*kv)).set p c=cur.toList.take (len*kv) from by
    apply List.ext_getElem?
    intro q
    rw [List.getElem?_set]
    split
    ·rename_i hq;subst hq;split
     ·exact c1.symm
     ·rename_i hq2;rw [Bj om]
    ·rfl] at h6
 refine ⟨G',⟨fun r hr=>?_,?_,fun r hr=>?_,h4.lt⟩,⟨e4.os,e4.tape,e4.output,e4.size,e4.sub,e4.same,e4.newG,fun b o hb ⟨r,hr,hf⟩=>e4.newfp b o hb ?_⟩⟩
 ·rcases YH.1 hr with rfl|hr
  ·exact hset h3 (h4.ok _ (Xd ..))
  ·exact h4.ok r (Xp _ hr)
 ·have:=Vn.1 h4.apart
  refine Vn.2 ⟨fun r hr b o f1 f2=>this.1 r hr b o ?_ f2,this.2⟩
  cases v with
  | slice a _ _=>cases a with
   | none=>exact f1.elim
   | some a=>exact f1
  | _=>exact f1.elim
 ·rcases YH.1 hr with rfl|hr
  ·intro b o f1 hg
   refine h4.prot (.row v kv ls) (Xd ..) b o ?_ hg
   cases v with
   | slice a _ _=>cases a with
    | none=>exact f1.elim
    | some a=>exact f1
   | _=>exact f1.elim
  ·exact h4.prot r (Xp _ hr)
 ·rcases YH.1 hr with rfl|hr
  ·refine ⟨.row v kv ls,Xd ..,?_⟩
   cases v with
   | slice a _ _=>cases a with
    | none=>exact hf.elim
    | some a=>exact hf
   | _=>exact hf.elim
  ·exact ⟨r,Xp _ hr,hf⟩
def Kt:List Res->Option (List (Value × Nat))
 | []=>some []
 | .tail v k::r=>(Kt r).map ((v,k)::·)
 | .many ts::r=>(Kt r).map (ts++·)
 | _=>none
theorem Ci {b o:Nat}:∀{hs:List Res} {L:List (Value × Nat)},Kt hs=some L->((∃p∈L,Fj p.1 p.2 b o)↔Vh hs b o)
 | [],L,h=>by cases h;simp [Vh]
 | .tail v k::r,L,h=>by
  rw [Kt] at h
  cases hr:Kt r with
  | none=>rw [hr] at h;cases h
  | some L'=>
   rw [hr] at h
   cases h
   have ih:=Ci (b:=b) (o:=o) hr
   have ht:Res.fp (.tail v k) b o↔Fj v k b o:=by
    cases v with
    | slice a _ _=>cases a<;>exact Iff.rfl
    | _=>exact Iff.rfl
   simp only [Vh,YH,exists_eq_or_imp] at ih ⊢
   rw [ht,ih]
 | .many ts::r,L,h=>by
  rw [Kt] at h
  cases hr:Kt r with
  | none=>rw [hr] at h;cases h
  | some L'=>
   rw [hr] at h
   cases h
   have ih:=Ci (b:=b) (o:=o) hr
   simp only [Vh,YH,exists_eq_or_imp] at ih ⊢
   rw [<-ih]
   simp only [Xg,Res.fp]
   constructor
   ·rintro ⟨p,hp|hp,hf⟩
    ·exact .inl ⟨p,hp,hf⟩
    ·exact .inr ⟨p,hp,hf⟩
   ·rintro (⟨p,hp,hf⟩|⟨p,hp,hf⟩)
    ·exact ⟨p,.inl hp,hf⟩
    ·exact ⟨p,.inr hp,hf⟩
 | .obj _ _::_,_,h=>by cases h
 | .ge _::_,_,h=>by cases h
 | .vec _ _::_,_,h=>by cases h
 | .own _ _::_,_,h=>by cases h
 | .row _ _ _::_,_,h=>by cases h
theorem Ig {w:World} {G:Yd}:∀{hs:List Res} {L:List (Value × Nat)},Kt hs=some L->(∀r∈hs,QH w G r)->hs.Pairwise AF->QH w G (.many L)
 | [],L,h,_,_=>by cases h;exact ⟨by simp,.nil⟩
 | .tail v k::r,L,h,h1,h2=>by
  rw [Kt] at h
  cases hr:Kt r with
  | none=>rw [hr] at h;cases h
  | some L'=>
   rw [hr] at h
   cases h
   have hpw:=Vn.1 h2
   obtain ⟨i1,i2⟩:=Ig (w:=w) (G:=G) hr (fun q hq=>h1 q (Xp _ hq)) hpw.2
   refine ⟨fun p hp=>?_,Vn.2 ⟨fun p hp b o f1 f2=>?_,i2⟩⟩
   ·rcases YH.1 hp with rfl|hp
    ·exact h1 (.tail v k) (Xd ..)
    ·exact i1 p hp
   ·obtain ⟨q,hq,hf⟩:=(Ci hr).1 ⟨p,hp,f2⟩
    refine hpw.1 q hq b o ?_ hf
    cases v with
    | slice a _ _=>cases a<;>exact f1
    | _=>exact f1
 | .many ts::r,L,h,h1,h2=>by
  rw [Kt] at h
  cases hr:Kt r with
  | none=>rw [hr] at h;cases h
  | some L'=>
   rw [hr] at h
   cases h
   have hpw:=Vn.1 h2
   obtain ⟨i1,i2⟩:=Ig (w:=w) (G:=G) hr (fun q hq=>h1 q (Xp _ hq)) hpw.2
   obtain ⟨t1,t2⟩:=h1 (.many ts) (Xd ..)
   refine ⟨fun p hp=>?_,Ab.2 ⟨t2,i2,fun p hp q hq b o f1 f2=>?_⟩⟩
   ·rcases Xg.1 hp with hp|hp
    ·exact t1 p hp
    ·exact i1 p hp
   ·obtain ⟨s,hs,hf⟩:=(Ci hr).1 ⟨q,hq,f2⟩
    exact hpw.1 s hs b o ⟨p,hp,f1⟩ hf
 | .obj _ _::_,_,h,_,_=>by cases h
 | .ge _::_,_,h,_,_=>by cases h
 | .vec _ _::_,_,h,_,_=>by cases h
 | .own _ _::_,_,h,_,_=>by cases h
 | .row _ _ _::_,_,h,_,_=>by cases h
theorem Zkd (is:List Nat) {L:List (Value × Nat)} {hs:List Res} (hp:Wu is h=some hs) (hb:Kt hs=some L):TD h (.many L::XR is h):=by
 intro w G hh
 have hp':=UK (VS hp)
 have hh':=hh.perm hp'
 have hpw:=Ab.1 hh'.apart
 have hmany:=Ig (w:=w) (G:=G) hb (fun r hr=>hh'.ok r (Xg.2 (.inl hr))) hpw.1
 refine ⟨G,⟨fun r hr=>?_,Vn.2 ⟨fun r hr b o f1 f2=>?_,hpw.2.1⟩,fun r hr b o hf hg=>?_,hh'.lt⟩,
  ⟨rfl,rfl,rfl,X6 _,fun _ _ h=>h,fun _ _=>.inl rfl,fun _ _ _ h=>.inl h,fun b o _ ⟨r,hr,hf⟩=>?_⟩⟩
 ·rcases YH.1 hr with rfl|hr
  ·exact hmany
  ·exact hh'.ok r (Xg.2 (.inr hr))
 ·exact hh'.cross ((Ci hb).1 f1) ⟨r,hr,f2⟩
 ·rcases YH.1 hr with rfl|hr
  ·obtain ⟨q,hq,hf⟩:=(Ci hb).1 hf
   exact hh'.prot q (Xg.2 (.inl hq)) b o hf hg
  ·exact hh'.prot r (Xg.2 (.inr hr)) b o hf hg
 ·refine (BD hp').2 ?_
  rcases YH.1 hr with rfl|hr
  ·exact Ap.2 (.inl ((Ci hb).1 hf))
  ·exact Ap.2 (.inr ⟨r,hr,hf⟩)
end
end Go.Abs
section
namespace Go.Abs
structure VG where
 fields:LI
 fv:Value
structure Vp where
 frm:Int
 to_:Int
 cons:List VG
 cv:Value
mutual
inductive Wq where
 | mk (op num into:Int) (args:LI) (av:Value) (kids:List XL) (kv:Value)
inductive XL where
 | mk (steps:List Wq) (sv:Value) (result:Int)
end
namespace Wq
def op:Wq->Int|.mk a _ _ _ _ _ _=>a
def num:Wq->Int|.mk _ a _ _ _ _ _=>a
def into:Wq->Int|.mk _ _ a _ _ _ _=>a
def args:Wq->LI|.mk _ _ _ a _ _ _=>a
def av:Wq->Value|.mk _ _ _ _ a _ _=>a
def kids:Wq->List XL|.mk _ _ _ _ _ a _=>a
def kv:Wq->Value|.mk _ _ _ _ _ _ a=>a
end Wq
namespace XL
def steps:XL->List Wq|.mk a _ _=>a
def sv:XL->Value|.mk _ a _=>a
def result:XL->Int|.mk _ _ a=>a
end XL
structure Vd where
 params:LI
 pv:Value
 lent:LI
 lv:Value
 result:Int
 body:XL
structure Qm where
 decls:List Vp
 dv:Value
 routines:List Vd
 rv:Value
abbrev RB (c:VG):List AV:=[ZQ c.fields c.fv]
abbrev Nc (c:VG):AV:=.agg (RB c)
def Ux (cs:List VG):List AV:=cs.map Nc
abbrev EL (xs:List VG) (v:Value):AV:=.sl (Ux xs) (some v)
abbrev RC (d:Vp):List AV:=[.i d.frm,.i d.to_,EL d.cons d.cv]
abbrev Nf (d:Vp):AV:=.agg (RC d)
def VA (ds:List Vp):List AV:=ds.map Nf
abbrev CI (xs:List Vp) (v:Value):AV:=.sl (VA xs) (some v)
mutual
def IJ:Wq->AV
 | .mk op num into args av kids kv=>.agg [.i op,.i num,.i into,ZQ args av,.sl (Tn kids) (some kv)]
def IG:XL->AV
 | .mk steps sv result=>.agg [.sl (QM steps) (some sv),.i result]
def QM:List Wq->List AV
 | []=>[]
 | s::ss=>IJ s::QM ss
def Tn:List XL->List AV
 | []=>[]
 | b::bs=>IG b::Tn bs
end
abbrev DC (xs:List Wq) (v:Value):AV:=.sl (QM xs) (some v)
abbrev RY (xs:List XL):AV:=.sl (Tn xs) none
abbrev BK (xs:List XL) (v:Value):AV:=.sl (Tn xs) (some v)
abbrev RE (s:Wq):List AV:=[.i s.op,.i s.num,.i s.into,ZQ s.args s.av,BK s.kids s.kv]
abbrev E2 (s:Wq):AV:=.agg (RE s)
abbrev LG (b:XL):List AV:=[DC b.steps b.sv,.i b.result]
abbrev Qo (b:XL):AV:=.agg (LG b)
abbrev RD (r:Vd):List AV:=[ZQ r.params r.pv,ZQ r.lent r.lv,.i r.result,DC r.body.steps r.body.sv,.i r.body.result]
abbrev Ng (r:Vd):AV:=.agg (RD r)
def Qa (rs:List Vd):List AV:=rs.map Ng
abbrev Ze7 (xs:List Vd):AV:=.sl (Qa xs) none
abbrev EM (xs:List Vd) (v:Value):AV:=.sl (Qa xs) (some v)
abbrev GX (n:Qm):List AV:=[CI n.decls n.dv,EM n.routines n.rv]
abbrev E1 (n:Qm):AV:=.agg (GX n)
theorem Oy (s:Wq):IJ s=E2 s:=by cases s;rw [IJ];rfl
theorem Ou (b:XL):IG b=Qo b:=by cases b;rw [IG];rfl
theorem Eg:∀xs:List Wq,QM xs=xs.map E2
 | []=>by rw [QM];rfl
 | s::ss=>by rw [QM,Eg ss,Oy];rfl
theorem Co:∀xs:List XL,Tn xs=xs.map Qo
 | []=>by rw [Tn];rfl
 | b::bs=>by rw [Tn,Co bs,Ou];rfl
@[simp] theorem Zll (xs:List VG):(Ux xs).length=xs.length:=by simp [Ux]
theorem Z7f (xs ys:List VG):Ux (xs++ys)=Ux xs++Ux ys:=by simp [Ux]
theorem Ov (xs:List VG):∀y∈Ux xs,y.leaves.length=1:=by intro y hy;simp only [Ux,XG] at hy;obtain ⟨x,_,rfl⟩:=hy;rfl
@[simp] theorem Zlm (xs:List Vp):(VA xs).length=xs.length:=by simp [VA]
theorem Z7g (xs ys:List Vp):VA (xs++ys)=VA xs++VA ys:=by simp [VA]
theorem Ow (xs:List Vp):∀y∈VA xs,y.leaves.length=3:=by intro y hy;simp only [VA,XG] at hy;obtain ⟨x,_,rfl⟩:=hy;rfl
@[simp] theorem Zlo (xs:List Wq):(QM xs).length=xs.length:=by simp [Eg]
theorem Z7j (xs ys:List Wq):QM (xs++ys)=QM xs++QM ys:=by simp [Eg]
theorem Z7k (xs:List Wq):∀y∈QM xs,y.leaves.length=5:=by intro y hy;simp only [Eg,XG] at hy;obtain ⟨x,_,rfl⟩:=hy;rfl
@[simp] theorem Zlk (xs:List XL):(Tn xs).length=xs.length:=by simp [Co]
theorem IH (xs ys:List XL):Tn (xs++ys)=Tn xs++Tn ys:=by simp [Co]
theorem II (xs:List XL):∀y∈Tn xs,y.leaves.length=2:=by intro y hy;simp only [Co,XG] at hy;obtain ⟨x,_,rfl⟩:=hy;rfl
@[simp] theorem Zln (xs:List Vd):(Qa xs).length=xs.length:=by simp [Qa]
theorem Z7h (xs ys:List Vd):Qa (xs++ys)=Qa xs++Qa ys:=by simp [Qa]
theorem Ox (xs:List Vd):∀y∈Qa xs,y.leaves.length=5:=by intro y hy;simp only [Qa,XG] at hy;obtain ⟨x,_,rfl⟩:=hy;rfl
theorem Z7i (xs:List Vd):(Zh (Qa xs)).all AV.one=true:=Jt fun y hy=>by simp only [Qa,XG] at hy;obtain ⟨x,_,rfl⟩:=hy;rfl
def Qw (c:VG):List (Value × Nat):=[(c.fv,1)]
def U3 (cs:List VG):List (Value × Nat):=cs.flatMap Qw
def Qx (d:Vp):List (Value × Nat):=U3 d.cons++[(d.cv,1)]
def VX (ds:List Vp):List (Value × Nat):=ds.flatMap Qx
mutual
def Qz:Wq->List (Value × Nat)
 | .mk _ _ _ _ av kids kv=>(av,1)::(WQ kids++[(kv,2)])
def Vi:XL->List (Value × Nat)
 | .mk steps sv _=>Vj steps++[(sv,5)]
def Vj:List Wq->List (Value × Nat)
 | []=>[]
 | s::r=>Qz s++Vj r
def WQ:List XL->List (Value × Nat)
 | []=>[]
 | b::r=>Vi b++WQ r
end
def Qy (r:Vd):List (Value × Nat):=(r.pv,1)::(r.lv,1)::Vi r.body
def U4 (rs:List Vd):List (Value × Nat):=rs.flatMap Qy
def Tp (n:Qm):List (Value × Nat):=VX n.decls++((n.dv,3)::(U4 n.routines++[(n.rv,5)]))
theorem Zan (b:XL):Vi b=Vj b.steps++[(b.sv,5)]:=by cases b;rw [Vi];rfl
theorem QA:∀(xs:List Wq) (ys:List Wq),Vj (xs++ys)=Vj xs++Vj ys
 | [],ys=>by simp [Vj]
 | x::r,ys=>by rw [Q6,Vj,Vj,QA r ys,UC]
theorem Qv:∀(xs:List XL) (ys:List XL),WQ (xs++ys)=WQ xs++WQ ys
 | [],ys=>by simp [WQ]
 | x::r,ys=>by rw [Q6,WQ,WQ,Qv r ys,UC]
theorem QV:Vj []=[]:=by rw [Vj]
theorem QR:WQ []=[]:=by rw [WQ]
theorem QS (xs ys:List VG):U3 (xs++ys)=U3 xs++U3 ys:=by simp [U3]
theorem QT (xs ys:List Vp):VX (xs++ys)=VX xs++VX ys:=by simp [VX]
theorem QU (xs ys:List Vd):U4 (xs++ys)=U4 xs++U4 ys:=by simp [U4]
def VG.er (c:VG):Yg:=⟨c.fields⟩
def Vp.er (d:Vp):Zf:=⟨d.frm,d.to_,d.cons.map VG.er⟩
mutual
def Wq.er:Wq->Z5
 | .mk op num into args _ kids _=>.mk op num into args (Ky kids)
def XL.er:XL->Z7
 | .mk steps _ result=>.mk (J6 steps) result
def J6:List Wq->List Z5
 | []=>[]
 | s::r=>s.er::J6 r
def Ky:List XL->List Z7
 | []=>[]
 | b::r=>b.er::Ky r
end
def Vd.er (r:Vd):Yb:=⟨r.params,r.lent,r.result,r.body.er⟩
def Qm.er (n:Qm):Zl:=⟨n.decls.map Vp.er,n.routines.map Vd.er⟩
theorem IV:∀xs:List Wq,J6 xs=xs.map Wq.er
 | []=>by rw [J6];rfl
 | x::r=>by rw [J6,IV r];rfl
theorem IT:∀xs:List XL,Ky xs=xs.map XL.er
 | []=>by rw [Ky];rfl
 | x::r=>by rw [Ky,IT r];rfl
inductive TT:List AV->List AV->Prop
 | nil:TT [] []
 | cons {x y:AV} {xs ys:List AV} (hl:x.leaves.length=y.leaves.length) (h:Ve x.leaves y.leaves) (t:TT xs ys):TT (x::xs) (y::ys)
theorem TT.length:∀{xs ys:List AV},TT xs ys->xs.length=ys.length
 | _,_,.nil=>rfl
 | _,_,.cons _ _ t=>by simp [t.length]
theorem TT.els {w:World} {G:Yd} {k b:Nat}:∀{o:Nat} {xs ys:List AV},TT xs ys->Vf w G k b o xs->Vf w G k b o ys
 | _,_,_,.nil,_=>.nil
 | _,_,_,.cons hl h t,.cons hk hm r=>.cons (hl▸hk) (h.mem hm) (t.els r)
theorem Zc.els {es es':List AV} (hv:Option Value) (h:TT es es'):Zc (.sl es hv) (.sl es' none):=by
 intro w G v hr
 cases hr with
 | nil _=>cases h;exact .nil (by simp)
 | sl _ hc hm=>rw [h.length] at hc ⊢;exact .sl (by simp) hc (h.els hm)
theorem TT.map {α β:Type} {f:α->AV} {g:β->AV} {e:α->β} (h:∀x,(f x).leaves.length=(g (e x)).leaves.length/\Ve (f x).leaves (g (e x)).leaves):∀xs:List α,TT (xs.map f) ((xs.map e).map g)
 | []=>.nil
 | x::r=>.cons (h x).1 (h x).2 (TT.map h r)
theorem Zdw (c:VG):Ve (RB c) (Dw c.er):=.cons (Zc.forget _ _) .nil
theorem Z81 (cs:List VG):TT (Ux cs) (XV (cs.map VG.er)):=TT.map (f:=Nc) (g:=D0) (e:=VG.er) (fun c=>⟨rfl,Zdw c⟩) cs
theorem Zdx (d:Vp):Ve (RC d) (Q2 d.er):=.cons (Zc.refl _) (.cons (Zc.refl _) (.cons (Zc.els _ (Z81 _)) .nil))
theorem OM (ds:List Vp):TT (VA ds) (YB (ds.map Vp.er)):=TT.map (f:=Nf) (g:=AH) (e:=Vp.er) (fun c=>⟨rfl,Zdx c⟩) ds
mutual
theorem Ze0:∀s:Wq,Ve (RE s) (Xz s.er)
 | .mk op num into args av kids kv=>by
  rw [Wq.er]
  exact .cons (Zc.refl _) (.cons (Zc.refl _) (.cons (Zc.refl _) (.cons (Zc.forget _ _) (.cons (Zc.els _ (OL kids)) .nil))))
theorem RR:∀b:XL,Ve (LG b) (Xu b.er)
 | .mk steps sv result=>by
  rw [XL.er]
  exact .cons (Zc.els _ (ON steps)) (.cons (Zc.refl _) .nil)
theorem ON:∀xs:List Wq,TT (QM xs) (ZG (J6 xs))
 | []=>by rw [QM,J6,ZG];exact .nil
 | s::r=>by
  rw [QM,J6,ZG,Oy,OD]
  exact .cons rfl (Ze0 s) (ON r)
theorem OL:∀xs:List XL,TT (Tn xs) (YR (Ky xs))
 | []=>by rw [Tn,Ky,YR];exact .nil
 | s::r=>by
  rw [Tn,Ky,YR,Ou,Ot]
  exact .cons rfl (RR s) (OL r)
end
theorem Zdz (r:Vd):Ve (RD r) (Tt r.er):=by
 have h:=RR r.body
 cases h with
 | cons h1 t=>cases t with
  | cons h2 _=>exact .cons (Zc.forget _ _) (.cons (Zc.forget _ _) (.cons (Zc.refl _) (.cons h1 (.cons h2 .nil))))
theorem Z82 (rs:List Vd):TT (Qa rs) (YX (rs.map Vd.er)):=TT.map (f:=Ng) (g:=QJ) (e:=Vd.er) (fun c=>⟨rfl,Zdz c⟩) rs
theorem Zdy (n:Qm):Ve (GX n) (YV n.er):=.cons (Zc.els _ (OM _)) (.cons (Zc.els _ (Z82 _)) .nil)
theorem NB (n:Qm):Zc (E1 n) (Yr n.er):=Zc.agg (Zdy n)
theorem WD.args_le {P:Program} {f:FuncId} {as1 xs:List AV} {h:List Res} {R:AV->List Res->Prop} (H:WD P f xs h R) (hle:Ve as1 xs):WD P f as1 h R:=
 fun w G vs hvs hh=>H w G vs (hle.cs hvs) hh
theorem Ta {es:List AV} {k:Nat} (h:es.all (fun y=>Nat.beq y.leaves.length k)=true):∀y∈es,y.leaves.length=k:=fun y hy=>UX (A9.1 h y hy)
abbrev rK (g:Hd) (k:Nat) (ls:List AV):Res:=.row g.v k ls
section
variable {P:Program} {n:Nat} {c:Code} {A:V8} {F:Fr} {h:List Res} {ops:Array Oper} {B:Fr->List Res->Prop} {k:Nat}
variable {T:List (Nat × List Nat)} {fuel:Nat} {done:List Nat}
theorem tB (is:List Nat) (hs:List Res) (L' L:List (Value × Nat)) (e:L'=L) (hp:Wu is h=some hs:=by kernel_rfl) (hb:Kt hs=some L':=by kernel_rfl):TD h (.many L::XR is h):=e▸Zkd is hp hb
theorem rr {v:Value} {q:Nat} {ls ls':List AV} {t t':List Res} (h:ls=ls') (e:t=t'):Res.row v q ls::t=.row v q ls'::t':=h▸e▸rfl
theorem Rf (j m:Nat) (v:Hd) (kk:Nat) (ls:List AV) (hm:ls.length=m*kk) (hk:0<kk:=by omega) (hl:Dx P ops F k=some (.h v):=by kernel_rfl) (hj:h[j]? = some (rK v kk ls):=by kernel_rfl):XB P (ZD ops k) F h [] (.i m):=
 Zjm j hl hj hm hk
theorem Wv (b l c' q sz:Nat) (j:Int) (hq:j=(q:Int)/\q<l:=by omega) (hi:BH P ops F k=some (.val (.slice (some ⟨b,0,none⟩) l c'),j,sz):=by kernel_rfl):XB P (ZD ops k) F h [] (.val (.pointer (some ⟨b,q*sz,none⟩))):=by
 have:=Z1y (P:=P) (F:=F) (h:=h) hi om om
 rw [hq.1,VF,Vy] at this
 exact this
theorem VB (j g len cap kk o:Nat) (ls zs:List AV) (t:TypeId) (y:AV) (hz:(ls.drop o).take zs.length=zs) (hl:LS ops F k=some (t,.val (.pointer (some ⟨g,o,none⟩))):=by kernel_rfl) (hj:h[j]? = some (.row (.slice (some ⟨g,0,none⟩) len cap) kk ls):=by kernel_rfl)
  (hy:B3 P t zs=some y:=by kernel_rfl):XB P (ZD ops k) F h [g] y:=Zjn j hl hj hz hy
theorem EA (j g len cap kk o:Nat) (xs ls:List AV) (ls':List AV) (hlt:o+xs.length<=ls.length) (he:ls.take o++xs++ls.drop (o+xs.length)=ls') (H:SI P n ops B (k+1) F (.row (.slice (some ⟨g,0,none⟩) len cap) kk ls'::XR [j] h)) (hk:Xi n ops F k=true:=by kernel_rfl)
  (hs:storeAt P ops F k=some (g,o,xs):=by kernel_rfl) (hp:Wu [j] h=some [.row (.slice (some ⟨g,0,none⟩) len cap) kk ls]:=by kernel_rfl):SI P n ops B k F h:=
 Qf hk (WO.perm (UK (VS hp)) (Sq hs hlt (by rw [he];exact H)))
theorem Cl (i j:Nat) (js bs:List Nat) (g len cap kk o:Nat) (xs ls:List AV) (ls':List AV) (hlt:o+xs.length<=ls.length) (he:ls.take o++xs++ls.drop (o+xs.length)=ls')
  (H:YY P n ops B (T.filter fun t=>!Vg ops i t.1) fuel (done++[i]) F (.row (.slice (some ⟨g,0,none⟩) len cap) kk ls'::XR [j] h)) (hk:Xi n ops F i=true:=by kernel_rfl)
  (hs:storeAt P ops F i=some (g,o,xs):=by kernel_rfl) (hp:Wu [j] h=some [.row (.slice (some ⟨g,0,none⟩) len cap) kk ls]:=by kernel_rfl) (ho:Us ops i T=bs:=by kernel_rfl)
  (hj:js.map (fun q=>(WT (XR [j] h))[q]?)=bs.map some:=by kernel_rfl):VM P n ops B T fuel done F h i:=
 J4 [j] js bs hk (VS hp) ho hj (Sq (h2:=[]) hs hlt (by rw [he];exact H))
theorem Dr (sz:Nat) (hK:∀g,SI P n ops B (k+1) (F.put (ZD ops k).dst (.val (.slice (some ⟨g,0,none⟩) 0 0))) (.row (.slice (some ⟨g,0,none⟩) 0 0) sz []::h)) (hk:Xi n ops F k=true:=by kernel_rfl)
  (ha:Q3 P ops F k=some ([],0,sz):=by kernel_rfl):SI P n ops B k F h:=Qf hk (Zex (U7 hk).2.1 ha hK)
theorem GG (j g sz:Nat) (xs:List AV) (hx:Option Value) (hxs:∀y∈xs,y.leaves.length=sz) (hbound:xs.length<=4294967296) (hK:∀v:Hd,SI P n ops B (k+1) (F.put (ZD ops k).dst (.h v)) (rK v sz (Zh xs)::XR [j] h))
  (hk:Xi n ops F k=true:=by kernel_rfl) (ha:T0 P ops F k=some (.val (.slice (some ⟨g,0,none⟩) 0 0),.sl xs hx,sz):=by kernel_rfl) (hp:Wu [j] h=some [.row (.slice (some ⟨g,0,none⟩) 0 0) sz []]:=by kernel_rfl):SI P n ops B k F h:=
 Qf hk (WO.perm (UK (VS hp)) (Zev (U7 hk).2.1 ha hxs hbound hK))
theorem Rc (j m:Nat) {v:Hd} {kk:Nat} {ls:List AV} (hm:ls.length=m*kk) (h0:0<m) (H:∀g c',v=⟨some ⟨g,0,none⟩,m,c'⟩->Yw P n c A F h) (hk:0<kk:=by omega) (hj:h[j]? = some (rK v kk ls):=by kernel_rfl):Yw P n c A F h:=
 Z3i j m hj hm hk h0 H
theorem Re (t j:Nat) {v:Hd} {kk:Nat} (es:List AV) (hes:∀y∈es,y.leaves.length=kk) (H:Yw P n c A ((t,.sl es (some v.v))::F) (.tail v.v kk::XR [j] h)) (hk:0<kk:=by omega) (hF':F.get t=.h v:=by kernel_rfl)
  (hp:Wu [j] h=some [rK v kk (Zh es)]:=by kernel_rfl):Yw P n c A F h:=Z3h t j hF' hp hes hk H
theorem Zk8 (j i p:Nat) (u v:Value) (kk kv:Nat) (es ls:List AV) (hes:∀y∈es,y.leaves.length=kk) (hl:ls[p]? = some (.val u)) (hk:0<kk:=by omega) (hp:Wu [j,i] h=some [.row u kk (Zh es),.row v kv ls]:=by kernel_rfl) :
  TD h (.row v kv (ls.set p (.sl es (some u)))::.tail u kk::XR [j,i] h):=Z2e j i p hp hes hk hl
theorem F3 {A xs ys B:List AV} {o:Nat} (hA:A.length=o) (hl:xs.length=ys.length):(A++(xs++B)).take o++ys++(A++(xs++B)).drop (o+ys.length)=A++(ys++B):=by
 subst hA
 rw [AA,<-hl,<-List.drop_drop,List.drop_left,List.drop_left,UC]
theorem Ms {A xs B:List AV} {o:Nat} (hA:A.length=o):((A++(xs++B)).drop o).take xs.length=xs:=by
 subst hA
 rw [List.drop_left,AA]
theorem UQ (xs ys:List AV):Zh (xs++ys)=Zh xs++Zh ys:=by simp [Zh]
theorem Z8l:Zh []=[]:=rfl
theorem DP (j:Nat) (v:Value) (q:Nat) (ls ls':List AV) (e:ls=ls') (hp:Wu [j] h=some [.row v q ls]:=by kernel_rfl):TD h (.row v q ls'::XR [j] h):=by
 subst e
 intro w G hh
 have hp':=UK (VS hp)
 exact ⟨G,hh.perm hp',(YZ.refl w G h).perm (K9 _) hp'⟩
end
end Go.Abs
end
section
namespace Go.Abs
theorem Yx.rgrow {w:World} {G:Yd} {h2:List Res} {g len len' cap k:Nat} {ls ls':List AV} (hh:Yx w G (.row (.slice (some ⟨g,0,none⟩) len cap) k ls::h2)) {cs cs':Array Value} {e:TypeId}
  (hb:w.heap[g]? = some (.cells cs e (0,0))) (Xv:cs'.size=cs.size) (hle:len'<=cap) (hcap:cs.size=cap*k) (hl:ls'.length=len'*k) (hls:YW w G ls' (cs'.toList.take (len'*k))) :
  Yx (w.setRow g cs') G (.row (.slice (some ⟨g,0,none⟩) len' cap) k ls'::h2) /\
   YZ w G (.row (.slice (some ⟨g,0,none⟩) len cap) k ls::h2) (w.setRow g cs') G (.row (.slice (some ⟨g,0,none⟩) len' cap) k ls'::h2):=by
 have hmem:Res.row (.slice (some ⟨g,0,none⟩) len cap) k ls∈Res.row (.slice (some ⟨g,0,none⟩) len cap) k ls::h2:=Xd ..
 have hA:Ud G w (w.setRow g cs') G:=⟨fun c j hg=>by
  have hne:c≠g:=fun he=>hh.prot _ hmem c j he hg
  simp [World.cell?,U8 w g c cs' hne],fun _ _ h=>h⟩
 have e1:YZ w G [.row (.slice (some ⟨g,0,none⟩) len cap) k ls] (w.setRow g cs') G [.row (.slice (some ⟨g,0,none⟩) len' cap) k ls']:=by
  refine ⟨rfl,rfl,rfl,by simp [World.setRow],fun _ _ h=>h,?_,fun _ _ _ h=>.inl h,?_⟩
  ·intro c hc
   by_cases hcb:c=g
   ·subst hcb
    exact .inr ⟨cs,cs',e,(0,0),hb,setRow_heap w c cs cs' e (0,0) hb,Xv,fun j hj=>absurd ⟨_,Xd ..,rfl⟩ hj⟩
   ·exact .inl (U8 w g c cs' hcb)
  ·rintro c j _ ⟨r,hr,hf⟩
   rw [XH.1 hr] at hf
   exact ⟨_,Xd ..,hf⟩
 have e2:Yx (w.setRow g cs') G [.row (.slice (some ⟨g,0,none⟩) len' cap) k ls']:=by
  refine ⟨fun r hr=>?_,C6 _ _,fun r hr c j hf hg=>?_,fun c j hg=>?_⟩
  ·rw [XH.1 hr]
   exact .inr ⟨g,len',cap,cs',e,rfl,setRow_heap w g cs cs' e (0,0) hb,hle,Xv.trans hcap,hl,hls.mono hA⟩
  ·rw [XH.1 hr] at hf
   exact hh.prot _ hmem c j hf hg
  ·have:=hh.lt c j hg
   simpa [World.setRow] using this
 exact Yx.frame (h:=[.row (.slice (some ⟨g,0,none⟩) len cap) k ls]) (k:=h2) hh e1 e2
section
variable {P:Program} {n:Nat} {ops:Array Oper} {k:Nat} {F:Fr} {h2:List Res}
theorem So {K:Fr->List Res->Prop} {v:Hd} {sz m:Nat} {ls xs:List AV} {hx:Option Value} (hd:VO n (ZD ops k)=true) (ha:T0 P ops F k=some (.val v.v,.sl xs hx,sz))
  (hxs:∀y∈xs,y.leaves.length=sz) (hone:(Zh xs).all AV.one=true) (hm0:ls.length=m*sz) (hk0:0<sz) (hne:xs≠[]) (hbound:m+xs.length<=4294967296)
  (hK:∀v':Hd,K (F.put (ZD ops k).dst (.val v'.v)) (.row v'.v sz (ls++Zh xs)::h2)):WO P n (ZD ops k) F (.row v.v sz ls::h2) K:=by
 unfold T0 at ha
 generalize hoo:ZD ops k=o at ha hd hK
 obtain ⟨dst,op,type,pos,after,guard⟩:=o
 cases op<;>simp only at ha<;>try (cases ha)
 rename_i c
 obtain ⟨callee,args,tys⟩:=c
 simp only at ha
 split at ha
 case h_2=>cases ha
 rename_i s x t t' hargs htys
 split at ha
 case h_2=>cases ha
 rename_i e htt ht
 have:=UX htt
 subst this
 split at ha
 case h_2=>cases ha
 rename_i i hinfo
 split at ha
 case h_2=>cases ha
 rename_i z hz
 split at ha
 case h_2=>cases ha
 rename_i hb
 simp only [W9] at hb
 simp only [Wo,Prod.mk.injEq] at ha
 obtain ⟨h3,h4,hk1⟩:=ha
 have e1:args=#[s,x]:=by rw [<-Ut (xs:=args),hargs]
 have e2:tys=#[t,t]:=by rw [<-Ut (xs:=tys),htys]
 subst e1;subst e2
 have hzs:z.cells.size=sz:=by rw [UX hb.1,hk1]
 have hby:=Vo hb.2
 have hfl:=T5 xs hxs
 intro Q w G a hF hh
 have v1:=hF.ev s
 have v2:=hF.ev x
 rw [h3] at v1
 rw [h4] at v2
 have v1:=v1.val_inv
 have v2:=v2.forget
 have finish:∀(v':Hd) w',(Builtin.append_ #[t,t] type #[v.v,a.eval x]).run P w=.ok v'.v w'->Yx w' G (.row v'.v sz (ls++Zh xs)::h2)->YZ w G (.row v.v sz ls::h2) w' G (.row v'.v sz (ls++Zh xs)::h2) ->
   ({ dst:=dst,op:=.call { callee:=.builtin .append,args:=#[s,x],argTypes:=#[t,t] },type:=type,pos:=pos,after:=after,guard:=guard }:Oper).wp P a w
    (fun a' w'=>∃F' h' G',K F' h'/\FR w' G' n F' a'/\Yx w' G' h'/\YZ w G (.row v.v sz ls::h2) w' G' h') Q:=by
  intro v' w' hr j1 j2
  have hrun:(execOp a.eval { dst:=dst,op:=.call { callee:=.builtin .append,args:=#[s,x],argTypes:=#[t,t] },type:=type,pos:=pos,after:=after,guard:=guard }).run P w=.ok (.value v'.v) w':=by
   simp only [execOp,resolve,invoke,builtin,Sem.run_bind,Sem.run_pure,Result.andThen_ok,C5,VZ,Aa,v1,hr]
  unfold Oper.wp
  rw [hrun]
  exact ⟨_,_,G,hK v',(hF.mono (j2.agree hh)).put (Tm hd) .val,j1,j2⟩
 have hrow0:=hh.ok (.row v.v sz ls) (Xd ..)
 have hsub2:∀r:Res,List.Sublist (r::h2) (r::.row v.v sz ls::h2):=fun r=>List.Sublist.cons_cons _ (C7 _ _)
 have grown:∀(olds news:List Value) (old:Nat),YW w G ls olds->YW w G (Zh xs) news ->
   Yx (w.drew.alloc (.cells (olds.toArray++news.toArray++Builtin.zeroCells z.cells (grownCap w (m+xs.length) old e-(m+xs.length))) e)) G
    (.row (.slice (some ⟨w.heap.size,0,none⟩) (m+xs.length) (grownCap w (m+xs.length) old e)) sz (ls++Zh xs)::h2) /\
   YZ w G (.row v.v sz ls::h2) (w.drew.alloc (.cells (olds.toArray++news.toArray++Builtin.zeroCells z.cells (grownCap w (m+xs.length) old e-(m+xs.length))) e)) G
    (.row (.slice (some ⟨w.heap.size,0,none⟩) (m+xs.length) (grownCap w (m+xs.length) old e)) sz (ls++Zh xs)::h2):=by
  intro olds news old ho hn
  have Xr:=grownCap_ge w (m+xs.length) old e
  have hol:=ho.length
  have hnl:=hn.length
  have hlen:(ls++Zh xs).length=(m+xs.length)*sz:=by rw [Yq,hm0,hfl,Kb]
  obtain ⟨j1,j2⟩:=hh.drew.alloc_rrow (olds.toArray++news.toArray++Builtin.zeroCells z.cells (grownCap w (m+xs.length) old e-(m+xs.length))) e
   (ls:=ls++Zh xs) (len:=m+xs.length) (cap:=grownCap w (m+xs.length) old e) (k:=sz) Xr
   (by
    have q2:(grownCap w (m+xs.length) old e-(m+xs.length))*sz=grownCap w (m+xs.length) old e*sz-(m+xs.length)*sz:=Nat.sub_mul ..
    have q3:(m+xs.length)*sz<=grownCap w (m+xs.length) old e*sz:=Kq _ Xr
    have q4:(m+xs.length)*sz=m*sz+xs.length*sz:=Kb ..
    simp only [Array.size_append,DT,size_zeroCells,hzs,hol,hnl,hm0,hfl]
    omega) hlen
   (by
    have:(olds.toArray++news.toArray++Builtin.zeroCells z.cells (grownCap w (m+xs.length) old e-(m+xs.length))).toList.take ((m+xs.length)*sz)=olds++news:=by
     simp only [DS]
     rw [<-hlen,Yq,<-hol,<-hnl,<-Yq]
     exact AA
    rw [this]
    exact (ho.append hn).mono (Bu w G))
  exact ⟨j1.sub (hsub2 _),(YZ.drew w G _).trans (j2.sub' (hsub2 _))⟩
 generalize hax:a.eval x=ax at v2 finish
 cases v2 with
 | nil _=>exact absurd rfl hne
 | sl hq hcc hm=>
  rename_i b o' k' c
  have hpos:0<xs.length:=Fy.2 hne
  have hfm:=hm.flat_mem
  obtain ⟨news,hn,hnc⟩:=hfm.cells
  have hnl:news.length=xs.length*i.size:=by rw [hn.length,hfl,hk1]
  have hone':=hn.one_cells hone
  have hnews:∀j u,news[j]? = some u->w.cell? ((⟨b,o',none⟩:Addr).add j)=some u:=fun j u hj=>by rw [Jn];exact (hnc j u hj).1
  have hbb:(m+xs.length)*i.bytes<=140737488355328:=by
   have:=Nat.mul_le_mul hbound hby
   omega
  rcases hrow0 with ⟨hv0,hl0⟩|⟨g,len,cap,cur,el,hv0,hrow,hlc,hcur,hll,hcells⟩
  ·subst hl0
   have hm1:m=0:=by
    have:m*sz=0:=by simpa using hm0.symm
    rcases Nat.mul_eq_zero.1 this with h|h
    ·exact h
    ·omega
   subst hm1
   rw [hv0] at finish hh ⊢
   have hr:=run_append_nil (P:=P) w t type e i z ht hinfo hz ⟨b,o',none⟩ xs.length c news hnl hnews hpos om (by simp only [Vy] at hbb;omega)
   obtain ⟨j1,j2⟩:=grown [] news 0 .nil hn
   simp only [Vy,Array.empty_append,Bl] at j1 j2
   rw [hv0] at j2
   exact finish ⟨some ⟨w.heap.size,0,none⟩,xs.length,grownCap w xs.length 0 e⟩ _ hr (by simpa using j1) (by simpa using j2)
  ·have hlm:len=m:=HT hk0 (hll.symm.trans hm0)
   subst hlm
   rw [hv0] at finish hh ⊢
   have q5:len*sz<=cap*sz:=Kq _ hlc
   have h1:(cur.toList.take (len*sz)).length=len*sz:=by rw [WY,Jj,hcur,UD q5]
   have hcl:cur.toList.length=cap*sz:=by rw [Jj,hcur]
   by_cases hroom:len+xs.length<=cap
   ·have q1:(len+xs.length)*sz<=cap*sz:=Kq _ hroom
    have q2:(len+xs.length)*sz=len*sz+xs.length*sz:=Kb ..
    have hfit:len*i.size+news.length<=cur.size:=by rw [hnl,hcur,hk1];omega
    have hr:=Hl (P:=P) w t type e el i ht hinfo g len cap cur hrow ⟨b,o',none⟩ xs.length c news hnl hnews hone' hroom hfit
    rw [hk1] at hr
    have hnl':news.length=xs.length*sz:=by rw [hnl,hk1]
    obtain ⟨j1,j2⟩:=hh.rgrow (ls':=ls++Zh xs) (len':=len+xs.length) (cs':=(cur.toList.take (len*sz)++news++cur.toList.drop (len*sz+news.length)).toArray) hrow
     (by simp only [DT,Yq,h1,hnl',Bk,hcl,hcur];omega) hroom hcur (by rw [Yq,hll,hfl,q2]) (by
      have:(cur.toList.take (len*sz)++news++cur.toList.drop (len*sz+news.length)).toArray.toList.take ((len+xs.length)*sz)=cur.toList.take (len*sz)++news:=by
       rw [DU,q2,<-hnl']
       conv=>lhs;arg 1;rw [show len*sz+news.length=(cur.toList.take (len*sz)++news).length from by rw [Yq,h1]]
       exact AA
      rw [this]
      exact hcells.append hn)
    exact finish ⟨some ⟨g,0,none⟩,len+xs.length,cap⟩ _ hr j1 j2
   ·have hr:=run_append_grow (P:=P) w t type e i z ht hinfo hz ⟨g,0,none⟩ len cap (cur.toList.take (len*sz)) (by rw [hk1];exact h1) (fun j u hj=>by
     rw [Jn,cell_of_row w g _ cur el (0,0) hrow]
     rw [Ql] at hj
     split at hj
     ·simpa using hj
     ·cases hj) ⟨b,o',none⟩ xs.length c news hnl hnews om om (growslice_fits om hbb)
    obtain ⟨j1,j2⟩:=grown (cur.toList.take (len*sz)) news cap hcells hn
    rw [hv0] at j2
    exact finish ⟨some ⟨w.heap.size,0,none⟩,len+xs.length,grownCap w (len+xs.length) cap e⟩ _ hr j1 j2
end
section
variable {P:Program} {n:Nat} {ops:Array Oper} {B:Fr->List Res->Prop} {k:Nat} {F:Fr} {h:List Res}
theorem GF (j m:Nat) (v:Hd) (sz:Nat) (ls xs:List AV) (hx:Option Value) (hm0:ls.length=m*sz) (hxs:∀y∈xs,y.leaves.length=sz) (hone:(Zh xs).all AV.one=true) (hne:xs≠[]) (hbound:m+xs.length<=4294967296)
  (hK:∀v':Hd,SI P n ops B (k+1) (F.put (ZD ops k).dst (.h v')) (rK v' sz (ls++Zh xs)::XR [j] h)) (hk0:0<sz:=by omega)
  (hk:Xi n ops F k=true:=by kernel_rfl) (ha:T0 P ops F k=some (.h v,.sl xs hx,sz):=by kernel_rfl) (hp:Wu [j] h=some [rK v sz ls]:=by kernel_rfl):SI P n ops B k F h:=
 Qf hk (WO.perm (UK (VS hp)) (So (U7 hk).2.1 ha hxs hone hm0 hk0 hne hbound hK))
end
end Go.Abs
namespace Go.Abs
section
variable {P:Program} {n:Nat} {ops:Array Oper} {B:Fr->List Res->Prop} {T:List (Nat × List Nat)} {fuel:Nat} {done:List Nat} {F:Fr} {h:List Res}
theorem Oh (i j m:Nat) (js bs:List Nat) (v:Hd) (sz:Nat) (ls xs:List AV) (hx:Option Value) (hm0:ls.length=m*sz) (hxs:∀y∈xs,y.leaves.length=sz) (hone:(Zh xs).all AV.one=true) (hne:xs≠[]) (hbound:m+xs.length<=4294967296)
  (hK:∀v':Hd,YY P n ops B (T.filter fun t=>!Vg ops i t.1) fuel (done++[i]) (F.put (ZD ops i).dst (.h v')) (rK v' sz (ls++Zh xs)::XR [j] h)) (hk0:0<sz:=by omega) (hk:Xi n ops F i=true:=by kernel_rfl)
  (ha:T0 P ops F i=some (.h v,.sl xs hx,sz):=by kernel_rfl) (hp:Wu [j] h=some [rK v sz ls]:=by kernel_rfl) (ho:Us ops i T=bs:=by kernel_rfl)
  (hj:js.map (fun q=>(WT (XR [j] h))[q]?)=bs.map some:=by kernel_rfl):VM P n ops B T fuel done F h i:=
 J4 [j] js bs hk (VS hp) ho hj (So (h2:=[]) (U7 hk).2.1 ha hxs hone hm0 hk0 hne hbound hK)
end
end Go.Abs
namespace Go.Abs
section
variable {h:List Res}
theorem Zke (j i p:Nat) {u:Value} {kk b:Nat} {es ls:List AV} (hp:Wu [j,i] h=some [.row u kk (Zh es),.obj b ls]) (hes:∀y∈es,y.leaves.length=kk) (hk:0<kk) (hl:ls[p]? = some (.val u)) :
  TD h (.obj b (ls.set p (.sl es (some u)))::.tail u kk::XR [j,i] h):=by
 intro w G hh
 have hp':=UK (VS hp)
 have hh':=hh.perm hp'
 obtain ⟨G',h1,h2',h3⟩:=CM (h2:=.obj b ls::XR [j,i] h) hh' hes hk
 have e:=h2'.perm hp'.symm (K9 _)
 have h1:Yx w G' (.tail u kk::.obj b ls::XR [j,i] h):=h1
 have perm:(Res.tail u kk::.obj b ls::XR [j,i] h).Perm (.obj b ls::.tail u kk::XR [j,i] h):=List.Perm.swap ..
 have h4:=h1.perm perm
 have e4:=e.perm (K9 _) perm
 have hset:∀{w:World} {G:Yd},RV w G (.sl es (some u)) u->QH w G (.obj b ls)->QH w G (.obj b (ls.set p (.sl es (some u)))):=by
  intro w G hu hr
  obtain ⟨cs,el,k1,k5⟩:=hr
  refine ⟨cs,el,k1,?_⟩
  obtain ⟨c,c1,c2⟩:=k5.get p _ hl
  have:=c2.val_inv
  subst this
  have h6:=k5.set p hu
  rwa [show cs.toList.set p c=cs.toList from by
   apply List.ext_getElem?
   intro q
   rw [List.getElem?_set]
   split
   ·rename_i hq;subst hq;split
    ·exact c1.symm
    ·rename_i hq2;rw [Bj om]
   ·rfl] at h6
 refine ⟨G',⟨fun r hr=>?_,?_,fun r hr=>?_,h4.lt⟩,⟨e4.os,e4.tape,e4.output,e4.size,e4.sub,e4.same,e4.newG,fun b' o hb ⟨r,hr,hf⟩=>e4.newfp b' o hb ?_⟩⟩
 ·rcases YH.1 hr with rfl|hr
  ·exact hset h3 (h4.ok _ (Xd ..))
  ·exact h4.ok r (Xp _ hr)
 ·have:=Vn.1 h4.apart
  exact Vn.2 ⟨fun r hr b' o f1 f2=>this.1 r hr b' o f1 f2,this.2⟩
 ·rcases YH.1 hr with rfl|hr
  ·exact fun b' o f1 hg=>h4.prot (.obj b ls) (Xd ..) b' o f1 hg
  ·exact h4.prot r (Xp _ hr)
 ·rcases YH.1 hr with rfl|hr
  ·exact ⟨.obj b ls,Xd ..,hf⟩
  ·exact ⟨r,Xp _ hr,hf⟩
theorem Q5 (j i p:Nat) (u:Value) (kk b:Nat) (es ls:List AV) (hes:∀y∈es,y.leaves.length=kk) (hl:ls[p]? = some (.val u)) (hk:0<kk:=by omega) (hp:Wu [j,i] h=some [.row u kk (Zh es),.obj b ls]:=by kernel_rfl) :
  TD h (.obj b (ls.set p (.sl es (some u)))::.tail u kk::XR [j,i] h):=Zke j i p hp hes hk hl
end
end Go.Abs
namespace Go.Abs
section
variable {P:Program} {n:Nat} {ops:Array Oper} {k:Nat} {F:Fr} {h:List Res}
theorem Zjo (j:Nat) {g l c m kk:Nat} {ls:List AV} (hi:DM P ops F k=some (.val (.slice (some ⟨g,0,none⟩) l c),(m:Int))) (hj:h[j]? = some (.row (.slice (some ⟨g,0,none⟩) l c) kk ls)) (hle:m<=l) :
  XB P (ZD ops k) F h [] (.val (.slice (some ⟨g,0,none⟩) m c)):=by
 unfold DM at hi
 generalize hoo:ZD ops k=o at hi
 obtain ⟨dst,op,type,pos,after,guard⟩:=o
 cases op<;>simp only at hi<;>try (cases hi)
 rename_i t x lo hi' mx
 cases lo with
 | some _=>simp at hi
 | none=>
  cases hi' with
  | none=>simp at hi
  | some y=>
   cases mx with
   | some _=>simp at hi
   | none=>
    simp only at hi
    split at hi
    ·rename_i e ht
     split at hi
     ·rename_i inf hinf
      split at hi
      ·rename_i ik m' hm
       simp only [Wo,Prod.mk.injEq] at hi
       obtain ⟨hx,rfl⟩:=hi
       intro n w G a hF hh
       have v1:=hF.ev x
       rw [hx] at v1
       have v1:=v1.val_inv
       have v2:=hF.ev y
       rw [hm] at v2
       have v2:=v2.val_inv
       have hcap:l<=c:=by
        rcases hh.ok _ (Y4 hj) with ⟨h0,_⟩|⟨g',l',c',cur,el,h0,_,hc,_⟩
        ·cases h0
        ·cases h0;exact hc
       refine ⟨_,.val,fun w' _ _=>?_⟩
       simp only [execOp,v1,v2,C9,Option.map_none]
       refine Vm ?_
       simp only [Instr.sliceAt,Sem.run_bind,VK ht,Result.andThen_ok,Instr.slice]
       have hmm:(Instr.sliceBounds true l c none (some (.int ik (m:Int))) none).run P w'=.ok (0,m,c) w':=by
        have Zz:=fun q=>DK (P:=P) (c:=q) (v:=.int ik (m:Int)) (y:=c) rfl om om w'
        simp [Instr.sliceBounds,Zz]
       rw [hmm]
       have hz:∀a:Addr,a.add 0=a:=fun a=>by simp [Addr.add]
       simp only [Result.andThen_ok,K7 hinf,Nat.zero_mul,hz]
       by_cases h0:c=0<;>simp [h0]
      ·cases hi
     ·cases hi
    ·cases hi
theorem Ly (j g l c m kk:Nat) (ls:List AV) (hle:m<=l:=by omega) (hi:DM P ops F k=some (.val (.slice (some ⟨g,0,none⟩) l c),(m:Int)):=by kernel_rfl) (hj:h[j]? = some (.row (.slice (some ⟨g,0,none⟩) l c) kk ls):=by kernel_rfl) :
  XB P (ZD ops k) F h [] (.val (.slice (some ⟨g,0,none⟩) m c)):=Zjo j hi hj hle
variable {B:Fr->List Res->Prop}
end
end Go.Abs
end
namespace Go.Abs
theorem Y5 {α:Type} {xs:List α} {k:Nat} {x:α} (h:xs[k]? = some x):xs.drop k=x::xs.drop (k+1):=by
 have hk:=(Xs.1 h).1
 rw [Z34 hk]
 congr 1
 rw [Q7 hk] at h
 exact UY h
theorem Xm {α:Type} {xs:List α} {k:Nat} (h:xs.length<=k):xs.drop k=[]:=HQ h
theorem V4 {α:Type} {xs:List α} {k:Nat} {x:α} (h:xs[k]? = some x):xs.take (k+1)=xs.take k++[x]:=by
 rw [List.take_add_one,h];rfl
def YQ:List Zf->Nat
 | []=>0
 | d::ds=>d.cons.length+YQ ds
theorem Ea (xs ys:List Zf):YQ (xs++ys)=YQ xs+YQ ys:=by
 induction xs with
 | nil=>simp [YQ]
 | cons d ds ih=>simp [YQ,ih];omega
structure Wp (ds:List Zf):Prop where
 len:ds.length<=4
 cons:∀d∈ds,d.cons.length<=3
 fields:∀d∈ds,∀c∈d.cons,c.fields.length<=3
theorem Z62 {ds:List Zf} {m:Nat} (h:∀d∈ds,d.cons.length<=m):YQ ds<=ds.length*m:=by
 induction ds with
 | nil=>simp [YQ]
 | cons d ds ih=>
  have h1:=h d (by simp)
  have h2:=ih (fun x hx=>h x (by simp [hx]))
  simp only [YQ,X5,Kb];omega
theorem Wp.sum {ds:List Zf} (h:Wp ds):YQ ds<=12:=by
 have:=Z62 h.cons
 have:=h.len
 have:ds.length*3<=4*3:=Kq 3 h.len
 omega
theorem Wp.take {ds:List Zf} (h:Wp ds) (k:Nat):Wp (ds.take k):=
 ⟨by have:=h.len;simp;omega,fun d hd=>h.cons d (TB hd),fun d hd=>h.fields d (TB hd)⟩
theorem Wp.cons_at {ds:List Zf} (h:Wp ds) {k:Nat} {d:Zf} (hd:ds[k]? = some d):d.cons.length<=3:=h.cons d (Y4 hd)
theorem Wp.fields_at {ds:List Zf} (h:Wp ds) {k j:Nat} {d:Zf} {c:Yg} (hd:ds[k]? = some d) (hc:d.cons[j]? = some c):c.fields.length<=3:=
 h.fields d (Y4 hd) c (Y4 hc)
def TG (c:Int):List Zf->Nat->Nat->Int × LI
 | [],_,_=>(-1,[])
 | d::ds,i,first=>
  if (first:Int)<=c/\c<=((first+d.cons.length:Nat):Int)-1 then ((i:Int)+1,(d.cons[(c-first).toNat]?.map (·.fields)).getD []) else TG c ds (i+1) (first+d.cons.length)
def Wk (ds:List Zf) (c:Int):Int:=(TG c ds 0 0).1
def ZX (ds:List Zf) (c:Int):LI:=(TG c ds 0 0).2
theorem Im {c:Int}:∀{ds:List Zf} {i first:Nat},(TG c ds i first=(-1,[]) ∨
  ∃k d x,ds[k]? = some d/\(first+YQ (ds.take k):Int)<=c/\c<first+YQ (ds.take k)+d.cons.length/\d.cons[(c-(first+YQ (ds.take k))).toNat]? = some x/\TG c ds i first=((i:Int)+k+1,x.fields))
 | [],_,_=>.inl rfl
 | d::ds,i,first=>by
  rw [TG]
  split
  ·rename_i h
   have hlt:(c-first).toNat<d.cons.length:=by omega
   refine .inr ⟨0,d,d.cons[(c-first).toNat],rfl,by simp [YQ];omega,by simp [YQ];omega,?_,?_⟩
   ·simp [YQ]
   ·rw [Q7 hlt];simp
  ·rcases Im (c:=c) (ds:=ds) (i:=i+1) (first:=first+d.cons.length) with h|⟨k,e,x,h1,h2,h3,h4,h5⟩
   ·exact .inl h
   ·refine .inr ⟨k+1,e,x,by simpa using h1,by simp [YQ];omega,by simp [YQ];omega,?_,?_⟩
    ·rw [<-h4];congr 3;simp [YQ];omega
    ·rw [h5];congr 1;omega
theorem In {ds:List Zf} {c:Int} (h:¬Wk ds c<1) :
  ∃k d x,ds[k]? = some d/\(YQ (ds.take k):Int)<=c/\d.cons[(c-YQ (ds.take k)).toNat]? = some x/\Wk ds c=(k:Int)+1/\ZX ds c=x.fields:=by
 rcases Im (c:=c) (ds:=ds) (i:=0) (first:=0) with h1|⟨k,d,x,h1,h2,_,h4,h5⟩
 ·simp [Wk,h1] at h
 ·exact ⟨k,d,x,h1,by simpa using h2,by simpa using h4,by simp [Wk,h5],by simp [ZX,h5]⟩
theorem FU {ds:List Zf} {c:Int} (h:Wk ds c<1):ZX ds c=[]/\Wk ds c=-1:=by
 rcases Im (c:=c) (ds:=ds) (i:=0) (first:=0) with h1|⟨k,d,x,h1,h2,_,h4,h5⟩
 ·simp [ZX,Wk,h1]
 ·simp [Wk,h5] at h;omega
def VR (first:Int):Nat->LI
 | 0=>[]
 | n+1=>first::VR (first+1) n
theorem Sb (first:Int) (n:Nat):VR first (n+1)=VR first n++[first+n]:=by
 induction n generalizing first with
 | zero=>simp [VR]
 | succ n ih=>rw [VR,ih (first+1),VR];simp;omega
@[simp] theorem Sa (first:Int) (n:Nat):(VR first n).length=n:=by
 induction n generalizing first with
 | zero=>rfl
 | succ n ih=>simp [VR,ih]
def ZV (ds:List Zf) (t:Int):LI:=
 if 1<=t/\t<=ds.length then VR (YQ (ds.take (t-1).toNat)) (((ds[(t-1).toNat]?).map (·.cons.length)).getD 0) else []
def KY (frm to_:Int):List Zf->Nat->Int
 | [],_=>-1
 | d::ds,i=>if d.cons.length=0/\d.frm=frm/\d.to_=to_ then (i:Int)+1 else KY frm to_ ds (i+1)
def UE (ds:List Zf) (frm to_:Int):Int:=KY frm to_ ds 0
def XX (ds:List Zf) (t:Int):Bool:=decide (1<=t/\t<=ds.length)&&((ds[(t-1).toNat]?).map fun d=>decide (d.cons.length=0)).getD false
theorem GQ {ds:List Zf} {t:Int} {x:Zf} (h:1<=t/\t<=ds.length) (hx:ds[(t-1).toNat]? = some x):((x.cons.length:Int)==0)=XX ds t:=by
 rw [XX,hx,XM];simp [h]
theorem Lv {ds:List Zf} {t:Int} (h:¬(1<=t/\t<=ds.length)):false=XX ds t:=by
 rw [XX,XM];simp only [Bool.false_eq_true,W9,decide_eq_true_eq,h,false_and]
def Wr (m:Nat) (xs:LI):Bool:=xs.all fun t=>decide (0<=t/\t<=m)
end Go.Abs
section
namespace Go.Abs
section
variable {h:List Res}
end
end Go.Abs
namespace Go.Abs
section
variable {P:Program} {ops:Array Oper} {k:Nat} {F:Fr} {h:List Res}
end
end Go.Abs
end
namespace Go.Abs
section
variable {P:Program} {n:Nat} {ops:Array Oper} {B:Fr->List Res->Prop} {k:Nat} {F:Fr} {h:List Res} {T:List (Nat × List Nat)} {fuel:Nat} {done:List Nat}
theorem Sp {K:Fr->List Res->Prop} {ls:List AV} {len sz:Nat} (hd:VO n (ZD ops k)=true) (ha:Q3 P ops F k=some (ls,len,sz)) (hlen:ls.length=len*sz)
  (hK:∀g,K (F.put (ZD ops k).dst (.val (.slice (some ⟨g,0,none⟩) len len))) (.row (.slice (some ⟨g,0,none⟩) len len) sz ls::h)):WO P n (ZD ops k) F h K:=by
 unfold Q3 at ha
 generalize hoo:ZD ops k=q at ha hd hK
 obtain ⟨dst,op,type,pos,after,guard⟩:=q
 cases op<;>simp only at ha<;>try (cases ha)
 rename_i t ln parts
 split at ha
 case h_2=>cases ha
 rename_i e ht
 split at ha
 case h_2=>cases ha
 rename_i i hi
 split at ha
 case h_2=>cases ha
 rename_i hc
 simp only [W9] at hc
 split at ha
 case h_2=>cases ha
 rename_i ls' hf
 simp only [Wo,Prod.mk.injEq] at ha
 obtain ⟨rfl,rfl,Xv⟩:=ha
 intro Q w G a hF hh
 obtain ⟨cs,h1,h2⟩:=Hm hF parts ht hi rfl hc.1 hc.2 hf
 have hr:(execOp a.eval { dst:=dst,op:=.buildSlice t ln parts,type:=type,pos:=pos,after:=after,guard:=guard }).run P w =
   .ok (.value (.slice (some ⟨w.heap.size,0,none⟩) ln ln)) (w.alloc (.cells cs e)):=by
  simp only [execOp]
  exact Vm h2
 unfold Oper.wp
 rw [hr]
 have hlc:=h1.length
 simp only [Jj] at hlc
 obtain ⟨j1,j2⟩:=hh.alloc_rrow cs e (ls:=ls') (len:=ln) (cap:=ln) (k:=sz) (X6 _) (by rw [hlc];exact hlen) hlen (by rw [<-hlen,<-hlc];simpa [Vx] using h1)
 exact ⟨_,_,G,hK _,(hF.mono (j2.agree hh)).put (Tm hd) .val,j1,j2⟩
theorem TN (es es':List AV) (he:es=es') (len sz:Nat) (hK:∀v,SI P n ops B (k+1) (F.put (ZD ops k).dst (.sl es' (some v))) (.tail v sz::h)) (hk:Xi n ops F k=true:=by kernel_rfl)
  (ha:Q3 P ops F k=some (Zh es,len,sz):=by kernel_rfl) (hlen:es.length=len:=by kernel_rfl) (hall:AJ es sz=true:=by kernel_rfl):SI P n ops B k F h:=by
 subst he;exact iL es len sz hK hk ha hlen hall
theorem WU (i:Nat) (js bs:List Nat) (es es':List AV) (he:es=es') (len sz:Nat) (hK:∀v,YY P n ops B (T.filter fun t=>!Vg ops i t.1) fuel (done++[i]) (F.put (ZD ops i).dst (.sl es' (some v))) (.tail v sz::h))
  (hk:Xi n ops F i=true:=by kernel_rfl) (ha:Q3 P ops F i=some (Zh es,len,sz):=by kernel_rfl) (hlen:es.length=len:=by kernel_rfl) (hall:AJ es sz=true:=by kernel_rfl)
  (ho:Us ops i T=bs:=by kernel_rfl) (hj:js.map (fun j=>(WT h)[j]?)=bs.map some:=by kernel_rfl):VM P n ops B T fuel done F h i:=by
 subst he;exact dL i js bs es len sz hK hk ha hlen hall ho hj
theorem iKN (ls:List AV) (len sz:Nat) (hK:∀g,SI P n ops B (k+1) (F.put (ZD ops k).dst (.val (.slice (some ⟨g,0,none⟩) len len))) (.row (.slice (some ⟨g,0,none⟩) len len) sz ls::h)) (hlen:ls.length=len*sz:=by rfl) (hk:Xi n ops F k=true:=by kernel_rfl)
  (ha:Q3 P ops F k=some (ls,len,sz):=by kernel_rfl):SI P n ops B k F h:=Qf hk (Sp (U7 hk).2.1 ha hlen hK)
theorem dKN (i:Nat) (js bs:List Nat) (ls:List AV) (len sz:Nat) (hK:∀g,YY P n ops B (T.filter fun t=>!Vg ops i t.1) fuel (done++[i]) (F.put (ZD ops i).dst (.val (.slice (some ⟨g,0,none⟩) len len))) (.row (.slice (some ⟨g,0,none⟩) len len) sz ls::h)) (hlen:ls.length=len*sz:=by rfl)
  (hk:Xi n ops F i=true:=by kernel_rfl) (ha:Q3 P ops F i=some (ls,len,sz):=by kernel_rfl) (ho:Us ops i T=bs:=by kernel_rfl) (hj:js.map (fun j=>(WT h)[j]?)=bs.map some:=by kernel_rfl):VM P n ops B T fuel done F h i:=
 J4 (h1:=[]) (h2:=h) [] js bs hk rfl ho hj (Sp (U7 hk).2.1 ha hlen hK)
end
theorem WD.frz {P:Program} {f:FuncId} {as1:List AV} {h0:List Res} {E:Type} {kk:Nat} {es:E->List AV} {hs:E->List Res} {Q:E->Prop} (H:WD P f as1 h0 (fun r h=>∃(e:E) (v:Hd),r=.h v/\h=rK v kk (Zh (es e))::hs e/\Q e)) (hes:∀e,∀y∈es e,y.leaves.length=kk) (hk:0<kk) :
  WD P f as1 h0 (fun r h=>∃(e:E) (v:Value),r=.sl (es e) (some v)/\h=.tail v kk::hs e/\Q e):=by
 intro w G vs hv hh
 refine (H w G vs hv hh).mono ?_
 rintro e w' ⟨u,r,h',G',he,⟨x,v,rfl,rfl,hq⟩,hr,hh',hx⟩
 obtain ⟨G2,h1,h2,h3⟩:=CM hh' (hes x) hk
 have hrv:=hr.val_inv
 subst hrv
 exact ⟨_,_,_,G2,he,⟨x,v.v,rfl,rfl,hq⟩,h3,h1,hx.trans h2⟩
theorem Gm {es:List AV} {sz k:Nat} {y:AV} (h:∀x∈es,x.leaves.length=sz) (hy:y.leaves.length=sz) (hk:k<es.length):(Zh es).take (k*sz)++y.leaves++(Zh es).drop (k*sz+y.leaves.length)=Zh (es.set k y):=by
 obtain ⟨x,hx⟩:=QQ (xs:=es) (j:=k) hk
 have hxl:=h x (Y4 hx)
 have e1:es=es.take k++(x::es.drop (k+1)):=by rw [<-Y5 hx,UW]
 have e2:es.set k y=es.take k++(y::es.drop (k+1)):=by rw [Fz,Zd hk]
 have hl:(Zh (es.take k)).length=k*sz:=by rw [T5 (k:=sz) _ (fun z hz=>h z (TB hz)),WY,UD om]
 have e3:Zh es=Zh (es.take k)++(x.leaves++Zh (es.drop (k+1))):=by
  conv=>lhs;rw [e1,UQ]
  simp [Zh]
 rw [e2,UQ,e3,F3 hl (by rw [hxl,hy])]
 simp [Zh]
theorem Z7c (ds:List Zf) (k:Nat) (d:Zf):YB (ds.set k d)=(YB ds).set k (AH d):=by simp [YB,List.map_set]
theorem Cu (xs:List Zf):(Zh (YB xs)).length=xs.length*3:=by rw [T5 (k:=3) _ (J5 xs)];simp
theorem Gj {ds:List Zf} {k:Nat} (d:Zf) (hk:k<ds.length):(Zh (YB ds)).take (k*3)++Q2 d++(Zh (YB ds)).drop (k*3+3)=Zh (YB (ds.set k d)):=by
 rw [Z7c];exact Gm (y:=AH d) (J5 ds) rfl (by simpa using hk)
theorem L0 (xs ys:List Zf):Zh (YB xs)++Zh (YB ys)=Zh (YB (xs++ys)):=by rw [Z7a,UQ]
section
variable {P:Program} {n:Nat} {ops:Array Oper} {B:Fr->List Res->Prop} {k:Nat} {F:Fr} {h:List Res}
theorem GC (j m:Nat) {v:Hd} {kk:Nat} {ls:List AV} (hm:ls.length=m*kk) (h0:0<m) (H:∀g c',v=⟨some ⟨g,0,none⟩,m,c'⟩->SI P n ops B k F h) (hk:0<kk:=by omega) (hj:h[j]? = some (rK v kk ls):=by kernel_rfl):SI P n ops B k F h:=by
 intro Q w G a hF hh hq
 obtain ⟨g,c',e⟩:=Z08 (hh.ok _ (Y4 hj)) hm hk h0
 exact H g c' e Q w G a hF hh hq
end
section
variable {P:Program} {n:Nat} {ops:Array Oper} {B:Fr->List Res->Prop} {k:Nat} {F:Fr} {h:List Res}
def Ip (P:Program) (ops:Array Oper) (F:Fr) (k:Nat):Option (IntKind × Int):=
 match (ZD ops k).op with
 | .convert s d x=>match P.underlying s,P.underlying d,F.ev x with
  | some (.int _),some (.int q),.val (.int _ z)=>some (q,z)
  | _,_,_=>none
 | _=>none
theorem kCv (q:IntKind) (z z':Int) (e:q.wrap z=z') (hc:Ip P ops F k=some (q,z):=by kernel_rfl):XB P (ZD ops k) F h [] (.val (.int q z')):=by
 unfold Ip at hc
 generalize hoo:ZD ops k=o at hc
 obtain ⟨dst,op,type,pos,after,guard⟩:=o
 cases op<;>simp only at hc<;>try (cases hc)
 rename_i s d x
 split at hc
 ·rename_i q1 q2 q3 z2 h1 h2 h3
  cases hc
  intro n w G ac hF hh
  have v1:=hF.ev x
  rw [h3] at v1
  have v1:=v1.val_inv
  refine ⟨_,.val,fun w' _ _=>?_⟩
  simp only [execOp,v1]
  refine Vm ?_
  simp [convert,VK h1,VK h2,Conv.intToInt,e]
 ·cases hc
theorem N6 {z:Int} (h:0<=z/\z<=9223372036854775807):IntKind.i64.wrap z=z:=IntWalk.i64_in _ om
theorem Dv (z:Int) (hz:0<=z/\z<=255) (hc:Ip P ops F k=some (.i64,z):=by kernel_rfl):XB P (ZD ops k) F h [] (.i z):=kCv .i64 z z (N6 om) hc
def Bw (ops:Array Oper) (F:Fr) (k:Nat) (b:BinOp):Option (Int × Int):=
 match (ZD ops k).op with
 | .binOp c _ x y _=>if c==b then match F.ev x,F.ev y with
  | .val (.int .i64 z),.val (.int .i64 u)=>some (z,u)
  | _,_=>none else none
 | _=>none
theorem Lz (a b:Int) (hb:0<b) (ha:0<=a/\a<=9223372036854775807) (hc:Bw ops F k .quo=some (a,b):=by kernel_rfl):XB P (ZD ops k) F h [] (.i (a / b)):=by
 unfold Bw at hc
 generalize hoo:ZD ops k=o at hc
 obtain ⟨dst,op,type,pos,after,guard⟩:=o
 cases op<;>simp only at hc<;>try (cases hc)
 rename_i bop t x y yt
 cases bop<;>simp only [Zr,reduceCtorEq,if_false,if_true] at hc<;>try (cases hc)
 split at hc
 ·rename_i z yk h1 h2
  cases hc
  intro n' w G ac hF hh
  have v1:=hF.ev x
  have v2:=hF.ev y
  rw [h1] at v1
  rw [h2] at v2
  have v1:=v1.val_inv
  have v2:=v2.val_inv
  refine ⟨_,.val,fun w' _ _=>?_⟩
  simp only [execOp,v1,v2]
  refine Vm ?_
  have e1:a.tdiv b=a / b:=Int.tdiv_eq_ediv_of_nonneg ha.1
  have e2:IntKind.i64.wrap (a / b)=a / b:=N6 ⟨Int.ediv_nonneg ha.1 om,Int.le_trans (Int.ediv_le_self b ha.1) ha.2⟩
  have e3:b≠0:=by omega
  simp [eqGuard,binOp,Op.intDiv,e1,e2,e3]
 ·cases hc
theorem EE (a b:Int) (hb:0<b) (ha:0<=a) (hc:Bw ops F k .rem=some (a,b):=by kernel_rfl):XB P (ZD ops k) F h [] (.i (a % b)):=by
 unfold Bw at hc
 generalize hoo:ZD ops k=o at hc
 obtain ⟨dst,op,type,pos,after,guard⟩:=o
 cases op<;>simp only at hc<;>try (cases hc)
 rename_i bop t x y yt
 cases bop<;>simp only [Zr,reduceCtorEq,if_false,if_true] at hc<;>try (cases hc)
 split at hc
 ·rename_i z yk h1 h2
  cases hc
  intro n' w G ac hF hh
  have v1:=hF.ev x
  have v2:=hF.ev y
  rw [h1] at v1
  rw [h2] at v2
  have v1:=v1.val_inv
  have v2:=v2.val_inv
  refine ⟨_,.val,fun w' _ _=>?_⟩
  simp only [execOp,v1,v2]
  refine Vm ?_
  have e1:a.tmod b=a % b:=Int.tmod_eq_emod_of_nonneg ha
  have e3:b≠0:=by omega
  simp [eqGuard,binOp,Op.intDiv,e1,e3]
 ·cases hc
theorem CF (a b:Nat) (hb:0<b) (ha:a<=9223372036854775807) (hc:Bw ops F k .quo=some ((a:Int),(b:Int)):=by kernel_rfl):XB P (ZD ops k) F h [] (.i (a / b:Nat)):=by
 rw [Int.natCast_ediv];exact Lz a b om om hc
theorem GU (a b:Nat) (hb:0<b) (_ha:a<=9223372036854775807) (hc:Bw ops F k .rem=some ((a:Int),(b:Int)):=by kernel_rfl):XB P (ZD ops k) F h [] (.i (a % b:Nat)):=by
 rw [Int.natCast_emod];exact EE a b om om hc
def Bg (a b:Int):Int:=IntKind.i64.wrap ((BitVec.ofInt 64 a ^^^ BitVec.ofInt 64 b).toNat:Int)
theorem HM {a b:Int} (ha:0<=a/\a<4611686018427387904) (hb:0<=b/\b<4611686018427387904):0<=Bg a b/\Bg a b<4611686018427387904:=by
 obtain ⟨x,rfl⟩:=Int.eq_ofNat_of_zero_le ha.1
 obtain ⟨y,rfl⟩:=Int.eq_ofNat_of_zero_le hb.1
 have h1:(BitVec.ofInt 64 (x:Int) ^^^ BitVec.ofInt 64 (y:Int)).toNat=x ^^^ y:=by
  rw [BitVec.toNat_xor,BitVec.toNat_ofInt,BitVec.toNat_ofInt]
  have e1:((x:Int) % ((2 ^ 64:Nat):Int)).toNat=x:=by omega
  have e2:((y:Int) % ((2 ^ 64:Nat):Int)).toNat=y:=by omega
  rw [e1,e2]
 have h2:x ^^^ y<2 ^ 62:=Nat.xor_lt_two_pow om om
 rw [Bg,h1,N6 om]
 omega
theorem Rk (a b:Int) (hc:Bw ops F k .xor=some (a,b):=by kernel_rfl):XB P (ZD ops k) F h [] (.i (Bg a b)):=by
 unfold Bw at hc
 generalize hoo:ZD ops k=o at hc
 obtain ⟨dst,op,type,pos,after,guard⟩:=o
 cases op<;>simp only at hc<;>try (cases hc)
 rename_i bop t x y yt
 cases bop<;>simp only [Zr,reduceCtorEq,if_false,if_true] at hc<;>try (cases hc)
 split at hc
 ·rename_i z yk h1 h2
  cases hc
  intro n' w G ac hF hh
  have v1:=hF.ev x
  have v2:=hF.ev y
  rw [h1] at v1
  rw [h2] at v2
  have v1:=v1.val_inv
  have v2:=v2.val_inv
  refine ⟨_,.val,fun w' _ _=>?_⟩
  simp only [execOp,v1,v2]
  refine Vm ?_
  simp [eqGuard,binOp,Op.intBits,IntKind.bits]
  exact Yu (fun z:Nat=>IntKind.i64.wrap (z:Int)) (by rw [BitVec.toNat_xor,BitVec.toNat_ofInt,BitVec.toNat_ofInt];rfl)
 ·cases hc
end
end Go.Abs
section
namespace Go.Abs
inductive Z2 where
 | mk (op num:Int) (kids:List Z2)
namespace Z2
def op:Z2->Int|.mk a _ _=>a
def num:Z2->Int|.mk _ a _=>a
def kids:Z2->List Z2|.mk _ _ a=>a
end Z2
structure Func where
 params:LI
 result:Int
 body:Z2
structure Wh where
 decls:List Zf
 funcs:List Func
instance:Inhabited Z2:=⟨.mk 0 0 []⟩
mutual
def IE:Z2->AV
 | .mk op num kids=>.agg [.i op,.i num,.sl (Yv kids) none]
def Yv:List Z2->List AV
 | []=>[]
 | e::r=>IE e::Yv r
end
abbrev Y7 (e:Z2):AV:=.agg [.i e.op,.i e.num,.sl (Yv e.kids) none]
abbrev X4 (e:Z2):List AV:=[.i e.op,.i e.num,.sl (Yv e.kids) none]
abbrev XJ (xs:List Z2):AV:=.sl (Yv xs) none
abbrev Ki (xs:List Z2) (v:Value):AV:=.sl (Yv xs) (some v)
abbrev E0 (f:Func):AV:=.agg [Z4 f.params,.i f.result,.i f.body.op,.i f.body.num,XJ f.body.kids]
abbrev GW (f:Func):List AV:=[Z4 f.params,.i f.result,.i f.body.op,.i f.body.num,XJ f.body.kids]
def Xy (xs:List Func):List AV:=xs.map E0
abbrev H7 (xs:List Func):AV:=.sl (Xy xs) none
abbrev AI (p:Wh):AV:=.agg [ZM p.decls,H7 p.funcs]
abbrev LH (p:Wh):List AV:=[ZM p.decls,H7 p.funcs]
abbrev HX (z:Int):AV:=.val (.int .u8 z)
def Qr (xs:LI):List AV:=xs.map HX
abbrev Ur (xs:LI):AV:=.sl (Qr xs) none
theorem Z7d (e:Z2):IE e=Y7 e:=by cases e;rw [IE];rfl
theorem XZ:∀xs:List Z2,Yv xs=xs.map Y7
 | []=>by rw [Yv];rfl
 | s::ss=>by rw [Yv,XZ ss,Z7d];rfl
theorem Dg {xs:List Z2} {j:Nat} {x:Z2} (h:xs[j]? = some x):(Yv xs)[j]? = some (Y7 x):=by simp [XZ,h]
theorem G3 {xs:List Func} {j:Nat} {x:Func} (h:xs[j]? = some x):(Xy xs)[j]? = some (E0 x):=by simp [Xy,h]
theorem Dd {xs:LI} {j:Nat} {x:Int} (h:xs[j]? = some x):(Qr xs)[j]? = some (HX x):=by simp [Qr,h]
@[simp] theorem IF (xs:List Z2):(Yv xs).length=xs.length:=by simp [XZ]
@[simp] theorem Dh (xs:List Func):(Xy xs).length=xs.length:=by simp [Xy]
@[simp] theorem Js (xs:LI):(Qr xs).length=xs.length:=by simp [Qr]
theorem Al (xs ys:List Z2):Yv (xs++ys)=Yv xs++Yv ys:=by simp [XZ]
theorem Z7e (xs ys:List Func):Xy (xs++ys)=Xy xs++Xy ys:=by simp [Xy]
theorem IB (xs:LI) (n:Nat):(Qr xs).take n=Qr (xs.take n):=by simp [Qr]
theorem IA (xs:LI) (n:Nat):(Qr xs).drop n=Qr (xs.drop n):=by simp [Qr]
theorem TJ (xs:List Z2):∀y∈Yv xs,y.leaves.length=3:=by intro y hy;simp only [XZ,XG] at hy;obtain ⟨x,_,rfl⟩:=hy;rfl
theorem G4 (xs:List Func):∀y∈Xy xs,y.leaves.length=5:=by intro y hy;simp only [Xy,XG] at hy;obtain ⟨x,_,rfl⟩:=hy;rfl
theorem Z77 (xs:LI):∀y∈Qr xs,y.leaves.length=1:=by intro y hy;simp only [Qr,XG] at hy;obtain ⟨x,_,rfl⟩:=hy;rfl
theorem Am (xs:List Z2):(Zh (Yv xs)).all AV.one=true:=Jt fun y hy=>by simp only [XZ,XG] at hy;obtain ⟨x,_,rfl⟩:=hy;rfl
end Go.Abs
end
section
namespace Go.Abs
open Go.Proofs Go.Proofs.YtfjgjacklgaioaaGreat
section
variable {H:Type} {enc:TypeId × Value->H} {w:World}
def GA (w:World):Yd:=fun b _=>b<w.heap.size
abbrev Tr (enc:TypeId × Value->H) (w:World) (n:Nat) (t:TypeId) (cs:List Value) (x:DataW H × List MemPlace):Prop:=DataW.trod enc Tryz.prog w 0 (fun _=>true) true n t cs=some x
theorem RS {w:World} {a:Addr} {v:Value} (h:w.cell? a=some v):a.block<w.heap.size/\a.spot=none:=by
 unfold World.cell? at h
 split at h
 ·rename_i c e fr hb
  split at h
  ·cases h
  ·rename_i hs
   exact ⟨(Tf.1 hb).1,by simpa using hs⟩
 ·cases h
theorem NT {α:Type} {c:α->Nat}:∀{xs:List α} {ds:List (DataW H)},xs.length=ds.length->(∀(i:Nat) a d,xs[i]? = some a->ds[i]? = some d->c a+1<=Rows.uptoBulk d)->(xs.map fun a=>c a+1).sum<=Rows.uptoBulkAll ds
 | [],[],_,_=>X6 _
 | a::r,d::ds,hl,h=>by
  have h0:=h 0 a d rfl rfl
  have h1:=NT (c:=c) (xs:=r) (ds:=ds) (by simpa using hl) fun i a d ha hd=>h (i+1) a d (by simpa using ha) (by simpa using hd)
  rw [VZ,List.sum_cons,Rows.uptoBulkAll]
  omega
theorem SW {α:Type} {f:α->AV} {G:Yd} {k b:Nat} (hf:∀x,(f x).leaves.length=k):∀{xs:List α} {o:Nat},(∀(i:Nat) a,xs[i]? = some a->WE w G b (o+i*k) (f a).leaves)->Vf w G k b o (xs.map f)
 | [],_,_=>.nil
 | x::r,o,h=>by
  refine .cons (hf x) (by have:=h 0 x rfl;simpa using this) (SW hf fun i a ha=>?_)
  have:=h (i+1) a (by simpa using ha)
  rw [show o+(i+1)*k=o+k+i*k by rw [Kb];omega] at this
  exact this
theorem Zg3 {α:Type} [Inhabited α] {t e k:Nat} (ht:Tryz.prog.underlying t=some (.slice e)) (hk:Tryz.prog.cellsOf e=k) (h0:0<k) (f:α->AV) (hf:∀x,(f x).leaves.length=k) (c:α->Nat) (Q:α->Prop) {n:Nat} {cs:List Value} {x:DataW H × List MemPlace}
  (h:Tr enc w n t cs x) (el:∀m cs y,m<n->Tr enc w m e cs y->∃a:α,YW w (GA w) (f a).leaves cs/\c a+1<=Rows.uptoBulk y.1/\Q a) :
  ∃(v:Value) (xs:List α),cs=[v]/\RV w (GA w) (.sl (xs.map f) none) v/\(xs.map fun a=>c a+1).sum+1<=Rows.uptoBulk x.1/\∀a∈xs,Q a:=by
 rcases DataW.trod_slice ht h with ⟨rfl,rfl⟩|⟨a,len,cap,elems,rest,m,rfl,rfl,rfl,_,hlc,_,hlen,hel,_,_⟩
 ·exact ⟨_,[],rfl,.nil (by simp),by simp [Rows.uptoBulk],by simp⟩
 ·rw [hk] at hel
  have hone:∀i,i<len->∃z:α,∃cs' y,w.cells? 0 (a.add (i*k)) k=some cs'/\elems[i]? = some y/\YW w (GA w) (f z).leaves cs'/\c z+1<=Rows.uptoBulk y.1/\Q z:=by
   intro i hi
   have h1:=hel i hi
   rw [Q7 om] at h1
   obtain ⟨cs',h2,h3⟩:=Option.bind_eq_some_iff.1 h1
   obtain ⟨z,hz1,hz2,hz3⟩:=el m cs' _ om h3
   exact ⟨z,cs',_,h2,Q7 om,hz1,hz2,hz3⟩
  obtain ⟨V,hV⟩:=Go.Deep.choose_lt hone
  refine ⟨_,(List.range len).map V,rfl,?_,?_,?_⟩
  ·cases hl0:len with
   | zero=>exact .nil (by simp)
   | succ q=>
    have hsp:a.spot=none:=by
     obtain ⟨cs',y,g1,_⟩:=hV 0 om
     obtain ⟨_,g2,g3⟩:=World.cells?_some g1
     have g4:=g3 0 h0
     rw [Q7 om] at g4
     have g5:=(RS g4).2
     simpa [Addr.add] using g5
    obtain ⟨b,o,sp⟩:=a
    simp only at hsp
    subst hsp
    rw [<-hl0]
    have hll:(((List.range len).map V).map f).length=len:=by simp
    have:=RV.sl (w:=w) (G:=GA w) (es:=((List.range len).map V).map f) (hv:=none) (b:=b) (o:=o) (k:=k) (cap:=cap) (by simp) (by rw [hll];exact hlc) (SW hf fun i z hz=>by
     have hi:i<len:=by have:=(Xs.1 hz).1;simpa using this
     have hz':V i=z:=by simpa [hi] using hz
     obtain ⟨cs',y,g1,_,g2,_⟩:=hV i hi
     rw [hz'] at g2
     obtain ⟨_,g3,g4⟩:=World.cells?_some g1
     refine WE.of_cells g2 fun j u hj=>?_
     have hjl:j<k:=by have:=(Xs.1 hj).1;omega
     have g5:=(g4 j hjl).trans hj
     rw [Addr.add_lit,Addr.add_lit] at g5
     exact ⟨g5,(RS g5).1⟩)
    rw [hll] at this
    exact this
  ·have:=NT (c:=c) (xs:=(List.range len).map V) (ds:=elems.map (·.1)) (by simp [hlen]) fun i z d hz hd=>by
    have hi:i<len:=by have:=(Xs.1 hz).1;simpa using this
    have hz':V i=z:=by simpa [hi] using hz
    obtain ⟨cs',y,_,g1,_,g2,_⟩:=hV i hi
    rw [TA,g1] at hd
    simp only [C9,Wo] at hd
    rw [<-hd,<-hz']
    exact g2
   simp only [Rows.uptoBulk]
   omega
  ·intro z hz
   obtain ⟨i,hi,rfl⟩:=XG.1 hz
   obtain ⟨_,_,_,_,_,_,g⟩:=hV i (List.mem_range.1 hi)
   exact g
theorem Zg1 {n:Nat} {cs:List Value} {x:DataW H × List MemPlace} (h:Tr enc w n 5 cs x):∃z:Int,cs=[.int .u8 z]/\Rows.uptoBulk x.1=1/\0<=z/\z<=255:=by
 obtain ⟨z,rfl,rfl,hw⟩:=DataW.trod_int Tryz.underlying5 h
 refine ⟨z,rfl,rfl,?_⟩
 simpa [Lit.wf,IntKind.min,IntKind.max,IntKind.signed,IntKind.bits] using hw
theorem Zg2 {n:Nat} {cs:List Value} {x:DataW H × List MemPlace} (h:Tr enc w n 22 cs x):∃(v:Value) (xs:LI),cs=[v]/\RV w (GA w) (Ur xs) v/\∀z∈xs,0<=z/\z<=255:=by
 obtain ⟨v,xs,h1,h2,h3,h4⟩:=Zg3 Tryz.underlying22 (k:=1) kr om (fun z:Int=>HX z) (fun _=>rfl) (fun _=>0) (fun z=>0<=z/\z<=255) h fun m cs y _ hy=>by
  obtain ⟨z,rfl,hb,hz⟩:=Zg1 hy
  exact ⟨z,.cons .val .nil,Nat.le_of_eq hb.symm,hz⟩
 exact ⟨v,xs,h1,h2,h4⟩
end
end Go.Abs
end
namespace Go.Abs
structure Sg where
 params:LI
 result:Int
abbrev Nh (f:Sg):AV:=.agg [.sl (Z8 f.params) none,.i f.result,.i 0,.i 0,.sl [] none]
def UH (fs:List Sg):List AV:=fs.map Nh
theorem IM {xs:List Sg} {j:Nat} {x:Sg} (h:xs[j]? = some x):(UH xs)[j]? = some (Nh x):=by simp [UH,h]
@[simp] theorem OC (xs:List Sg):(UH xs).length=xs.length:=by simp [UH]
theorem OB (xs:List Sg):∀y∈UH xs,y.leaves.length=5:=by intro y hy;simp only [UH,XG] at hy;obtain ⟨x,_,rfl⟩:=hy;rfl
theorem Z7o (xs:List Sg):(Zh (UH xs)).all AV.one=true:=Jt fun y hy=>by simp only [UH,XG] at hy;obtain ⟨x,_,rfl⟩:=hy;rfl
mutual
def Z5.sz:Z5->Nat
 | .mk _ _ _ args kids=>1+args.length+Xl kids
def Z7.sz:Z7->Nat
 | .mk steps _=>1+Yk steps
def Yk:List Z5->Nat
 | []=>0
 | s::r=>s.sz+Yk r
def Xl:List Z7->Nat
 | []=>0
 | b::r=>b.sz+Xl r
end
theorem Z5.sz_pos (s:Z5):1<=s.sz:=by cases s;rw [Z5.sz];omega
theorem Z7.sz_pos (b:Z7):1<=b.sz:=by cases b;rw [Z7.sz];omega
theorem JH (l:List Z5):l.length<=Yk l:=by
 induction l with
 | nil=>simp
 | cons s r ih=>have:=s.sz_pos;simp only [X5,Yk];omega
theorem NP (l:List Z7):l.length<=Xl l:=by
 induction l with
 | nil=>simp
 | cons s r ih=>have:=s.sz_pos;simp only [X5,Xl];omega
theorem Z1p {l:List Z5} {k:Nat} {s:Z5} (h:l[k]? = some s):s.sz<=Yk l:=by
 induction l generalizing k with
 | nil=>simp at h
 | cons t r ih=>
  cases k with
  | zero=>simp at h;subst h;simp only [Yk];omega
  | succ k=>have:=ih (k:=k) (by simpa using h);simp only [Yk];omega
theorem NO {l:List Z7} {k:Nat} {s:Z7} (h:l[k]? = some s):s.sz<=Xl l:=by
 induction l generalizing k with
 | nil=>simp at h
 | cons t r ih=>
  cases k with
  | zero=>simp at h;subst h;simp only [Xl];omega
  | succ k=>have:=ih (k:=k) (by simpa using h);simp only [Xl];omega
theorem Z5.sz_eq (s:Z5):s.sz=1+s.args.length+Xl s.kids:=by cases s;rw [Z5.sz];rfl
theorem Z7.sz_eq (b:Z7):b.sz=1+Yk b.steps:=by cases b;rw [Z7.sz];rfl
theorem JK {b:Z7} {k:Nat} {s:Z5} (h:b.steps[k]? = some s):s.sz<b.sz:=by have:=Z1p h;have:=b.sz_eq;omega
theorem Tq {s:Z5} {k:Nat} {b:Z7} (h:s.kids[k]? = some b):b.sz<s.sz:=by have:=NO h;have:=s.sz_eq;omega
theorem QK (s:Z5):s.args.length<s.sz:=by have:=s.sz_eq;omega
theorem Ts (s:Z5):s.kids.length<s.sz:=by have:=s.sz_eq;have:=NP s.kids;omega
theorem Td (b:Z7):b.steps.length<b.sz:=by have:=b.sz_eq;have:=JH b.steps;omega
structure KU (ds:List Zf):Prop where
 len:ds.length<=4194304
 cons:∀d∈ds,d.cons.length<=4194304
 fields:∀d∈ds,∀c∈d.cons,c.fields.length<=4194304
theorem KU.cons_at {ds:List Zf} (h:KU ds) {k:Nat} {d:Zf} (hd:ds[k]? = some d):d.cons.length<=4194304:=h.cons d (Y4 hd)
theorem KU.fields_at {ds:List Zf} (h:KU ds) {k j:Nat} {d:Zf} {c:Yg} (hd:ds[k]? = some d) (hc:d.cons[j]? = some c):c.fields.length<=4194304:=
 h.fields d (Y4 hd) c (Y4 hc)
def JX (m:Nat) (c:Yg):Bool:=decide (c.fields.length<=3)&&Wr m c.fields
def Kv (d:Zf):List Zf->Bool
 | []=>false
 | e::r=>if e.cons.length=0/\e.frm=d.frm/\e.to_=d.to_ then true else Kv d r
def Q9 (m:Nat):List Yg->Bool
 | []=>true
 | c::r=>if JX m c=true then Q9 m r else false
def T2 (ds:List Zf) (d:Zf) (i:Nat):Bool:=
 if 0<d.cons.length then (if d.cons.length<=3/\d.frm=0/\d.to_=0 then Q9 ds.length d.cons else false)
 else if Kv d (ds.take i)=true then false else decide (0<=d.frm/\d.frm<=ds.length)&&decide (0<=d.to_/\d.to_<=ds.length)
def Cm (ds:List Zf) (i:Nat):Bool:=(ds[i]?.map fun d=>T2 ds d i).getD false
theorem Ec {ds:List Zf} {i:Nat} {d:Zf} (h:ds[i]? = some d):Cm ds i=T2 ds d i:=by rw [Cm,h];rfl
def TI (ds:List Zf):List Zf->Nat->Bool
 | [],_=>true
 | _::r,i=>if Cm ds i=true then TI ds r (i+1) else false
def V5 (ds:List Zf):Bool:=decide (ds.length<=4)&&TI ds ds 0
theorem O7 {m:Nat} {cs:List Yg}:Q9 m cs=true↔∀c∈cs,JX m c=true:=by
 induction cs with
 | nil=>simp [Q9]
 | cons c r ih=>
  rw [Q9]
  split
  ·rename_i h;simp [ih,h]
  ·rename_i h;simp [h]
theorem Ir {ds:List Zf}:∀{l:List Zf} {i:Nat},TI ds l i=true↔∀j<l.length,Cm ds (i+j)=true
 | [],i=>by simp [TI]
 | d::r,i=>by
  rw [TI]
  split
  ·rename_i h
   rw [Ir (l:=r)]
   constructor
   ·intro hq j hj
    cases j with
    | zero=>exact h
    | succ j=>have:=hq j (by simpa using hj);rwa [show i+(j+1)=i+1+j by omega]
   ·intro hq j hj
    have:=hq (j+1) (by simpa using hj)
    rwa [show i+(j+1)=i+1+j by omega] at this
  ·rename_i h
   simp only [Bool.false_eq_true,false_iff]
   intro hq
   exact h (hq 0 (by simp))
theorem Zku {ds:List Zf} (h:V5 ds=true):Wp ds:=by
 simp only [V5,W9,decide_eq_true_eq] at h
 obtain ⟨h1,h2⟩:=h
 rw [Ir] at h2
 have key:∀d∈ds,∃i,T2 ds d i=true:=fun d hd=>by
  obtain ⟨i,hi⟩:=List.mem_iff_getElem?.1 hd
  have:=h2 i (Xs.1 hi).1
  rw [Vy,Ec hi] at this
  exact ⟨i,this⟩
 have hc:∀d∈ds,0<d.cons.length->d.cons.length<=3/\Q9 ds.length d.cons=true:=fun d hd hp=>by
  obtain ⟨i,hi⟩:=key d hd
  rw [T2,Zd hp] at hi
  split at hi
  ·rename_i h;exact ⟨h.1,hi⟩
  ·cases hi
 refine ⟨h1,fun d hd=>?_,fun d hd c hc'=>?_⟩
 ·by_cases hp:0<d.cons.length
  ·exact (hc d hd hp).1
  ·omega
 ·have:=O7.1 (hc d hd (List.length_pos_of_mem hc')).2 c hc'
  simp only [JX,W9,decide_eq_true_eq] at this
  exact this.1
def Je (m:Nat) (f:Sg):Bool:=decide (f.params.length<=3)&&(Wr m f.params&&decide (0<=f.result/\f.result<=m))
def JD (m:Nat):List Sg->Bool
 | []=>true
 | f::r=>if Je m f=true then JD m r else false
def Gi:List Sg->Bool
 | []=>false
 | f::_=>decide (f.params.length=0)&&decide (f.result=0)
theorem Z88 {fs:List Sg} {x:Sg} (h:fs[0]? = some x):Gi fs=(decide (x.params.length=0)&&decide (x.result=0)):=by
 cases fs with
 | nil=>simp at h
 | cons f r=>simp at h;subst h;rfl
def Kl (ds:List Zf) (fs:List Sg):Bool:=
 V5 ds&&(decide (1<=fs.length/\fs.length<=4)&&(JD ds.length fs&&Gi fs))
def Kg (ps:LI):LI->Option Int->Bool
 | [],_=>true
 | v::r,prev=>if (0<=v/\v<=(ps.length:Int)-1)/\ps[v.toNat]?≠some 0/\(∀p,prev=some p->p<v) then Kg ps r (some v) else false
theorem LO {ps r:LI} {v:Int} {prev:Option Int} (h:(0<=v/\v<=(ps.length:Int)-1)/\ps[v.toNat]?≠some 0/\(∀p,prev=some p->p<v)):Kg ps (v::r) prev=Kg ps r (some v):=by
 rw [Kg,Zd h]
theorem H3 {ps r:LI} {v:Int} {prev:Option Int} (h:¬((0<=v/\v<=(ps.length:Int)-1)/\ps[v.toNat]?≠some 0/\(∀p,prev=some p->p<v))):Kg ps (v::r) prev=false:=by
 rw [Kg,Z6 h]
def JP (ps ls:LI):Bool:=Kg ps ls none
def K1:List Yb->Bool
 | []=>true
 | r::rs=>if JP r.params r.lent=true then K1 rs else false
def Uk (r:Yb):Sg:=⟨r.params,r.result⟩
def VC (n:Zl):Bool:=decide (n.routines.length<=4)&&(Kl n.decls (n.routines.map Uk)&&K1 n.routines)
end Go.Abs
section
namespace Go.Abs
def Xc {α:Type} (xs:List α) (i:Int):Option α:=if 0<=i/\i<=(xs.length:Int)-1 then xs[i.toNat]? else none
theorem Q8 {α:Type} {xs:List α} {i:Int} {x:α} (h:0<=i/\i<=(xs.length:Int)-1) (hx:xs[i.toNat]? = some x):Xc xs i=some x:=by rw [Xc,Zd h,hx]
theorem KZ {α:Type} {xs:List α} {i:Int} (h:¬(0<=i/\i<=(xs.length:Int)-1)):Xc xs i=none:=by rw [Xc,Z6 h]
theorem J0 {α:Type} {xs:List α} {i:Int} {x:α} (h:Xc xs i=some x):(0<=i/\i<=(xs.length:Int)-1)/\xs[i.toNat]? = some x:=by
 rw [Xc] at h
 split at h
 ·rename_i h1;exact ⟨h1,h⟩
 ·cases h
def Tx (vars:LI):LI->LI->Bool
 | [],[]=>true
 | a::as1,t::ts=>if Xc vars a=some t then Tx vars as1 ts else false
 | _,_=>false
def Wf (vars args types:LI):Bool:=Tx vars args types
theorem MW {vars:LI}:∀{args types:LI},args.length≠types.length->Tx vars args types=false
 | [],[],h=>absurd rfl h
 | [],_::_,_=>rfl
 | _::_,[],_=>rfl
 | a::as1,t::ts,h=>by
  rw [Tx]
  split
  ·exact MW (by simpa using h)
  ·rfl
theorem Zkl {vars args types:LI} {k:Nat} {a t:Int} (ha:args[k]? = some a) (ht:types[k]? = some t) (h:Xc vars a=some t) :
  Tx vars (args.drop k) (types.drop k)=Tx vars (args.drop (k+1)) (types.drop (k+1)):=by
 rw [Y5 ha,Y5 ht,Tx,Zd h]
theorem Z2h {vars args types:LI} {k:Nat} {a t:Int} (ha:args[k]? = some a) (ht:types[k]? = some t) (h:Xc vars a≠some t) :
  Tx vars (args.drop k) (types.drop k)=false:=by
 rw [Y5 ha,Y5 ht,Tx,Z6 h]
theorem Zkj {vars args types:LI} {k:Nat} (ha:args.length<=k) (ht:types.length<=k):Tx vars (args.drop k) (types.drop k)=true:=by
 rw [Xm ha,Xm ht];rfl
def VI (op:Int):Bool:=op==0||(op==6||(op==8||(op==9||op==10)))
def W7 (op:Int):Bool:=decide (0<=op/\op<=11)
def YC (op:Int):Bool:=decide (14<=op/\op<=17)
def Uc (vars:LI) (op into:Int):Bool:=
 if into=0 then true else if op=6 then ((Xc vars (into-1)).map fun t=>decide (0<t)).getD false else false
def Jp (ds:List Zf) (ps:LI) (res:Int):Int:=UE ds (ps.getLast?.getD 0) res
def Jd (ds:List Zf) (vars:LI) (op:Int) (args:LI) (r:Yb):Int:=
 if op=9 then (if Wf vars args r.params=true then r.result else -1)
 else if r.params.length=0∨0<r.lent.length∨¬Wf vars args (r.params.take (r.params.length-1))=true then -1
 else Jp ds r.params r.result
def UB (n:Zl) (vars:LI) (op num:Int) (args:LI):Int:=
 match Xc n.routines num with
 | none=>-1
 | some r=>Jd n.decls vars op args r
def Qq (ds:List Zf) (vars:LI) (op:Int) (args:LI):Int:=
 match args with
 | [a]=>match Xc vars a with
  | some t=>if t=0 then -1 else if (op≠14/\op≠15)/\XX ds t=true then -1 else 0
  | none=>-1
 | _=>-1
def Kr (ds:List Zf) (vars:LI) (args:LI):Int:=
 match args with
 | [a,b]=>match Xc vars a with
  | some t=>if XX ds t=true then
    (match ds[(t-1).toNat]? with
     | some d=>if Wf vars [b] [d.frm]=true then d.to_ else -1
     | none=>-1) else -1
  | none=>-1
 | _=>-1
def X8 (ds:List Zf) (op num:Int):List LI:=if op=7 then [[],[]] else (ZV ds num).map (ZX ds)
mutual
def Y0 (n:Zl) (vars:LI):Z5->Int
 | .mk op num into args kids=>
  if (num≠0/\¬VI op=true)∨¬Uc vars op into=true∨(0<kids.length/\op≠7/\op≠8) then -1
  else if op=0 then (if args.length=0/\(-999<=num/\num<=999) then 0 else -1)
  else if op=1∨op=2∨op=3∨op=4 then (if Wf vars args [0,0]=true then 0 else -1)
  else if op=5 then (if Wf vars args [0]=true then 0 else -1)
  else if op=6 then (if 0<Wk n.decls num/\Wf vars args (ZX n.decls num)=true then Wk n.decls num else -1)
  else if op=7 then (if Wf vars args [0]=true then (if (X8 n.decls op num).length=0∨kids.length≠(X8 n.decls op num).length then -1 else W5 n vars kids (X8 n.decls op num) true 0) else -1)
  else if op=8 then (if Wf vars args [num]=true then (if (X8 n.decls op num).length=0∨kids.length≠(X8 n.decls op num).length then -1 else W5 n vars kids (X8 n.decls op num) true 0) else -1)
  else if op=9∨op=10 then UB n vars op num args
  else if op=11 then Kr n.decls vars args
  else if op=14∨op=15∨op=16∨op=17 then Qq n.decls vars op args
  else -1
def W5 (n:Zl) (vars:LI):List Z7->List LI->Bool->Int->Int
 | [],_,_,t=>t
 | b::bs,more,first,t=>
  match more with
  | []=>-1
  | m::ms=>if YS n (vars++m) b<0∨(first=false/\YS n (vars++m) b≠t) then -1 else W5 n vars bs ms false (YS n (vars++m) b)
def Xj (n:Zl):List Z5->LI->Option LI
 | [],vars=>some vars
 | s::r,vars=>if Y0 n vars s<0 then none else Xj n r (if W7 s.op=true then vars++[Y0 n vars s] else vars)
def YS (n:Zl) (vars:LI):Z7->Int
 | .mk steps result=>match Xj n steps vars with
  | none=>-1
  | some vs=>(Xc vs result).getD (-1)
end
def Q1 (n:Zl) (vars:LI) (op num:Int) (kids:List Z7):Int:=
 if (X8 n.decls op num).length=0∨kids.length≠(X8 n.decls op num).length then -1 else W5 n vars kids (X8 n.decls op num) true 0
mutual
def BI:Z5->Int->Int
 | .mk _ _ _ _ kids,left=>K0 kids left
def WX:Z7->Int->Int
 | .mk steps _,left=>QB steps left
def QB:List Z5->Int->Int
 | [],left=>left
 | s::r,left=>if left<1 then -1 else if BI s (left-1)<0 then -1 else QB r (BI s (left-1))
def K0:List Z7->Int->Int
 | [],left=>left
 | b::r,left=>if WX b left<0 then -1 else K0 r (WX b left)
end
def UV (b:Z7):Int:=if WX b 600<0 then -1 else 600-WX b 600
def QD (n:Zl):List Yb->Bool
 | []=>true
 | r::rs=>if ¬UV r.body<0/\YS n r.params r.body=r.result then QD n rs else false
def XK (n:Zl):Bool:=VC n&&QD n n.routines
theorem LN:(∀(s:Z5) (l:Int),0<=l->BI s l<=l)/\(∀(b:Z7) (l:Int),0<=l->WX b l<=l):=by
 have key:∀m:Nat,(∀s:Z5,s.sz<=m->∀l:Int,0<=l->BI s l<=l)/\(∀b:Z7,b.sz<=m->∀l:Int,0<=l->WX b l<=l):=by
  intro m
  induction m with
  | zero=>exact ⟨fun s h=>by have:=s.sz_pos;omega,fun s h=>by have:=s.sz_pos;omega⟩
  | succ m ih=>
   refine ⟨fun s hs l hl=>?_,fun b hb l hl=>?_⟩
   ·cases s with
    | mk op num into args kids=>
     rw [BI]
     have hk:Xl kids<=m:=by rw [Z5.sz] at hs;omega
     clear hs
     induction kids generalizing l with
     | nil=>rw [K0];exact Int.le_refl _
     | cons b r ihr=>
      rw [Xl] at hk
      have:=ih.2 b om l hl
      rw [K0]
      split
      ·omega
      ·have:=ihr (WX b l) om om;omega
   ·cases b with
    | mk steps res=>
     rw [WX]
     have hk:Yk steps<=m:=by rw [Z7.sz] at hb;omega
     clear hb
     induction steps generalizing l with
     | nil=>rw [QB];exact Int.le_refl _
     | cons s r ihr=>
      rw [Yk] at hk
      rw [QB]
      split
      ·omega
      ·have:=ih.1 s om (l-1) om
       split
       ·omega
       ·have:=ihr (BI s (l-1)) om om;omega
 exact ⟨fun s l hl=>(key s.sz).1 s (X6 _) l hl,fun b l hl=>(key b.sz).2 b (X6 _) l hl⟩
end Go.Abs
namespace Go.Abs
theorem Zj7 {l:List Z5} {k:Nat} {s:Z5} (h:l[k]? = some s):k+s.sz<=Yk l:=by
 induction l generalizing k with
 | nil=>simp at h
 | cons t r ih=>
  cases k with
  | zero=>simp at h;subst h;simp only [Yk];omega
  | succ k=>have:=ih (k:=k) (by simpa using h);have:=t.sz_pos;simp only [Yk];omega
theorem Fh {b:Z7} {k:Nat} {s:Z5} (h:b.steps[k]? = some s):k+s.sz<b.sz:=by have:=Zj7 h;have:=b.sz_eq;omega
structure X3 (n:Zl):Prop where
 decls:Wp n.decls
 len:n.routines.length<=4
 params:∀r∈n.routines,r.params.length<=3
 lent:∀r∈n.routines,r.lent.length<=4194304
theorem X3.params_at {n:Zl} (h:X3 n) {k:Nat} {r:Yb} (hr:n.routines[k]? = some r):r.params.length<=3:=h.params r (Y4 hr)
theorem X3.lent_at {n:Zl} (h:X3 n) {k:Nat} {r:Yb} (hr:n.routines[k]? = some r):r.lent.length<=4194304:=h.lent r (Y4 hr)
theorem Z4b {ds:List Zf} {num:Int} {k:Nat} {x:Int} (h:(ZV ds num)[k]? = some x):(X8 ds 8 num)[k]? = some (ZX ds x):=by
 rw [X8,Z6 om,TA,h];rfl
end Go.Abs
namespace Go.Abs
theorem M0 {ds:List Zf} (hd:Wp ds) (t:Int):(ZV ds t).length<=3:=by
 rw [ZV]
 split
 ·rename_i h
  obtain ⟨d,hd1⟩:=QQ (xs:=ds) (j:=(t-1).toNat) om
  rw [hd1,Sa]
  exact hd.cons_at hd1
 ·simp
theorem UF {ds:List Zf} (hd:Wp ds) (c:Int):(ZX ds c).length<=3:=by
 by_cases h:Wk ds c<1
 ·rw [(FU h).1];simp
 ·obtain ⟨k,d,x,h1,_,h3,_,h5⟩:=In h
  rw [h5];exact hd.fields_at h1 h3
theorem E4 {ds:List Zf} (hd:Wp ds) {op num:Int} {k:Nat} {m:LI} (h:(X8 ds op num)[k]? = some m):m.length<=3:=by
 have hm:=Y4 h
 rw [X8] at hm
 split at hm
 ·simp at hm;subst hm;simp
 ·obtain ⟨c,_,rfl⟩:=XG.1 hm;exact UF hd c
theorem Jo {α:Type} {xs:List α} {x:α} (h:xs.length=1) (hx:xs[0]? = some x):xs=[x]:=by
 cases xs with
 | nil=>simp at h
 | cons a r=>
  cases r with
  | nil=>simp at hx;rw [hx]
  | cons b r=>simp at h
theorem Da {ds:List Zf} {us args:LI} {op:Int} (h:args.length≠1):Qq ds us op args=-1:=by
 cases args with
 | nil=>rfl
 | cons a r=>
  cases r with
  | nil=>simp at h
  | cons b r=>rfl
theorem Db {ds:List Zf} {us args:LI} {op a:Int} (h:args=[a]) (hi:¬(0<=a/\a<=(us.length:Int)-1)):Qq ds us op args=-1:=by
 subst h;rw [Qq];simp only [KZ hi]
theorem D9 {ds:List Zf} {us args:LI} {op a t:Int} (h:args=[a]) (hi:0<=a/\a<=(us.length:Int)-1) (ht:us[a.toNat]? = some t) :
  Qq ds us op args=if t=0 then -1 else if (op≠14/\op≠15)/\XX ds t=true then -1 else 0:=by
 subst h;rw [Qq];simp only [Q8 hi ht]
theorem Zgd {n:Zl} {us args:LI} {op num:Int} {r:Yb} (hi:0<=num/\num<=(n.routines.length:Int)-1) (hr:n.routines[num.toNat]? = some r) :
  UB n us op num args=Jd n.decls us op args r:=by
 rw [UB];simp only [Q8 hi hr]
theorem Zgf {n:Zl} {us args:LI} {op num:Int} (hi:¬(0<=num/\num<=(n.routines.length:Int)-1)):UB n us op num args=-1:=by
 rw [UB];simp only [KZ hi]
theorem Pv {xs:LI} {x:Int} (h:xs[xs.length-1]? = some x):xs.getLast?.getD 0=x:=by
 rw [List.getLast?_eq_getElem?,h];rfl
theorem Ry {n:Zl} {us:LI} {bs:List Z7} {ms:List LI} {b:Z7} {m:LI} {k:Nat} {t:Int} (hb:bs[k]? = some b) (hm:ms[k]? = some m)
  (h:¬(YS n (us++m) b<0∨(k:Int)>0/\YS n (us++m) b≠t)) :
  W5 n us (bs.drop k) (ms.drop k) (decide (k=0)) t=W5 n us (bs.drop (k+1)) (ms.drop (k+1)) (decide (k+1=0)) (YS n (us++m) b):=by
 rw [Y5 hb,Y5 hm,W5,Z6]
 ·simp
 ·rintro (q|⟨q1,q2⟩)
  ·exact h (.inl q)
  ·exact h (.inr ⟨by simp at q1;omega,q2⟩)
theorem Rw {n:Zl} {us:LI} {bs:List Z7} {ms:List LI} {b:Z7} {m:LI} {k:Nat} {t:Int} (hb:bs[k]? = some b) (hm:ms[k]? = some m)
  (h:YS n (us++m) b<0∨(k:Int)>0/\YS n (us++m) b≠t) :
  W5 n us (bs.drop k) (ms.drop k) (decide (k=0)) t=-1:=by
 rw [Y5 hb,Y5 hm,W5,Zd]
 rcases h with q|⟨q1,q2⟩
 ·exact .inl q
 ·exact .inr ⟨by simp;omega,q2⟩
theorem Rx {n:Zl} {us:LI} {bs:List Z7} {ms:List LI} {k:Nat} {f:Bool} {t:Int} (hb:bs.length<=k):W5 n us (bs.drop k) (ms.drop k) f t=t:=by
 rw [Xm hb,W5]
end Go.Abs
end
namespace Go.Abs
theorem A6 (n:Zl) (us:LI) (s:Z5):Y0 n us s =
  if (s.num≠0/\¬VI s.op=true)∨¬Uc us s.op s.into=true∨(0<s.kids.length/\s.op≠7/\s.op≠8) then -1
  else if s.op=0 then (if s.args.length=0/\(-999<=s.num/\s.num<=999) then 0 else -1)
  else if s.op=1∨s.op=2∨s.op=3∨s.op=4 then (if Wf us s.args [0,0]=true then 0 else -1)
  else if s.op=5 then (if Wf us s.args [0]=true then 0 else -1)
  else if s.op=6 then (if 0<Wk n.decls s.num/\Wf us s.args (ZX n.decls s.num)=true then Wk n.decls s.num else -1)
  else if s.op=7 then (if Wf us s.args [0]=true then Q1 n us s.op s.num s.kids else -1)
  else if s.op=8 then (if Wf us s.args [s.num]=true then Q1 n us s.op s.num s.kids else -1)
  else if s.op=9∨s.op=10 then UB n us s.op s.num s.args
  else if s.op=11 then Kr n.decls us s.args
  else if s.op=14∨s.op=15∨s.op=16∨s.op=17 then Qq n.decls us s.op s.args
  else -1:=by
 cases s with
 | mk op num into args kids=>rw [Y0];rfl
theorem Cf (n:Zl) (us:LI) (b:Z7):YS n us b=match Xj n b.steps us with
  | none=>-1
  | some vs=>(Xc vs b.result).getD (-1):=by
 cases b with
 | mk st r=>rw [YS];rfl
theorem Nv {α:Type} {xs:List α} {x:α} (h:xs.length=2) (hx:xs[0]? = some x):∃y,xs=[x,y]:=by
 match xs,h with
 | [a,b],_=>simp at hx;subst hx;exact ⟨b,rfl⟩
theorem Th {ds:List Zf} {us args:LI} (h:args.length≠2):Kr ds us args=-1:=by
 match args,h with
 | [],_=>rfl
 | [_],_=>rfl
 | [_,_],h=>simp at h
 | _::_::_::_,_=>rfl
theorem Ti {ds:List Zf} {us args:LI} {a:Int} (hl:args.length=2) (h:args[0]? = some a) (hi:¬(0<=a/\a<=(us.length:Int)-1)):Kr ds us args=-1:=by
 obtain ⟨y,rfl⟩:=Nv hl h;rw [Kr];simp only [KZ hi]
theorem T1 {ds:List Zf} {us args:LI} {a t:Int} (hl:args.length=2) (h:args[0]? = some a) (hi:0<=a/\a<=(us.length:Int)-1) (ht:us[a.toNat]? = some t) :
  Kr ds us args=if XX ds t=true then
    (match ds[(t-1).toNat]? with
     | some d=>if Wf us (args.drop 1) [d.frm]=true then d.to_ else -1
     | none=>-1) else -1:=by
 obtain ⟨y,rfl⟩:=Nv hl h;rw [Kr];simp only [Q8 hi ht];rfl
theorem Z41 {ds:List Zf} {us args:LI} {a t:Int} {d:Zf} (hl:args.length=2) (h:args[0]? = some a) (hi:0<=a/\a<=(us.length:Int)-1) (ht:us[a.toNat]? = some t)
  (hA:XX ds t=true) (hd:ds[(t-1).toNat]? = some d):Kr ds us args=if Wf us (args.drop 1) [d.frm]=true then d.to_ else -1:=by
 rw [T1 hl h hi ht,Zd hA];simp only [hd]
theorem Lw {ds:List Zf} {t:Int} (h:XX ds t=true):1<=t/\t<=ds.length:=by
 simp only [XX,W9,decide_eq_true_eq] at h;exact h.1
theorem RK (b:Z7) (l:Int):WX b l=QB b.steps l:=by cases b;rw [WX];rfl
theorem H2 (s:Z5) (l:Int):BI s l=K0 s.kids l:=by cases s;rw [BI];rfl
structure V7 (n:Zl):Prop where
 decls:KU n.decls
 len:n.routines.length<=4194304
 params:∀r∈n.routines,r.params.length<=4194304
 lent:∀r∈n.routines,r.lent.length<=4194304
 body:∀r∈n.routines,r.body.sz<=10000000
theorem Hs {m:Nat} {fs:List Sg} (h:JD m fs=true):∀f∈fs,Je m f=true:=by
 induction fs with
 | nil=>simp
 | cons f r ih=>
  rw [JD] at h
  split at h
  ·rename_i h1
   intro g hg
   rcases YH.1 hg with rfl|hg
   ·exact h1
   ·exact ih h g hg
  ·cases h
theorem LY {n:Zl} (hz:V7 n) (h:VC n=true):X3 n:=by
 simp only [VC,Kl,W9,decide_eq_true_eq] at h
 obtain ⟨h1,⟨h2,h3,h4,h5⟩,h6⟩:=h
 refine ⟨Zku h2,h1,fun r hr=>?_,hz.lent⟩
 have:=Hs h4 (Uk r) (XG.2 ⟨r,hr,rfl⟩)
 simp only [Je,W9,decide_eq_true_eq] at this
 exact this.1
def gI (xs:LI) (i:Int):Int:=xs[i.toNat]?.getD 0
theorem VQ {xs:LI} {i:Int} {x:Int} (h:xs[i.toNat]? = some x):gI xs i=x:=by rw [gI,h];rfl
structure Zo where
 vars:LI
 own:LI
 par:LI
 con:LI
 fst:LI
 tok:LI
def Zo.grow (L:Zo) (t own par:Int):Zo:=⟨L.vars++[t],L.own++[own],L.par++[par],L.con++[-1],L.fst++[-1],L.tok++[-1]⟩
def Ua (L:Zo) (v:Int):Option Zo:=if gI L.own v<1 then none else some { L with own:=L.own.set v.toNat (gI L.own v-1) }
def UN (own par ln:LI):Nat->Int->Bool
 | 0,_=>false
 | k+1,v=>if gI own v<1/\¬v∈ln then (if gI par v<0 then false else UN own par ln k (gI par v)) else true
def XT (L:Zo) (ln:LI) (v:Int):Bool:=UN L.own L.par ln (v.toNat+1) v
def UZ:LI->Int->LI->LI
 | own,_,[]=>own
 | own,p,f::r=>UZ (if f≠0 then own.set p.toNat (gI own p+1) else own) (p+1) r
def Qg (ds:List Zf) (L:Zo) (op x:Int):Option Zo:=
 if gI L.con x<0∨(op=17/\0<=gI L.tok x) then none
 else match Ua L x with
  | none=>none
  | some L1=>some { L1 with
    own:=UZ L1.own (gI L.fst x) (ZX ds (gI L.con x))
    tok:=if op=17 then L.tok.set x.toNat (ZX ds (gI L.con x)).length else L.tok }
def Tk (op:Int):Bool:=op==6||(op==9||(op==10||op==11))
def JA (n:Zl) (op num:Int):LI:=if op=9 then ((n.routines[num.toNat]?).map (·.lent)).getD [] else []
def WJ (n:Zl) (op num:Int) (i:Nat):Bool:=decide ((i:Int)∈JA n op num)
def TH (n:Zl) (vars:LI) (op num a:Int) (i:Nat):Bool:=Tk op&&(gI vars a != 0&&!WJ n op num i)
def T7 (n:Zl) (op num:Int):LI->Nat->Zo->Option Zo
 | [],_,L=>some L
 | a::r,i,L=>if TH n L.vars op num a i=true then (match Ua L a with
   | none=>none
   | some L1=>T7 n op num r (i+1) L1) else T7 n op num r (i+1) L
def Qd (n:Zl) (op num:Int) (ln:LI) (L:Zo):LI->Nat->Bool
 | [],_=>true
 | a::r,i=>if WJ n op num i=true/\¬XT L ln a=true then false else Qd n op num ln L r (i+1)
def Jw (L:Zo) (into:Int) (m:Nat):Option Zo:=
 if 0<into then (if gI L.tok (into-1)≠m then none else some { L with tok:=L.tok.set (into-1).toNat (-1) }) else some L
def UI (n:Zl) (ln:LI) (L:Zo) (op num into:Int) (args:LI):Option Zo:=
 match T7 n op num args 0 L with
 | none=>none
 | some L1=>if Qd n op num ln L1 args 0=true then Jw L1 into args.length else none
def Vc:LI->LI->Bool
 | o::os,t::ts=>if o≠0∨0<=t then false else Vc os ts
 | _,_=>true
def Zo.take (L:Zo) (m:Nat):Zo:=⟨L.vars.take m,L.own.take m,L.par.take m,L.con.take m,L.fst.take m,L.tok.take m⟩
def UG (L:Zo) (m:Nat):Option Zo:=if Vc (L.own.drop m) (L.tok.drop m)=true then some (L.take m) else none
def Ju (L:Zo) (par:Int):LI->Zo
 | []=>L
 | t::r=>Ju (L.grow t 0 par) par r
def KX (ds:List Zf) (L:Zo) (x c:Int):Zo:=
 Ju { L with con:=L.con.set x.toNat c,fst:=L.fst.set x.toNat L.vars.length } x (ZX ds c)
def WI (ds:List Zf) (L:Zo) (op num:Int) (args:LI) (i:Nat):Zo:=
 if op=8 then KX ds L (gI args 0) (gI (ZV ds num) i) else L
def KI (lent:LI):LI->Nat->Zo->Zo
 | [],_,L=>L
 | t::r,i,L=>KI lent r (i+1) (L.grow t (if t≠0/\¬(i:Int)∈lent then 1 else 0) (-1))
def U6 (r:Yb):Zo:=KI r.lent r.params 0 ⟨[],[],[],[],[],[]⟩
def Kw (L:Zo) (ln:LI) (v:Int):Option Zo:=if XT L ln v=true then some { L with own:=L.own.set v.toNat (gI L.own v+1) } else none
def UT (n:Zl) (ln:LI) (L:Zo) (op num into:Int) (args:LI) (ch:Option Zo):Option Zo:=
 if op=14 then Kw L ln (gI args 0)
 else if op=15 then Ua L (gI args 0)
 else if op=16∨op=17 then Qg n.decls L op (gI args 0)
 else if op=7∨op=8 then (if op=8/\¬XT L ln (gI args 0)=true then none else ch)
 else UI n ln L op num into args
def Ke (L:Zo) (op t:Int) (r:Option Zo):Option Zo:=
 match r with
 | none=>none
 | some L1=>if W7 op=true then some (L1.grow t (if t≠0 then 1 else 0) (-1)) else some L1
def B4 (L:Zo) (first:Option Zo) (rest:Zo->Bool):Option Zo:=
 match first with
 | none=>none
 | some one=>if rest one=true then some { L with own:=one.own,tok:=one.tok } else none
def F6 (one:Zo) (two:Option Zo) (rest:Bool):Bool:=
 match two with
 | none=>false
 | some two=>if one.own=two.own/\one.tok=two.tok then rest else false
def JL (r:Option Zo) (f:Zo->Option Zo):Option Zo:=match r with|none=>none|some L=>f L
def Uh (m:Nat) (res:Int) (L:Zo):Option Zo:=JL (if gI L.vars res≠0 then Ua L res else some L) fun L2=>UG L2 m
mutual
def WM (n:Zl) (ln:LI) (L:Zo):Z5->Option Zo
 | .mk op num into args kids=>Ke L op (Y0 n L.vars (.mk op num into args kids)) (UT n ln L op num into args (U5 n ln L op num args kids))
def U5 (n:Zl) (ln:LI) (L:Zo) (op num:Int) (args:LI):List Z7->Option Zo
 | []=>none
 | b::bs=>B4 L (Wi n ln (WI n.decls L op num args 0) L.vars.length b) fun one=>Uy n ln L op num args one bs 1
def Uy (n:Zl) (ln:LI) (L:Zo) (op num:Int) (args:LI) (one:Zo):List Z7->Nat->Bool
 | [],_=>true
 | b::bs,i=>F6 one (Wi n ln (WI n.decls L op num args i) L.vars.length b) (Uy n ln L op num args one bs (i+1))
def Xt (n:Zl) (ln:LI) (L:Zo):List Z5->Option Zo
 | []=>some L
 | s::r=>JL (WM n ln L s) fun L1=>Xt n ln L1 r
def Wi (n:Zl) (ln:LI) (L:Zo) (m:Nat):Z7->Option Zo
 | .mk steps result=>JL (Xt n ln L steps) (Uh m result)
end
theorem Hx (n:Zl) (ln:LI) (L:Zo) (s:Z5):WM n ln L s=Ke L s.op (Y0 n L.vars s) (UT n ln L s.op s.num s.into s.args (U5 n ln L s.op s.num s.args s.kids)):=by
 cases s with
 | mk op num into args kids=>rw [WM];rfl
theorem J1 (n:Zl) (ln:LI) (L:Zo) (m:Nat) (b:Z7):Wi n ln L m b=JL (Xt n ln L b.steps) (Uh m b.result):=by
 cases b with
 | mk st r=>rw [Wi];rfl
def Tj (n:Zl) (r:Yb):Bool:=
 match Wi n r.lent (U6 r) r.params.length r.body with
 | none=>false
 | some L=>(UG L 0).isSome
def Qp (n:Zl):List Yb->Bool
 | []=>true
 | r::rs=>if Tj n r=true then Qp n rs else false
def WP (n:Zl):Bool:=XK n&&Qp n n.routines
structure WK (L:Zo):Prop where
 own:L.own.length=L.vars.length
 par:L.par.length=L.vars.length
 con:L.con.length=L.vars.length
 fst:L.fst.length=L.vars.length
 tok:L.tok.length=L.vars.length
structure X7 (ds:List Zf) (L:Zo) (q:Int):Prop where
 len:WK L
 down:∀j:Int,0<=j->j<L.vars.length->gI L.par j<j
 arm:∀x:Int,0<=x->x<L.vars.length->0<=gI L.con x->0<=gI L.fst x/\gI L.fst x+(ZX ds (gI L.con x)).length<=L.vars.length
 nn:∀x∈L.own,0<=x
 bd:∀x∈L.own,x<=q
end Go.Abs
section
namespace Go.Abs
end Go.Abs
namespace Go.Abs
theorem Zdr {n:Zl} {op num:Int} {r:Yb} (h:op=9) (hr:n.routines[num.toNat]? = some r):JA n op num=r.lent:=by
 rw [JA,Zd h,hr];rfl
end Go.Abs
namespace Go.Abs
theorem I3 {own par ln:LI} {N:Int} (hd:∀j:Int,0<=j->j<N->gI par j<j):∀(k:Nat) (v:Int),0<=v->v<N->v.toNat+1<=k->UN own par ln k v=UN own par ln (v.toNat+1) v:=by
 intro k
 induction k using Nat.strongRecOn with
 | ind k ih=>
  intro v h0 hN hk
  cases k with
  | zero=>omega
  | succ k=>
   rw [UN,UN]
   split
   ·split
    ·rfl
    ·have hdv:=hd v h0 hN
     rw [ih k om (gI par v) om om om]
     rw [ih v.toNat om (gI par v) om om om]
   ·rfl
theorem Nm {own par ln:LI} {N j x1 x2:Int} {r:Bool} (h1:gI own j=x1) (h2:gI par j=x2) (hj:0<=j/\j<N) (hx:x1<1/\¬j∈ln) (h0:¬x2<0) (hd:∀i:Int,0<=i->i<N->gI par i<i)
  (h:UN own par ln (j.toNat+1) j=r):UN own par ln (x2.toNat+1) x2=r:=by
 rw [UN,h1,h2,Zd hx,Z6 h0] at h
 have hdv:=hd j hj.1 hj.2
 rw [<-h,I3 hd j.toNat x2 om om om]
theorem Nl {own par ln:LI} {j x1 x2:Int} {r:Bool} (h1:gI own j=x1) (h2:gI par j=x2) (hx:x1<1/\¬j∈ln) (h0:x2<0) (h:UN own par ln (j.toNat+1) j=r):false=r:=by
 rw [UN,h1,h2,Zd hx,Zd h0] at h;exact h
theorem Nn {own par ln:LI} {j x1:Int} {r:Bool} (h1:gI own j=x1) (hx:¬(x1<1/\¬j∈ln)) (h:UN own par ln (j.toNat+1) j=r):true=r:=by
 rw [UN,h1,Z6 hx] at h;exact h
end Go.Abs
namespace Go.Abs
theorem KP {L L':Zo} {v:Int} (h:Ua L v=some L'):1<=gI L.own v/\L'.vars=L.vars/\L'.par=L.par/\L'.con=L.con/\L'.fst=L.fst/\L'.tok=L.tok/\L'.own=L.own.set v.toNat (gI L.own v-1):=by
 rw [Ua] at h
 split at h
 ·cases h
 ·cases h;exact ⟨by omega,rfl,rfl,rfl,rfl,rfl,rfl⟩
theorem Lc {xs:LI} {v:Int} (h:gI xs v≠0):gI xs v∈xs:=by
 rw [gI] at h ⊢
 cases hx:xs[v.toNat]? with
 | none=>rw [hx] at h;exact absurd rfl h
 | some y=>exact Y4 hx
theorem KG {xs:LI} {i:Nat} {a x:Int} (h:x∈xs.set i a):x∈xs∨x=a:=List.mem_or_eq_of_mem_set h
theorem X7.take {ds:List Zf} {L L':Zo} {q v:Int} (hk:X7 ds L q) (h:Ua L v=some L'):X7 ds L' q:=by
 obtain ⟨t1,t2,t3,t4,t5,t6,t7⟩:=KP h
 obtain ⟨f1,f2,f3,f4,f5⟩:=hk.len
 have hm:=Lc (xs:=L.own) (v:=v) om
 refine ⟨⟨by rw [t7,t2,Tg];exact f1,by rw [t3,t2];exact f2,by rw [t4,t2];exact f3,by rw [t5,t2];exact f4,by rw [t6,t2];exact f5⟩,?_,?_,?_,?_⟩
 ·rw [t2,t3];exact hk.down
 ·rw [t2,t4,t5];exact hk.arm
 ·rw [t7];intro x hx
  rcases KG hx with hx|rfl
  ·exact hk.nn x hx
  ·omega
 ·rw [t7];intro x hx
  rcases KG hx with hx|rfl
  ·exact hk.bd x hx
  ·have:=hk.bd _ hm;omega
end Go.Abs
end
namespace Go.Abs
theorem MU {us:LI}:∀{args tys:LI},Tx us args tys=true->args.length=tys.length/\∀a∈args,0<=a/\a<us.length
 | [],[],_=>⟨rfl,by simp⟩
 | [],_::_,h=>by cases h
 | _::_,[],h=>by cases h
 | a::as1,t::ts,h=>by
  rw [Tx] at h
  split at h
  ·rename_i h1
   obtain ⟨q1,q2⟩:=MU h
   refine ⟨by simp [q1],fun x hx=>?_⟩
   rcases YH.1 hx with rfl|hx
   ·have:=(J0 h1).1;omega
   ·exact q2 x hx
  ·cases h
theorem Ru {n:Zl} {us:LI}:∀{bs:List Z7} {ms:List LI} {f:Bool} {t:Int},0<=t->0<=W5 n us bs ms f t ->
  ∀(i:Nat) (b:Z7) (m:LI),bs[i]? = some b->ms[i]? = some m->0<=YS n (us++m) b
 | [],_,_,_,_,_,i,b,m,hb,_=>by simp at hb
 | b::bs,[],_,_,_,h,_,_,_,_,hm=>by simp at hm
 | b::bs,m::ms,f,t,ht,h,i,c,l,hc,hl=>by
  rw [W5] at h
  split at h
  ·omega
  ·rename_i hq
   have h0:0<=YS n (us++m) b:=by
    rcases Int.lt_or_le (YS n (us++m) b) 0 with q|q
    ·exact absurd (.inl q) hq
    ·exact q
   cases i with
   | zero=>simp at hc hl;subst hc hl;exact h0
   | succ i=>exact Ru h0 h i c l (by simpa using hc) (by simpa using hl)
structure AG (n:Zl) (us:LI) (s:Z5):Prop where
 args:∀a∈s.args,0<=a/\a<us.length
 one:(s.op=7∨s.op=8∨(14<=s.op/\s.op<=17))->∃a,s.args=[a]
 num:s.op=9->0<=s.num/\s.num<n.routines.length
 into:s.into≠0->1<=s.into/\s.into<=us.length
 kids:(s.op=7∨s.op=8)->s.kids.length=(X8 n.decls s.op s.num).length/\(X8 n.decls s.op s.num).length≠0 /\
  ∀(i:Nat) (b:Z7) (m:LI),s.kids[i]? = some b->(X8 n.decls s.op s.num)[i]? = some m->0<=YS n (us++m) b
theorem Zd5 {n:Zl} {us:LI} {op num:Int} {kids:List Z7} (h:0<=Q1 n us op num kids) :
  kids.length=(X8 n.decls op num).length/\(X8 n.decls op num).length≠0/\∀(i:Nat) (b:Z7) (m:LI),kids[i]? = some b->(X8 n.decls op num)[i]? = some m->0<=YS n (us++m) b:=by
 rw [Q1] at h
 split at h
 ·omega
 ·rename_i hq
  exact ⟨by omega,by omega,Ru (Int.le_refl 0) h⟩
theorem LQ {xs:LI} (h:xs.length=1):∃a,xs=[a]:=by
 match xs,h with
 | [a],_=>exact ⟨a,rfl⟩
theorem Be {n:Zl} {us:LI} {s:Z5} (h:0<=Y0 n us s):AG n us s:=by
 rw [A6] at h
 split at h
 ·omega
 rename_i h0
 have hinto:s.into≠0->1<=s.into/\s.into<=us.length:=by
  intro hi
  have hv:Uc us s.op s.into=true:=by
   cases q:Uc us s.op s.into with
   | true=>rfl
   | false=>exact absurd (.inr (.inl (by rw [q];simp))) h0
  rw [Uc,Z6 hi] at hv
  split at hv
  ·cases ha:Xc us (s.into-1) with
   | none=>rw [ha] at hv;cases hv
   | some t=>have:=(J0 ha).1;omega
  ·cases hv
 have mk:(∀a∈s.args,0<=a/\a<us.length)->((s.op=7∨s.op=8∨(14<=s.op/\s.op<=17))->∃a,s.args=[a])->(s.op=9->0<=s.num/\s.num<n.routines.length) ->
   ((s.op=7∨s.op=8)->0<=Q1 n us s.op s.num s.kids)->AG n us s:=fun a b c d=>⟨a,b,c,hinto,fun q=>Zd5 (d q)⟩
 have ty:∀{tys},Wf us s.args tys=true->s.args.length=tys.length/\∀a∈s.args,0<=a/\a<us.length:=fun q=>MU q
 split at h
 ·rename_i h1
  split at h
  ·rename_i h2
   exact mk (by rw [List.eq_nil_of_length_eq_zero h2.1];simp) om om om
  ·omega
 split at h
 ·split at h
  ·rename_i h1 h2;exact mk (ty h2).2 om om om
  ·omega
 split at h
 ·split at h
  ·rename_i h1 h2;exact mk (ty h2).2 om om om
  ·omega
 split at h
 ·split at h
  ·rename_i h1 h2;exact mk (ty h2.2).2 om om om
  ·omega
 split at h
 ·split at h
  ·rename_i h1 h2;exact mk (ty h2).2 (fun _=>LQ (by simpa using (ty h2).1)) om (fun _=>h)
  ·omega
 split at h
 ·split at h
  ·rename_i h1 h2;exact mk (ty h2).2 (fun _=>LQ (by simpa using (ty h2).1)) om (fun _=>h)
  ·omega
 split at h
 ·rename_i hop
  rw [UB] at h
  cases hr:Xc n.routines s.num with
  | none=>rw [hr] at h;simp at h
  | some r=>
   rw [hr] at h
   simp only at h
   have hn:=(J0 hr).1
   rw [Jd] at h
   split at h
   ·split at h
    ·rename_i h2;exact mk (ty h2).2 om om om
    ·omega
   ·split at h
    ·omega
    ·rename_i h2
     have h3:Wf us s.args (r.params.take (r.params.length-1))=true:=by
      cases q:Wf us s.args (r.params.take (r.params.length-1)) with
      | true=>rfl
      | false=>exact absurd (.inr (.inr (by rw [q];simp))) h2
     exact mk (ty h3).2 om om om
 split at h
 ·rename_i hop
  rcases he:s.args with _|⟨a,_|⟨b,_|⟨c,r⟩⟩⟩
  ·rw [he,show Kr n.decls us []=-1 from rfl] at h;omega
  ·rw [he,show Kr n.decls us [a]=-1 from rfl] at h;omega
  ·rw [he,Kr] at h
   cases ha:Xc us a with
   | none=>rw [ha] at h;simp at h
   | some t=>
    rw [ha] at h
    simp only at h
    split at h
    ·cases hd:n.decls[(t-1).toNat]? with
     | none=>rw [hd] at h;simp at h
     | some d=>
      rw [hd] at h
      simp only at h
      split at h
      ·rename_i h3
       have h4:=(MU h3).2 b (by simp)
       have h5:=(J0 ha).1
       refine mk (fun x hx=>?_) om om om
       rw [he] at hx
       rcases YH.1 hx with rfl|hx
       ·omega
       ·rw [XH.1 hx];exact h4
      ·omega
    ·omega
  ·rw [he,show Kr n.decls us (a::b::c::r)=-1 from rfl] at h;omega
 split at h
 ·rename_i hop
  rcases he:s.args with _|⟨a,_|⟨b,r⟩⟩
  ·rw [he,show Qq n.decls us s.op []=-1 from rfl] at h;omega
  ·rw [he,Qq] at h
   cases ha:Xc us a with
   | none=>rw [ha] at h;simp at h
   | some t=>
    have h5:=(J0 ha).1
    refine mk (fun x hx=>?_) (fun _=>⟨a,he⟩) om om
    rw [he] at hx
    rw [XH.1 hx];omega
  ·rw [he,show Qq n.decls us s.op (a::b::r)=-1 from rfl] at h;omega
 ·omega
def QG (n:Zl) (us:LI) (s:Z5):LI:=if W7 s.op=true then us++[Y0 n us s] else us
theorem Iu {L L':Zo} {ln:LI} {v:Int} (h:Kw L ln v=some L'):L'.vars=L.vars/\L'.par=L.par/\L'.con=L.con/\L'.fst=L.fst/\L'.tok=L.tok/\L'.own=L.own.set v.toNat (gI L.own v+1):=by
 rw [Kw] at h
 split at h
 ·cases h;exact ⟨rfl,rfl,rfl,rfl,rfl,rfl⟩
 ·cases h
theorem I1:∀(fs:LI) (own:LI) (p:Int),(UZ own p fs).length=own.length
 | [],own,p=>rfl
 | f::r,own,p=>by rw [UZ,I1 r];split<;>simp
theorem La {xs:LI} {q v:Int} (h:∀x∈xs,x<=q) (hq:0<=q):gI xs v<=q:=by
 by_cases h0:gI xs v=0
 ·omega
 ·exact h _ (Lc h0)
theorem Ep {xs:LI} {v:Int} (h:∀x∈xs,0<=x):0<=gI xs v:=by
 by_cases h0:gI xs v=0
 ·omega
 ·exact h _ (Lc h0)
theorem I2:∀(fs:LI) (own:LI) (p:Int),(∀x∈own,0<=x)->∀x∈UZ own p fs,0<=x
 | [],own,p,h=>h
 | f::r,own,p,h=>by
  rw [UZ]
  refine I2 r _ _ fun x hx=>?_
  split at hx
  ·rcases KG hx with hx|rfl
   ·exact h x hx
   ·have:=Ep (v:=p) h;omega
  ·exact h x hx
theorem I0:∀(fs:LI) (own:LI) (p q:Int),0<=q->(∀x∈own,x<=q)->∀x∈UZ own p fs,x<=q+fs.length
 | [],own,p,q,hq,h=>by intro x hx;have:=h x hx;simp;omega
 | f::r,own,p,q,hq,h=>by
  intro x hx
  rw [UZ] at hx
  have:=I0 r _ _ (q+1) om (fun y hy=>by
   split at hy
   ·rcases KG hy with hy|rfl
    ·have:=h y hy;omega
    ·have:=La (v:=p) h hq;omega
   ·have:=h y hy;omega) x hx
  simp only [X5];omega
theorem M7 {ds:List Zf} {L L':Zo} {op v:Int} (h:Qg ds L op v=some L'):L'.vars=L.vars/\L'.par=L.par/\L'.con=L.con/\L'.fst=L.fst/\L'.tok.length=L.tok.length /\
  ∃L1,Ua L v=some L1/\L'.own=UZ L1.own (gI L.fst v) (ZX ds (gI L.con v)):=by
 rw [Qg] at h
 split at h
 ·cases h
 ·cases ht:Ua L v with
  | none=>rw [ht] at h;cases h
  | some L1=>
   rw [ht] at h
   simp only at h
   obtain ⟨t1,t2,t3,t4,t5,t6,t7⟩:=KP ht
   cases h
   refine ⟨t2,t3,t4,t5,?_,L1,rfl,rfl⟩
   split
   ·rw [Tg]
   ·rfl
theorem Gv {n:Zl} {op num:Int} {ds:List Zf} {q:Int}:∀{as1:LI} {i:Nat} {L L':Zo},X7 ds L q->T7 n op num as1 i L=some L'->X7 ds L' q/\L'.vars=L.vars/\L'.par=L.par/\L'.con=L.con/\L'.fst=L.fst/\L'.tok=L.tok
 | [],i,L,L',hk,h=>by rw [T7] at h;cases h;exact ⟨hk,rfl,rfl,rfl,rfl,rfl⟩
 | a::r,i,L,L',hk,h=>by
  rw [T7] at h
  split at h
  ·cases ht:Ua L a with
   | none=>rw [ht] at h;cases h
   | some L1=>
    rw [ht] at h
    obtain ⟨t1,t2,t3,t4,t5,t6,t7⟩:=KP ht
    obtain ⟨k1,k2,k3,k4,k5,k6⟩:=Gv (hk.take ht) h
    exact ⟨k1,k2.trans t2,k3.trans t3,k4.trans t4,k5.trans t5,k6.trans t6⟩
  ·exact Gv hk h
theorem X7.le {ds:List Zf} {L:Zo} {q q':Int} (h:X7 ds L q) (hq:q<=q'):X7 ds L q':=⟨h.len,h.down,h.arm,h.nn,fun x hx=>Int.le_trans (h.bd x hx) hq⟩
theorem X7.turn {ds:List Zf} {L L':Zo} {q q':Int} (hk:X7 ds L q) (h1:L'.vars=L.vars) (h2:L'.par=L.par) (h3:L'.con=L.con) (h4:L'.fst=L.fst) (h5:L'.tok.length=L.tok.length) (h6:L'.own.length=L.own.length)
  (h7:∀x∈L'.own,0<=x) (h8:∀x∈L'.own,x<=q'):X7 ds L' q':=by
 obtain ⟨f1,f2,f3,f4,f5⟩:=hk.len
 refine ⟨⟨by rw [h6,h1];exact f1,by rw [h2,h1];exact f2,by rw [h3,h1];exact f3,by rw [h4,h1];exact f4,by rw [h5,h1];exact f5⟩,?_,?_,h7,h8⟩
 ·rw [h1,h2];exact hk.down
 ·rw [h1,h3,h4];exact hk.arm
theorem Ar {xs ys:LI} {j:Int} (h:j.toNat<xs.length):gI (xs++ys) j=gI xs j:=by
 rw [gI,gI,CX h]
theorem Lb {xs:LI} {y:Int} {j:Int} (h:j.toNat=xs.length):gI (xs++[y]) j=y:=by
 rw [gI,h];simp
theorem X7.grow {ds:List Zf} {L:Zo} {q t o p:Int} (hk:X7 ds L q) (hp:p<L.vars.length) (ho:0<=o/\o<=q):X7 ds (L.grow t o p) q:=by
 obtain ⟨f1,f2,f3,f4,f5⟩:=hk.len
 refine ⟨⟨by simp [Zo.grow,f1],by simp [Zo.grow,f2],by simp [Zo.grow,f3],by simp [Zo.grow,f4],by simp [Zo.grow,f5]⟩,?_,?_,?_,?_⟩
 ·intro j hj hl
  simp only [Zo.grow,Yq,HS] at hl ⊢
  by_cases hlt:j<L.vars.length
  ·rw [Ar om];exact hk.down j hj hlt
  ·rw [Lb om];omega
 ·intro x hx hl
  simp only [Zo.grow,Yq,HS] at hl ⊢
  by_cases hlt:x<L.vars.length
  ·rw [Ar om,Ar om]
   intro hc
   have:=hk.arm x hx hlt hc
   exact ⟨this.1,by omega⟩
  ·rw [Lb om];omega
 ·intro x hx
  simp only [Zo.grow,Xg,XH] at hx
  rcases hx with hx|rfl
  ·exact hk.nn x hx
  ·exact ho.1
 ·intro x hx
  simp only [Zo.grow,Xg,XH] at hx
  rcases hx with hx|rfl
  ·exact hk.bd x hx
  ·exact ho.2
theorem Ld {xs:LI} {k:Nat} {a:Int} {j:Int} (h:xs.length<=j.toNat/\j.toNat<xs.length+k):gI (xs++List.replicate k a) j=a:=by
 rw [gI,Bi h.1,List.getElem?_replicate,Zd om];rfl
theorem Cw {xs:LI} {x j c:Int} (h:j.toNat=x.toNat) (hl:x.toNat<xs.length):gI (xs.set x.toNat c) j=c:=by
 rw [gI,h,List.getElem?_set_self hl];rfl
theorem Er {xs:LI} {x j c:Int} (h:j.toNat≠x.toNat):gI (xs.set x.toNat c) j=gI xs j:=by
 rw [gI,gI,List.getElem?_set_ne (fun q=>h q.symm)]
theorem Et {p:Int}:∀(fs:LI) (L:Zo),Ju L p fs=⟨L.vars++fs,L.own++List.replicate fs.length 0,L.par++List.replicate fs.length p,L.con++List.replicate fs.length (-1),
  L.fst++List.replicate fs.length (-1),L.tok++List.replicate fs.length (-1)⟩
 | [],L=>by simp [Ju]
 | t::r,L=>by rw [Ju,Et r];simp [Zo.grow,N7]
theorem Z47 {ds:List Zf} {L:Zo} {q x c:Int} (hk:X7 ds L q) (hq:0<=q) (hx:0<=x/\x<L.vars.length):X7 ds (KX ds L x c) q/\(KX ds L x c).vars=L.vars++ZX ds c:=by
 obtain ⟨f1,f2,f3,f4,f5⟩:=hk.len
 rw [KX,Et]
 refine ⟨⟨⟨by simp [f1],by simp [f2],by simp [f3],by simp [f4],by simp [f5]⟩,?_,?_,?_,?_⟩,rfl⟩
 ·intro j hj hl
  simp only [Yq] at hl ⊢
  by_cases hlt:j<L.vars.length
  ·rw [Ar om];exact hk.down j hj hlt
  ·rw [Ld om];omega
 ·intro y hy hl
  simp only [Yq] at hl ⊢
  by_cases hlt:y<L.vars.length
  ·rw [Ar (by simp;omega),Ar (by simp;omega)]
   by_cases he:y.toNat=x.toNat
   ·rw [Cw he om,Cw he om]
    intro _
    exact ⟨by omega,by simp⟩
   ·rw [Er he,Er he]
    intro hc
    have:=hk.arm y hy hlt hc
    exact ⟨this.1,by omega⟩
  ·rw [Ld (by simp;omega)];omega
 ·intro y hy
  simp only [Xg,List.mem_replicate] at hy
  rcases hy with hy|⟨_,rfl⟩
  ·exact hk.nn y hy
  ·exact Int.le_refl 0
 ·intro y hy
  simp only [Xg,List.mem_replicate] at hy
  rcases hy with hy|⟨_,rfl⟩
  ·exact hk.bd y hy
  ·exact hq
theorem CG {n:Zl} {L:Zo} {q:Int} {s:Z5} {i:Nat} {m:LI} (hk:X7 n.decls L q) (hq:0<=q) (hf:AG n L.vars s) (hop:s.op=7∨s.op=8) (hm:(X8 n.decls s.op s.num)[i]? = some m) :
  X7 n.decls (WI n.decls L s.op s.num s.args i) q/\(WI n.decls L s.op s.num s.args i).vars=L.vars++m:=by
 rw [WI]
 split
 ·rename_i h8
  obtain ⟨a,ha⟩:=hf.one om
  have hb:=hf.args a (by rw [ha];simp)
  have hg:gI s.args 0=a:=by rw [ha];rfl
  rw [X8,Z6 om,TA] at hm
  cases hc:(ZV n.decls s.num)[i]? with
  | none=>rw [hc] at hm;cases hm
  | some c=>
   rw [hc] at hm
   cases hm
   have hgc:gI (ZV n.decls s.num) (i:Int)=c:=by rw [gI];simp [hc]
   rw [hg,hgc]
   exact Z47 hk hq hb
 ·rename_i h8
  rw [X8,Zd om] at hm
  have:m=[]:=by
   match i,hm with
   | 0,hm=>simpa using hm.symm
   | 1,hm=>simpa using hm.symm
   | i+2,hm=>simp at hm
  subst this
  exact ⟨hk,by simp⟩
theorem Z27 {n:Zl}:∀{l:List Z5} {us vs:LI},Xj n l us=some vs->us.length<=vs.length
 | [],us,vs,h=>by rw [Xj] at h;cases h;exact X6 _
 | s::r,us,vs,h=>by
  rw [Xj] at h
  split at h
  ·cases h
  ·have:=Z27 h
   split at this
   ·simp only [Yq,HS] at this;omega
   ·exact this
theorem Px {n:Zl} {ln:LI} {L L':Zo} {op num into q:Int} {args:LI} {ds:List Zf} (hk:X7 ds L q) (h:UI n ln L op num into args=some L'):X7 ds L' q/\L'.vars=L.vars:=by
 rw [UI] at h
 cases ht:T7 n op num args 0 L with
 | none=>rw [ht] at h;cases h
 | some L1=>
  rw [ht] at h
  simp only at h
  obtain ⟨k1,k2,k3,k4,k5,k6⟩:=Gv hk ht
  split at h
  ·rw [Jw] at h
   split at h
   ·split at h
    ·cases h
    ·cases h
     exact ⟨k1.turn rfl rfl rfl rfl (by simp) rfl k1.nn k1.bd,k2⟩
   ·cases h;exact ⟨k1,k2⟩
  ·cases h
theorem Z6e {L L':Zo} {m:Nat} (h:UG L m=some L'):L'=L.take m/\Vc (L.own.drop m) (L.tok.drop m)=true:=by
 rw [UG] at h
 split at h
 ·rename_i hz;cases h;exact ⟨rfl,hz⟩
 ·cases h
theorem C0 {r:Option Zo} {f:Zo->Option Zo} {L:Zo} (h:JL r f=some L):∃L1,r=some L1/\f L1=some L:=by
 cases r with
 | none=>cases h
 | some L1=>exact ⟨L1,rfl,h⟩
theorem LM (n:Zl) (hn:X3 n) (ln:LI):∀m:Nat,
  (∀(s:Z5) (L L':Zo) (q:Int),s.sz<=m->X7 n.decls L q->0<=q->0<=Y0 n L.vars s->WM n ln L s=some L'->X7 n.decls L' (q+4*s.sz)/\L'.vars=QG n L.vars s) /\
  (∀(b:Z7) (L O:Zo) (q:Int) (k:Nat),b.sz<=m->X7 n.decls L q->0<=q->0<=YS n L.vars b->k<=L.vars.length->Wi n ln L k b=some O ->
   (O.own.length=k/\O.tok.length=k/\(∀x∈O.own,0<=x/\x<=q+4*b.sz))/\WK O/\O.vars.length=k):=by
 intro m
 induction m with
 | zero=>exact ⟨fun s _ _ _ h=>by have:=s.sz_pos;omega,fun s _ _ _ _ h=>by have:=s.sz_pos;omega⟩
 | succ m ih=>
  have hs:∀(s:Z5) (L L':Zo) (q:Int),s.sz<=m+1->X7 n.decls L q->0<=q->0<=Y0 n L.vars s->WM n ln L s=some L'->X7 n.decls L' (q+4*s.sz)/\L'.vars=QG n L.vars s:=by
   intro s L L' q Xv hk hq hty h
   have hp:=s.sz_pos
   have hf:=Be hty
   obtain ⟨f1,f2,f3,f4,f5⟩:=hk.len
   rw [Hx] at h
   unfold Ke at h
   cases hpk:UT n ln L s.op s.num s.into s.args (U5 n ln L s.op s.num s.args s.kids) with
   | none=>rw [hpk] at h;cases h
   | some L1=>
    rw [hpk] at h
    simp only at h
    have key:X7 n.decls L1 (q+4*s.sz)/\L1.vars=L.vars:=by
     rw [UT] at hpk
     split at hpk
     ·obtain ⟨d1,d2,d3,d4,d5,d6⟩:=Iu hpk
      refine ⟨hk.turn d1 d2 d3 d4 (by rw [d5]) (by rw [d6,Tg]) ?_ ?_,d1⟩
      ·rw [d6];intro x hx
       rcases KG hx with hx|rfl
       ·exact hk.nn x hx
       ·have:=Ep (v:=gI s.args 0) hk.nn;omega
      ·rw [d6];intro x hx
       rcases KG hx with hx|rfl
       ·have:=hk.bd x hx;omega
       ·have:=La (v:=gI s.args 0) hk.bd hq;omega
     split at hpk
     ·exact ⟨(hk.take hpk).le om,(KP hpk).2.1⟩
     split at hpk
     ·rename_i hop
      obtain ⟨d1,d2,d3,d4,d5,Lt,ht,d6⟩:=M7 hpk
      have hkt:=hk.take ht
      have h3:=UF hn.decls (gI L.con (gI s.args 0))
      refine ⟨hk.turn d1 d2 d3 d4 d5 ?_ ?_ ?_,d1⟩
      ·rw [d6,I1,(KP ht).2.2.2.2.2.2,Tg]
      ·rw [d6];exact I2 _ _ _ hkt.nn
      ·rw [d6];intro x hx
       have:=I0 _ _ _ q hq hkt.bd x hx;omega
     split at hpk
     ·rename_i hop
      split at hpk
      ·cases hpk
      ·cases hks:s.kids with
       | nil=>rw [hks,U5] at hpk;cases hpk
       | cons b bs=>
        rw [hks,U5] at hpk
        unfold B4 at hpk
        cases hb:Wi n ln (WI n.decls L s.op s.num s.args 0) L.vars.length b with
        | none=>rw [hb] at hpk;cases hpk
        | some one=>
         rw [hb] at hpk
         simp only at hpk
         split at hpk
         ·cases hpk
          obtain ⟨q1,q2,q3⟩:=hf.kids hop
          have hks0:s.kids[0]? = some b:=by rw [hks];rfl
          obtain ⟨a0,ha0⟩:=QQ (xs:=X8 n.decls s.op s.num) (j:=0) om
          obtain ⟨k1,k2⟩:=CG hk hq hf hop ha0
          have hbz:=Tq hks0
          obtain ⟨⟨r1,r2,r3⟩,_⟩:=ih.2 b _ one q L.vars.length om k1 hq (by rw [k2];exact q3 0 b a0 hks0 ha0) (by rw [k2];simp) hb
          refine ⟨hk.turn rfl rfl rfl rfl (by simp only;omega) (by simp only;omega) (fun x hx=>(r3 x hx).1) (fun x hx=>?_),rfl⟩
          have:=(r3 x hx).2;omega
         ·cases hpk
     ·obtain ⟨k1,k2⟩:=Px hk hpk
      exact ⟨k1.le om,k2⟩
    split at h
    ·rename_i hd
     cases h
     refine ⟨key.1.grow om ?_,by rw [QG,Zd hd];simp [Zo.grow,key.2]⟩
     split<;>omega
    ·rename_i hd
     cases h
     exact ⟨key.1,by rw [QG,Z6 hd];exact key.2⟩
  refine ⟨hs,?_⟩
  intro b L O q k Xv hk hq hty hkl h
  have hsteps:∀(l:List Z5) (L L':Zo) (q:Int) (vs:LI),Yk l<=m->X7 n.decls L q->0<=q->Xj n l L.vars=some vs->Xt n ln L l=some L'->X7 n.decls L' (q+4*Yk l)/\L'.vars=vs:=by
   intro l
   induction l with
   | nil=>intro L L' q vs _ hk _ h1 h2;rw [Xj] at h1;rw [Xt] at h2;cases h1;cases h2;exact ⟨by simpa [Yk] using hk,rfl⟩
   | cons s r ihr=>
    intro L L' q vs hz hk hq h1 h2
    rw [Yk] at hz
    rw [Xt] at h2
    obtain ⟨L1,e1,e2⟩:=C0 h2
    rw [Xj] at h1
    split at h1
    ·cases h1
    ·rename_i h0
     obtain ⟨k1,k2⟩:=hs s L L1 q om hk hq om e1
     obtain ⟨k3,k4⟩:=ihr L1 L' (q+4*s.sz) vs om k1 om (by rw [k2];exact h1) e2
     exact ⟨k3.le (by rw [Yk];omega),k4⟩
  have hbz:=b.sz_eq
  rw [J1] at h
  obtain ⟨L1,e1,e2⟩:=C0 h
  rw [Cf] at hty
  cases hv:Xj n b.steps L.vars with
  | none=>rw [hv] at hty;simp at hty
  | some vs=>
   obtain ⟨k1,k2⟩:=hsteps b.steps L L1 q vs om hk hq hv e1
   have hlen:=Z27 hv
   rw [Uh] at e2
   obtain ⟨L2,e3,e4⟩:=C0 e2
   have k3:X7 n.decls L2 (q+4*Yk b.steps)/\L2.vars=L1.vars:=by
    split at e3
    ·exact ⟨k1.take e3,(KP e3).2.1⟩
    ·cases e3;exact ⟨k1,rfl⟩
   obtain ⟨rfl,_⟩:=Z6e e4
   obtain ⟨g1,g2,g3,g4,g5⟩:=k3.1.len
   have hl2:L2.vars.length=vs.length:=by rw [k3.2,k2]
   refine ⟨⟨by simp [Zo.take];omega,by simp [Zo.take];omega,fun x hx=>?_⟩,⟨by simp [Zo.take];omega,by simp [Zo.take];omega,by simp [Zo.take];omega,by simp [Zo.take];omega,by simp [Zo.take];omega⟩,by simp [Zo.take];omega⟩
   have hx':x∈L2.own:=TB hx
   have:=k3.1.nn x hx'
   have:=k3.1.bd x hx'
   omega
theorem Fg {n:Zl} (hn:X3 n) {ln:LI} {s:Z5} {L L':Zo} {q:Int} (hk:X7 n.decls L q) (hq:0<=q) (hty:0<=Y0 n L.vars s) (h:WM n ln L s=some L'):X7 n.decls L' (q+4*s.sz)/\L'.vars=QG n L.vars s:=
 (LM n hn ln s.sz).1 s L L' q (X6 _) hk hq hty h
theorem NJ {n:Zl} (hn:X3 n) {ln:LI} {b:Z7} {L O:Zo} {q:Int} {k:Nat} (hk:X7 n.decls L q) (hq:0<=q) (hty:0<=YS n L.vars b) (hkl:k<=L.vars.length) (h:Wi n ln L k b=some O) :
  O.own.length=k/\O.tok.length=k/\(∀x∈O.own,0<=x/\x<=q+4*b.sz):=
 ((LM n hn ln b.sz).2 b L O q k (X6 _) hk hq hty hkl h).1
theorem BP {n:Zl} (hn:X3 n) {ln:LI} {s:Z5} {L L1:Zo} {q:Int} (hk:X7 n.decls L q) (hq:0<=q) (hf:AG n L.vars s)
  (hpk:UT n ln L s.op s.num s.into s.args (U5 n ln L s.op s.num s.args s.kids)=some L1):X7 n.decls L1 (q+4*s.sz)/\L1.vars=L.vars:=by
 have hp:=s.sz_pos
 obtain ⟨f1,f2,f3,f4,f5⟩:=hk.len
 rw [UT] at hpk
 split at hpk
 ·obtain ⟨d1,d2,d3,d4,d5,d6⟩:=Iu hpk
  refine ⟨hk.turn d1 d2 d3 d4 (by rw [d5]) (by rw [d6,Tg]) ?_ ?_,d1⟩
  ·rw [d6];intro x hx
   rcases KG hx with hx|rfl
   ·exact hk.nn x hx
   ·have:=Ep (v:=gI s.args 0) hk.nn;omega
  ·rw [d6];intro x hx
   rcases KG hx with hx|rfl
   ·have:=hk.bd x hx;omega
   ·have:=La (v:=gI s.args 0) hk.bd hq;omega
 split at hpk
 ·exact ⟨(hk.take hpk).le om,(KP hpk).2.1⟩
 split at hpk
 ·rename_i hop
  obtain ⟨d1,d2,d3,d4,d5,Lt,ht,d6⟩:=M7 hpk
  have hkt:=hk.take ht
  have h3:=UF hn.decls (gI L.con (gI s.args 0))
  refine ⟨hk.turn d1 d2 d3 d4 d5 ?_ ?_ ?_,d1⟩
  ·rw [d6,I1,(KP ht).2.2.2.2.2.2,Tg]
  ·rw [d6];exact I2 _ _ _ hkt.nn
  ·rw [d6];intro x hx
   have:=I0 _ _ _ q hq hkt.bd x hx;omega
 split at hpk
 ·rename_i hop
  split at hpk
  ·cases hpk
  ·cases hks:s.kids with
   | nil=>rw [hks,U5] at hpk;cases hpk
   | cons b bs=>
    rw [hks,U5] at hpk
    unfold B4 at hpk
    cases hb:Wi n ln (WI n.decls L s.op s.num s.args 0) L.vars.length b with
    | none=>rw [hb] at hpk;cases hpk
    | some one=>
     rw [hb] at hpk
     simp only at hpk
     split at hpk
     ·cases hpk
      obtain ⟨q1,q2,q3⟩:=hf.kids hop
      have hks0:s.kids[0]? = some b:=by rw [hks];rfl
      obtain ⟨a0,ha0⟩:=QQ (xs:=X8 n.decls s.op s.num) (j:=0) om
      obtain ⟨k1,k2⟩:=CG hk hq hf hop ha0
      have hbz:=Tq hks0
      obtain ⟨r1,r2,r3⟩:=NJ hn k1 hq (by rw [k2];exact q3 0 b a0 hks0 ha0) (by rw [k2];simp) hb
      refine ⟨hk.turn rfl rfl rfl rfl (by simp only;omega) (by simp only;omega) (fun x hx=>(r3 x hx).1) (fun x hx=>?_),rfl⟩
      have:=(r3 x hx).2;omega
     ·cases hpk
 ·obtain ⟨k1,k2⟩:=Px hk hpk
  exact ⟨k1.le om,k2⟩
end Go.Abs
section
namespace Go.Abs
theorem FG {ds:List Zf} {op num:Int} {i:Nat} {m:LI} (h8:op=8) (h:(X8 ds op num)[i]? = some m):∃c,(ZV ds num)[i]? = some c/\m=ZX ds c:=by
 rw [X8,Z6 om,TA] at h
 cases hc:(ZV ds num)[i]? with
 | none=>rw [hc] at h;cases h
 | some c=>rw [hc] at h;cases h;exact ⟨c,rfl,rfl⟩
theorem Rl {ds:List Zf} {L:Zo} {op num x c:Int} {args:LI} {i:Nat} (h8:op=8) (hx:args[0]? = some x) (hc:(ZV ds num)[i]? = some c):WI ds L op num args i=KX ds L x c:=by
 have h1:gI args 0=x:=by rw [gI];simp [hx]
 have h2:gI (ZV ds num) (i:Int)=c:=by rw [gI];simp [hc]
 rw [WI,Zd h8,h1,h2]
theorem Zcy {ds:List Zf} {L:Zo} {op num:Int} {args:LI} {i:Nat} (h8:¬op=8):WI ds L op num args i=L:=by rw [WI,Z6 h8]
theorem Zd3 {n:Zl} {ln:LI} {L:Zo} {op num:Int} {args:LI} {kids:List Z7} {kb:Z7} (h:kids[0]? = some kb) :
  U5 n ln L op num args kids=B4 L (Wi n ln (WI n.decls L op num args 0) L.vars.length kb) fun one=>Uy n ln L op num args one (kids.drop 1) 1:=by
 cases kids with
 | nil=>simp at h
 | cons b bs=>simp at h;subst h;rw [U5];rfl
theorem EF {n:Zl} {ln:LI} {L one:Zo} {op num:Int} {args:LI} {kids:List Z7} {kb:Z7} {k:Nat} (h:kids[k]? = some kb) :
  Uy n ln L op num args one (kids.drop k) k=F6 one (Wi n ln (WI n.decls L op num args k) L.vars.length kb) (Uy n ln L op num args one (kids.drop (k+1)) (k+1)):=by
 rw [Y5 h,Uy]
def JV (n:Zl) (ln:LI) (L:Zo) (s:Z5):Option Zo:=
 if s.op=8/\¬XT L ln (gI s.args 0)=true then none else U5 n ln L s.op s.num s.args s.kids
theorem Z5h {n:Zl} {ln:LI} {L:Zo} {s:Z5} (h8:s.op=8) (ha:¬XT L ln (gI s.args 0)=true):JV n ln L s=none:=by rw [JV,Zd ⟨h8,ha⟩]
theorem NY {n:Zl} {ln:LI} {L:Zo} {s:Z5} {kb:Z7} (h:¬(s.op=8/\¬XT L ln (gI s.args 0)=true)) (hk:s.kids[0]? = some kb) :
  JV n ln L s=B4 L (Wi n ln (WI n.decls L s.op s.num s.args 0) L.vars.length kb) fun one=>Uy n ln L s.op s.num s.args one (s.kids.drop 1) 1:=by
 rw [JV,Z6 h,Zd3 hk]
theorem JZ {xs:LI} {x:Int} (h:xs[0]? = some x):gI xs 0=x:=by rw [gI];simp [h]
end Go.Abs
namespace Go.Abs
theorem WK.grow {L:Zo} {t o p:Int} (h:WK L):WK (L.grow t o p):=by
 obtain ⟨f1,f2,f3,f4,f5⟩:=h
 exact ⟨by simp [Zo.grow,f1],by simp [Zo.grow,f2],by simp [Zo.grow,f3],by simp [Zo.grow,f4],by simp [Zo.grow,f5]⟩
theorem WK.arm {L:Zo} {i j:Nat} {c d:Int} (h:WK L):WK ⟨L.vars,L.own,L.par,L.con.set i c,L.fst.set j d,L.tok⟩:=by
 obtain ⟨f1,f2,f3,f4,f5⟩:=h
 exact ⟨f1,f2,by simp [f3],by simp [f4],f5⟩
end Go.Abs
namespace Go.Abs
theorem Rs {n:Zl} (hn:X3 n) {ln:LI} {L O:Zo} {q:Int} {s:Z5} {i:Nat} {kb:Z7} {m:LI} (hk:X7 n.decls L q) (hq:0<=q) (hf:AG n L.vars s) (hop:s.op=7∨s.op=8)
  (_:s.kids[i]? = some kb) (harm:(X8 n.decls s.op s.num)[i]? = some m) (hbt:0<=YS n (L.vars++m) kb) (h:Wi n ln (WI n.decls L s.op s.num s.args i) L.vars.length kb=some O) :
  O.own.length=L.vars.length/\O.tok.length=L.vars.length:=by
 obtain ⟨k1,k2⟩:=CG hk hq hf hop harm
 obtain ⟨r1,r2,_⟩:=NJ hn k1 hq (by rw [k2];exact hbt) (by rw [k2];simp) h
 exact ⟨r1,r2⟩
theorem Z0i {one two:Zo} {r:Bool} (h:¬(¬one.own=two.own∨¬one.tok=two.tok)):F6 one (some two) r=r:=Zd ⟨Wc.1 fun q=>h (.inl q),Wc.1 fun q=>h (.inr q)⟩
theorem Z0h {one two:Zo} {r:Bool} (h:¬one.own=two.own∨¬one.tok=two.tok):F6 one (some two) r=false:=Z6 fun q=>h.elim (fun z=>z q.1) fun z=>z q.2
theorem RT {L one:Zo} {f:Zo->Bool} (h:f one=true):B4 L (some one) f=some ⟨L.vars,one.own,L.par,L.con,L.fst,one.tok⟩:=Zd h
theorem EI {L one:Zo} {f:Zo->Bool} (h:f one=false):B4 L (some one) f=none:=Z6 (by rw [h];simp)
end Go.Abs
namespace Go.Abs
section
variable {n:Zl} {ln:LI} {L:Zo} {s:Z5}
abbrev Qi (n:Zl) (ln:LI) (L:Zo) (s:Z5):Option Zo:=UT n ln L s.op s.num s.into s.args (U5 n ln L s.op s.num s.args s.kids)
theorem ES {x:Int} (h:s.op=14) (hx:gI s.args 0=x):Qi n ln L s=Kw L ln x:=hx▸Zd h
theorem ET {x:Int} (h:s.op=15) (hx:gI s.args 0=x):Qi n ln L s=Ua L x:=by rw [<-hx,Qi,UT,Z6 om,Zd h]
theorem Hf {x:Int} (h:s.op=16∨s.op=17) (hx:gI s.args 0=x):Qi n ln L s=Qg n.decls L s.op x:=by rw [<-hx,Qi,UT,Z6 om,Z6 om,Zd h]
theorem Hg (h:s.op=7∨s.op=8):Qi n ln L s=JV n ln L s:=by rw [Qi,UT,Z6 om,Z6 om,Z6 om,Zd h,JV]
theorem Sx (h1:¬s.op=14) (h2:¬s.op=15) (h3:¬(s.op=16∨s.op=17)) (h4:¬(s.op=7∨s.op=8)):Qi n ln L s=UI n ln L s.op s.num s.into s.args:=by
 rw [Qi,UT,Z6 h1,Z6 h2,Z6 h3,Z6 h4]
theorem Z73 {v:Int} (h:¬XT L ln v=true):Kw L ln v=none:=Z6 h
theorem Z74 {v x:Int} (h:¬¬XT L ln v=true) (hx:gI L.own v=x):Kw L ln v=some ⟨L.vars,L.own.set v.toNat (x+1),L.par,L.con,L.fst,L.tok⟩:=by rw [Kw,Zd (Wc.1 h),hx]
theorem U9 (n:Zl) (ln:LI) (L:Zo) (s:Z5):WM n ln L s=Ke L s.op (Y0 n L.vars s) (Qi n ln L s):=Hx n ln L s
theorem TL {X:Zo} {op t:Int} (h:W7 op=true/\t≠0):Ke L op t (some X)=some (X.grow t 1 (-1)):=by
 unfold Ke;simp only [h.1,↓reduceIte];rw [Zd h.2]
theorem TM {X:Zo} {op t:Int} (h:¬(W7 op=true/\t≠0)) (h2:W7 op=true):Ke L op t (some X)=some (X.grow 0 0 (-1)):=by
 have ht:t=0:=Wc.1 fun q=>h ⟨h2,q⟩
 subst ht
 unfold Ke;simp only [h2,↓reduceIte];rfl
theorem To {X:Zo} {op t:Int} (h:¬W7 op=true):Ke L op t (some X)=some X:=by
 unfold Ke;simp only [Z6 h]
end
end Go.Abs
namespace Go.Abs
theorem Cg {n:Zl} {us:LI} {b:Z7} (h:0<=YS n us b):∃vs t,Xj n b.steps us=some vs/\Xc vs b.result=some t/\0<=t:=by
 rw [Cf] at h
 cases hv:Xj n b.steps us with
 | none=>rw [hv] at h;simp at h
 | some vs=>
  rw [hv] at h
  simp only at h
  cases ha:Xc vs b.result with
  | none=>rw [ha] at h;simp at h
  | some t=>rw [ha] at h;exact ⟨vs,t,rfl,ha,h⟩
theorem CS {n:Zl} {us vs:LI} {s:Z5} {r:List Z5} (h:Xj n (s::r) us=some vs):0<=Y0 n us s/\Xj n r (QG n us s)=some vs:=by
 rw [Xj] at h
 split at h
 ·cases h
 ·exact ⟨by omega,h⟩
theorem F7 (n:Zl) (us:LI) (s:Z5):us.length<=(QG n us s).length/\(QG n us s).length<=us.length+s.sz:=by
 have:=s.sz_pos
 rw [QG];split
 ·simp only [Yq,HS];omega
 ·omega
end Go.Abs
namespace Go.Abs
theorem Z7u {X L:Zo} {m:Nat} {r x:Int} (hg:gI L.vars r=x) (h:x≠0) (ht:Ua L r=some X):Uh m r L=UG X m:=by rw [Uh,hg,Zd h,ht];rfl
theorem Z7t {L:Zo} {m:Nat} {r x:Int} (hg:gI L.vars r=x) (h:x≠0) (ht:Ua L r=none):Uh m r L=none:=by rw [Uh,hg,Zd h,ht];rfl
theorem Ei {L:Zo} {m:Nat} {r x:Int} (hg:gI L.vars r=x) (h:¬x≠0):Uh m r L=UG L m:=by rw [Uh,hg,Z6 h];rfl
end Go.Abs
namespace Go.Abs
theorem Sv {ds:List Zf} {lent:LI}:∀{ps:LI} {i:Nat} {L:Zo},X7 ds L 1->X7 ds (KI lent ps i L) 1/\(KI lent ps i L).vars=L.vars++ps
 | [],i,L,hk=>⟨hk,by simp [KI]⟩
 | t::r,i,L,hk=>by
  rw [KI]
  obtain ⟨k1,k2⟩:=Sv (lent:=lent) (ps:=r) (i:=i+1) (hk.grow (t:=t) (o:=if t≠0/\¬(i:Int)∈lent then 1 else 0) (p:=-1) om (by split<;>omega))
  exact ⟨k1,by rw [k2];simp [Zo.grow]⟩
theorem H8 (ds:List Zf) (r:Yb):X7 ds (U6 r) 1/\(U6 r).vars=r.params:=by
 have h:X7 ds (⟨[],[],[],[],[],[]⟩:Zo) 1:=⟨⟨rfl,rfl,rfl,rfl,rfl⟩,fun j h1 h2=>by simp at h2;omega,fun j h1 h2=>by simp at h2;omega,by simp,by simp⟩
 obtain ⟨k1,k2⟩:=Sv (lent:=r.lent) (ps:=r.params) (i:=0) h
 exact ⟨k1,by rw [U6,k2];rfl⟩
theorem Z6c {L:Zo} (h:UG L 0=none):(UG L 0).isSome=false:=by rw [h];rfl
theorem Z6d {L L':Zo} (h:UG L 0=some L'):(UG L 0).isSome=true:=by rw [h];rfl
theorem Z4y {n:Zl} (hn:X3 n) {ln:LI} {b:Z7} {L O:Zo} {q:Int} {k:Nat} (hk:X7 n.decls L q) (hq:0<=q) (hty:0<=YS n L.vars b) (hkl:k<=L.vars.length) (h:Wi n ln L k b=some O) :
  WK O/\O.vars.length=k:=
 ((LM n hn ln b.sz).2 b L O q k (X6 _) hk hq hty hkl h).2
end Go.Abs
namespace Go.Abs
theorem Mr {n:Zl}:∀{l:List Yb},QD n l=true->∀r∈l,¬UV r.body<0/\YS n r.params r.body=r.result
 | [],_,r,h=>by simp at h
 | a::l,h,r,hr=>by
  rw [QD] at h
  split at h
  ·rename_i h1
   rcases YH.1 hr with rfl|hr
   ·exact h1
   ·exact Mr h r hr
  ·cases h
theorem Ft {n:Zl} (hz:V7 n) (h:XK n=true):X3 n/\∀r∈n.routines,0<=YS n r.params r.body:=by
 simp only [XK,W9] at h
 refine ⟨LY hz h.1,fun r hr=>?_⟩
 rw [(Mr h.2 r hr).2]
 have h1:=h.1
 simp only [VC,Kl,W9] at h1
 have:=Hs h1.2.1.2.2.1 (Uk r) (XG.2 ⟨r,hr,rfl⟩)
 simp only [Je,W9,decide_eq_true_eq,Uk] at this
 exact (of_decide_eq_true this.2.2).1
end Go.Abs
end
section
namespace Go.Abs
theorem IK {xs:LI} (h:Z8 xs=[]):xs=[]:=by cases xs with|nil=>rfl|cons x r=>cases h
theorem Z78 {xs:List Yg} (h:XV xs=[]):xs=[]:=by cases xs with|nil=>rfl|cons x r=>cases h
theorem Z7b {xs:List Zf} (h:YB xs=[]):xs=[]:=by cases xs with|nil=>rfl|cons x r=>cases h
def Av (i:Int):LI->Nat->Int
 | [],_=>-1
 | x::r,k=>if i=x then (k:Int) else Av i r (k+1)
def GK (xs:LI) (i:Int):Int:=Av i xs 0
theorem PY (i:Int):∀(xs:LI) (k:Nat),(0<=Av i xs k↔i∈xs)/\-1<=Av i xs k
 | [],k=>by simp [Av]
 | x::r,k=>by
  rw [Av]
  obtain ⟨h1,h2⟩:=PY i r (k+1)
  split
  ·rename_i h;subst h;simp<;>omega
  ·rename_i h;simp [h1,h,h2]
theorem Zc7 (xs:LI) (i:Int):decide (GK xs i>=0)=decide (i∈xs):=by
 rw [decide_eq_decide];exact (PY i xs 0).1
end Go.Abs
namespace Go.Abs
theorem P8 (xss:List LI) (k:Nat):(xss.take k).flatten.length<=xss.flatten.length:=by
 conv=>rhs;rw [<-UW k xss,List.flatten_append,Yq]
 omega
end Go.Abs
namespace Go.Abs
theorem L7 {xss:List LI} {k:Nat} {x:LI} (h:xss[k]? = some x):(xss.take (k+1)).flatten=(xss.take k).flatten++x:=by rw [V4 h,List.flatten_append];simp
theorem P7 {xss:List LI} {k:Nat} {x:LI} (h:xss[k]? = some x):(xss.take k).flatten.length+x.length<=xss.flatten.length:=by
 have:=P8 xss (k+1)
 rw [L7 h,Yq] at this
 exact this
end Go.Abs
end
section
namespace Go.Abs
theorem Z5w {c:Int} {ds:List Zf} {k:Nat} {d:Zf} {r:Int × LI} (h:ds[k]? = some d) (hn:¬(c-YQ (ds.take k)>=0/\c-YQ (ds.take k)<d.cons.length))
  (hr:TG c (ds.drop k) k (YQ (ds.take k))=r):TG c (ds.drop (k+1)) (k+1) (YQ (ds.take (k+1)))=r:=by
 rw [Y5 h,TG,Z6 om] at hr
 rw [V4 h,Ea,<-hr];rfl
end Go.Abs
namespace Go.Abs
theorem Z5y {c:Int} {ds:List Zf} {k:Nat} {d:Zf} {x:Yg} (h:ds[k]? = some d) (hn:c-YQ (ds.take k)>=0/\c-YQ (ds.take k)<d.cons.length)
  (hx:d.cons[(c-YQ (ds.take k)).toNat]? = some x):TG c (ds.drop k) k (YQ (ds.take k))=((k:Int)+1,x.fields):=by
 rw [Y5 h,TG,Zd om,hx];rfl
def Bn (c:Int) (z:Nat) (v:Int):Prop:=v=c-z∨(c<0/\c-z < -9223372036854775808/\v=c-z+18446744073709551616)
theorem Z4e {c:Int} {z l:Nat} {v:Int} (h:Bn c z v) (hz:z<=100) (hl:l<=3) (hc:-9223372036854775808<=c/\c<=9223372036854775807):Bn c (z+l) (CW (v-l)):=by
 unfold Bn at *;rw [CW,IntKind.wrap_i64];omega
theorem Z5x {c v:Int} {ds:List Zf} {k:Nat} {d:Zf} {r:Int × LI} (h:ds[k]? = some d) (ha:Bn c (YQ (ds.take k)) v) (hn:¬(v>=0/\v<d.cons.length))
  (hr:TG c (ds.drop k) k (YQ (ds.take k))=r):TG c (ds.drop (k+1)) (k+1) (YQ (ds.take (k+1)))=r:=Z5w h (by unfold Bn at ha;omega) hr
theorem Z5z {c v:Int} {ds:List Zf} {k:Nat} {d:Zf} {x:Yg} (h:ds[k]? = some d) (ha:Bn c (YQ (ds.take k)) v) (hz:YQ (ds.take k)<=100) (hl:d.cons.length<=3) (hc:-9223372036854775808<=c)
  (hn:v>=0/\v<d.cons.length) (hx:d.cons[v.toNat]? = some x):TG c (ds.drop k) k (YQ (ds.take k))=((k:Int)+1,x.fields):=by
 have:v=c-(YQ (ds.take k):Int):=by unfold Bn at ha;omega
 subst this
 exact Z5y h hn hx
def U1 (ds:List Zf) (t:Int):Zf:=if XX ds t=true then (ds[(t-1).toNat]?).getD ⟨0,0,[]⟩ else ⟨0,0,[]⟩
end Go.Abs
namespace Go.Abs
abbrev Ok (ds:List Zf) (d:Zf):Prop:=
 (((¬(0<=d.frm/\d.frm<=ds.length))∨(¬(0<=d.to_/\d.to_<=ds.length)))∨((d.cons.length:Int)>3))∨(((d.cons.length:Int)>0)/\((d.frm≠0)∨(d.to_≠0)))
theorem Z6v {ds:List Zf} {d:Zf} {i:Nat} (h:Ok ds d):T2 ds d i=false:=by
 rw [T2]
 split
 ·rw [Z6];rintro ⟨h1,h2,h3⟩
  rcases h with ((h|h)|h)|h<;>omega
 ·split
  ·rfl
  ·rcases h with ((h|h)|h)|h
   ·rw [decide_eq_false h];rfl
   ·rw [decide_eq_false h,Bool.and_false]
   ·omega
   ·omega
theorem Z6w {ds:List Zf} {d:Zf} {i:Nat} (hl:0<d.cons.length) (h:Q9 ds.length d.cons=false):T2 ds d i=false:=by
 rw [T2,Zd hl];split
 ·exact h
 ·rfl
theorem Z6x {ds:List Zf} {d:Zf} {i:Nat} (hl:d.cons.length=0) (h:Kv d (ds.take i)=true):T2 ds d i=false:=by
 rw [T2,Z6 om,Zd h]
theorem Z6y {ds:List Zf} {d:Zf} {i:Nat} (h1:¬Ok ds d) (h2:Q9 ds.length d.cons=true) (h3:d.cons.length=0->Kv d (ds.take i)=false):T2 ds d i=true:=by
 rw [T2]
 have ha:0<=d.frm/\d.frm<=ds.length:=Wc.1 fun q=>h1 (.inl (.inl (.inl q)))
 have hb:0<=d.to_/\d.to_<=ds.length:=Wc.1 fun q=>h1 (.inl (.inl (.inr q)))
 have hc:¬(d.cons.length:Int)>3:=fun q=>h1 (.inl (.inr q))
 split
 ·rename_i hl
  have hd:¬(d.frm≠0∨d.to_≠0):=fun q=>h1 (.inr ⟨by omega,q⟩)
  rw [Zd ⟨by omega,by omega,by omega⟩];exact h2
 ·rw [Z6 (by rw [h3 om];simp),decide_eq_true ha,decide_eq_true hb];rfl
theorem MZ {ds:List Zf} {k:Nat} {d:Zf} (h:ds[k]? = some d) (hA:T2 ds d k=false) (c:TI ds (ds.drop k) k=TI ds ds 0):false=V5 ds:=by
 rw [V5,<-c,Y5 h,TI,Ec h,hA,Z6 (by simp),Bool.and_false]
theorem Zkw {ds:List Zf} {k:Nat} {d:Zf} {r:Bool} (h:ds[k]? = some d) (hA:T2 ds d k=true) (c:TI ds (ds.drop k) k=r):TI ds (ds.drop (k+1)) (k+1)=r:=by
 rw [Y5 h,TI,Ec h,hA,Zd rfl] at c;exact c
theorem Zkv {ds:List Zf} {k:Nat} (hl:ds.length<=4) (hk:ds.length<=k) (c:TI ds (ds.drop k) k=TI ds ds 0):true=V5 ds:=by
 rw [V5,<-c,Xm hk,decide_eq_true hl];rfl
theorem Z60 {m:Nat} {c:Yg} (h:((c.fields.length:Int)>3)∨(¬(Wr m c.fields=true))):JX m c=false:=by
 rw [JX]
 rcases h with h|h
 ·rw [decide_eq_false om];rfl
 ·rw [Kn.2 h,Bool.and_false]
theorem Z61 {m:Nat} {c:Yg} (h:¬(((c.fields.length:Int)>3)∨(¬(Wr m c.fields=true)))):JX m c=true:=by
 rw [JX,Wc.1 fun q=>h (.inr q),decide_eq_true (by have:¬(c.fields.length:Int)>3:=fun q=>h (.inl q);omega)];rfl
end Go.Abs
end
section
namespace Go.Abs
structure Vr where
 pms:LI
 lnt:LI
 res:Int
abbrev RG (f:Vr):List AV:=[Z4 f.pms,Z4 f.lnt,.i f.res]
abbrev FC (f:Vr):AV:=.agg (RG f)
def TK (fs:List Vr):List AV:=fs.map FC
abbrev DB (xs:List Vr):AV:=.sl (TK xs) none
abbrev Ha (xs:List Vr) (v:Value):AV:=.sl (TK xs) (some v)
theorem Cr {xs:List Vr} {j:Nat} {x:Vr} (h:xs[j]? = some x):(TK xs)[j]? = some (FC x):=by simp [TK,h]
@[simp] theorem Eh (xs:List Vr):(TK xs).length=xs.length:=by simp [TK]
theorem OA (xs:List Vr):∀y∈TK xs,y.leaves.length=3:=by intro y hy;simp only [TK,XG] at hy;obtain ⟨x,_,rfl⟩:=hy;rfl
theorem Z7n (xs:List Vr):(Zh (TK xs)).all AV.one=true:=Jt fun y hy=>by simp only [TK,XG] at hy;obtain ⟨x,_,rfl⟩:=hy;rfl
def Wb (r:Yb):Vr:=⟨r.params,r.lent,r.result⟩
def Ax (m:Nat) (f:Vr):Bool:=Je m ⟨f.pms,f.res⟩&&JP f.pms f.lnt
def Jf (m:Nat):List Vr->Bool
 | []=>true
 | f::r=>if Ax m f=true then Jf m r else false
def IZ:List Vr->Bool
 | []=>false
 | f::_=>decide (f.pms.length=0)&&decide (f.res=0)
def JQ (ds:List Zf) (fs:List Vr):Bool:=V5 ds&&(decide (1<=fs.length/\fs.length<=4)&&(IZ fs&&Jf ds.length fs))
theorem OX {fs:List Vr} {x:Vr} (h:fs[0]? = some x):IZ fs=(decide (x.pms.length=0)&&decide (x.res=0)):=by
 cases fs with
 | nil=>simp at h
 | cons f r=>simp at h;subst h;rfl
theorem Z0v (m:Nat):∀rs:List Yb,Jf m (rs.map Wb)=(JD m (rs.map Uk)&&K1 rs)
 | []=>rfl
 | r::rs=>by
  simp only [VZ,Jf,JD,K1,Ax,Z0v m rs]
  simp only [Wb,Uk]
  by_cases h1:Je m { params:=r.params,result:=r.result }=true<;>by_cases h2:JP r.params r.lent=true<;>simp [h1,h2]
theorem S4 (n:Zl):VC n=(decide (n.routines.length<=4)&&JQ n.decls (n.routines.map Wb)):=by
 have hf:IZ (n.routines.map Wb)=Gi (n.routines.map Uk):=by
  cases n.routines with
  | nil=>rfl
  | cons r rs=>rfl
 rw [VC,JQ,Kl,Z0v,hf]
 simp only [Ka]
 cases decide (n.routines.length<=4)<;>cases V5 n.decls<;>cases decide (1<=n.routines.length/\n.routines.length<=4)<;>cases JD n.decls.length (n.routines.map Uk) <;>
  cases Gi (n.routines.map Uk)<;>cases K1 n.routines<;>rfl
theorem Hq {rs:List Yb} {j:Nat} {x:Vr} (h:(rs.map Wb)[j]? = some x):∃r,rs[j]? = some r/\x=Wb r:=by
 rw [TA] at h
 cases hr:rs[j]? with
 | none=>rw [hr] at h;cases h
 | some r=>rw [hr] at h;cases h;exact ⟨r,rfl,rfl⟩
theorem RO {ps ls:LI} {j:Nat} {v:Int} {r:Bool} (h:ls[j]? = some v) (hg:(0<=v/\v<=(ps.length:Int)-1)/\ps[v.toNat]?≠some 0/\(∀p,(if j=0 then none else ls[j-1]?)=some p->p<v))
  (hr:Kg ps (ls.drop j) (if j=0 then none else ls[j-1]?)=r):Kg ps (ls.drop (j+1)) (if j+1=0 then none else ls[j+1-1]?)=r:=by
 rw [Y5 h,LO hg] at hr
 rw [Z6 om,show j+1-1=j from rfl,h];exact hr
theorem LP {ps ls:LI} {j:Nat} {v:Int} {r:Bool} (h:ls[j]? = some v) (hg:¬((0<=v/\v<=(ps.length:Int)-1)/\ps[v.toNat]?≠some 0/\(∀p,(if j=0 then none else ls[j-1]?)=some p->p<v)))
  (hr:Kg ps (ls.drop j) (if j=0 then none else ls[j-1]?)=r):r=false:=by
 rw [Y5 h,H3 hg] at hr;exact hr.symm
theorem Hr {m:Nat} {fs:List Vr} {k:Nat} {f:Vr} {r:Bool} (h:fs[k]? = some f) (hb:Ax m f=false) (hr:Jf m (fs.drop k)=r):r=false:=by
 rw [Y5 h,Jf,hb,Z6 (by simp)] at hr;exact hr.symm
theorem Zhi {m:Nat} {fs:List Vr} {k:Nat} {f:Vr} {r:Bool} (h:fs[k]? = some f) (hb:Ax m f=true) (hr:Jf m (fs.drop k)=r):Jf m (fs.drop (k+1))=r:=by
 rw [Y5 h,Jf,Zd hb] at hr;exact hr
end Go.Abs
namespace Go.Abs
section
variable {ds:List Zf} {fs:List Vr} {x:Vr}
theorem Zl3 (h:((¬(V5 ds=true))∨((fs.length:Int)<1))∨((fs.length:Int)>4)):false=JQ ds fs:=by
 rw [JQ]
 rcases h with (h|h)|h
 ·rw [Kn.2 h];rfl
 ·rw [decide_eq_false (p:=1<=fs.length/\fs.length<=4) om];simp
 ·rw [decide_eq_false (p:=1<=fs.length/\fs.length<=4) om];simp
theorem Z2o (hx:fs[0]? = some x) (h:((x.pms.length:Int)>0)∨x.res≠0):false=JQ ds fs:=by
 rw [JQ,OX hx]
 rcases h with h|h
 ·rw [decide_eq_false (p:=x.pms.length=0) om];simp
 ·rw [decide_eq_false (p:=x.res=0) h];simp
theorem HI (h:Jf ds.length fs=false):false=JQ ds fs:=by rw [JQ,h];simp
theorem Zl4 (h:¬(((¬(V5 ds=true))∨((fs.length:Int)<1))∨((fs.length:Int)>4))) (hx:fs[0]? = some x) (h1:¬((x.pms.length:Int)>0)) (h2:¬x.res≠0) (h3:Jf ds.length fs=true) :
  true=JQ ds fs:=by
 have hv:V5 ds=true:=Wc.1 fun q=>h (.inl (.inl q))
 have ha:¬(fs.length:Int)<1:=fun q=>h (.inl (.inr q))
 have hb:¬(fs.length:Int)>4:=fun q=>h (.inr q)
 rw [JQ,OX hx,hv,h3,decide_eq_true (p:=1<=fs.length/\fs.length<=4) om,decide_eq_true (p:=x.pms.length=0) om,decide_eq_true (p:=x.res=0) (Wc.1 h2)];rfl
abbrev Z0s (m:Nat) (x:Vr):Prop:=(((x.pms.length:Int)>3)∨(¬(Wr m x.pms=true)))∨(¬(0<=x.res/\x.res<=m))
theorem Zgw {m:Nat} (h:Z0s m x):Ax m x=false:=by
 rw [Ax,Je]
 rcases h with (h|h)|h
 ·rw [decide_eq_false (p:=x.pms.length<=3) om];simp
 ·rw [Kn.2 h];simp
 ·rw [decide_eq_false h];simp
theorem Mx {m:Nat} (h:JP x.pms x.lnt=false):Ax m x=false:=by rw [Ax,h,Bool.and_false]
theorem Zgx {m:Nat} (h:¬Z0s m x) (hl:JP x.pms x.lnt=true):Ax m x=true:=by
 have h1:¬(x.pms.length:Int)>3:=fun q=>h (.inl (.inl q))
 rw [Ax,Je,hl,decide_eq_true (p:=x.pms.length<=3) om,Wc.1 fun q=>h (.inl (.inr q)),decide_eq_true (Wc.1 fun q=>h (.inr q))];rfl
end
end Go.Abs
namespace Go.Abs
abbrev YO (n:Zl):AV:=DB (n.routines.map Wb)
end Go.Abs
end
section
namespace Go.Abs
def Ws (us:LI):LI->Option LI
 | []=>some []
 | a::r=>match Xc us a with
  | none=>none
  | some t=>match Ws us r with
   | none=>none
   | some ts=>some (t::ts)
theorem MV {us:LI}:∀{args ts:LI},Ws us args=some ts->∀tys,Wf us args tys=true↔ts=tys
 | [],ts,h,tys=>by
  rw [Ws] at h;cases h
  cases tys with
  | nil=>simp [Wf,Tx]
  | cons t r=>simp [Wf,Tx]
 | a::r,ts,h,tys=>by
  rw [Ws] at h
  cases ha:Xc us a with
  | none=>rw [ha] at h;cases h
  | some t=>
   rw [ha] at h
   cases hr:Ws us r with
   | none=>rw [hr] at h;cases h
   | some tr=>
    rw [hr] at h;cases h
    cases tys with
    | nil=>simp [Wf,Tx]
    | cons t2 r2=>
     rw [Wf,Tx,ha]
     have:=MV hr r2
     rw [Wf] at this
     by_cases he:t=t2
     ·subst he;simp [this]
     ·rw [Z6 (fun q=>he (UY q))];simp [he]
theorem Nt {us:LI}:∀{args ts:LI},Ws us args=some ts->ts.length=args.length
 | [],ts,h=>by rw [Ws] at h;cases h;rfl
 | a::r,ts,h=>by
  rw [Ws] at h
  cases ha:Xc us a with
  | none=>rw [ha] at h;cases h
  | some t=>
   rw [ha] at h
   cases hr:Ws us r with
   | none=>rw [hr] at h;cases h
   | some tr=>rw [hr] at h;cases h;simp [Nt hr]
theorem Nu {us:LI} {b t:Int}:∀{xs ts:LI},Ws us xs=some ts->Xc us b=some t->Ws us (xs++[b])=some (ts++[t])
 | [],ts,h,hb=>by rw [Ws] at h;cases h;simp [Ws,hb]
 | a::r,ts,h,hb=>by
  rw [Ws] at h
  cases ha:Xc us a with
  | none=>rw [ha] at h;cases h
  | some u=>
   rw [ha] at h
   cases hr:Ws us r with
   | none=>rw [hr] at h;cases h
   | some tr=>
    rw [hr] at h;cases h
    rw [Q6,Ws,ha,Nu hr hb];rfl
def E3 (n:Zl) (num:Int):LI->Option Int
 | [a,b]=>if XX n.decls a=true/\b=(U1 n.decls a).frm/\num=0 then some (U1 n.decls a).to_ else none
 | _=>none
def XS (n:Zl) (op num:Int) (ts:LI):Option Int:=
 if op=0 then (if (-999<=num/\num<=999)/\ts.length=0 then some 0 else none)
 else if op=1∨op=2∨op=3∨op=4 then (if num=0/\ts=[0,0] then some 0 else none)
 else if op=5 then (if num=0/\ts=[0] then some 0 else none)
 else if op=11 then E3 n num ts
 else if op=6 then (if 0<=Wk n.decls num/\ts=ZX n.decls num then some (Wk n.decls num) else none)
 else if op=9 then (match Xc n.routines num with
  | none=>none
  | some r=>if ts=r.params then some r.result else none)
 else if op=10 then (match Xc n.routines num with
  | none=>none
  | some r=>if r.params.length≠0/\0<=Jp n.decls r.params r.result/\ts=r.params.take (r.params.length-1) then some (Jp n.decls r.params r.result) else none)
 else none
theorem FF {n:Zl} {num:Int} {ts:LI} (h:ts.length≠2):E3 n num ts=none:=by
 match ts,h with
 | [],_=>rfl
 | [_],_=>rfl
 | [_,_],h=>simp at h
 | _::_::_::_,_=>rfl
structure KV (n:Zl):Prop where
 result:∀r∈n.routines,0<=r.result
 params:∀r∈n.routines,∀p∈r.params,0<=p
 decl:∀d∈n.decls,d.cons.length=0->0<=d.frm/\0<=d.to_
 fields:∀c,∀f∈ZX n.decls c,0<=f
abbrev R3 (us:LI) (s:Z5):Prop:=s.into≠0/\(((s.op≠6∨s.into<1)∨s.into>us.length)∨gI us (s.into-1)=0)
theorem Zcp {us:LI} {op into:Int} (hnn:∀t∈us,0<=t) (h:¬(into≠0/\(((op≠6∨into<1)∨into>us.length)∨gI us (into-1)=0))):Uc us op into=true:=by
 rw [Uc]
 split
 ·rfl
 ·rename_i h0
  have h1:¬(((op≠6∨into<1)∨into>us.length)∨gI us (into-1)=0):=fun q=>h ⟨h0,q⟩
  have h2:op=6:=Wc.1 fun q=>h1 (.inl (.inl (.inl q)))
  have h3:¬into<1:=fun q=>h1 (.inl (.inl (.inr q)))
  have h4:¬into>us.length:=fun q=>h1 (.inl (.inr q))
  have h5:¬gI us (into-1)=0:=fun q=>h1 (.inr q)
  obtain ⟨t,ht⟩:=QQ (xs:=us) (j:=(into-1).toNat) om
  rw [Zd h2,Q8 om ht]
  rw [VQ ht] at h5
  have:=hnn t (Y4 ht)
  simp;omega
theorem Zco {us:LI} {op into:Int} (h:into≠0/\(((op≠6∨into<1)∨into>us.length)∨gI us (into-1)=0)):Uc us op into=false:=by
 obtain ⟨h0,h⟩:=h
 rw [Uc,Z6 h0]
 split
 ·rename_i h6
  cases ha:Xc us (into-1) with
  | none=>rfl
  | some t=>
   obtain ⟨a1,a2⟩:=J0 ha
   rcases h with ((h|h)|h)|h
   ·exact absurd h6 h
   ·omega
   ·omega
   ·rw [VQ a2] at h;subst h;rfl
 ·rfl
theorem Zk4 {n:Zl} {us:LI} {s:Z5} (h:R3 us s):Y0 n us s=-1:=by
 rw [A6,Zd (.inr (.inl (by rw [Zco h];simp)))]
end Go.Abs
namespace Go.Abs
theorem Zcq {α:Type} {c:Prop} [Decidable c] {v:α}:(if c then some v else none).isSome=decide c:=by split<;>simp_all
theorem Zhj {n:Zl} (hty:KV n) {op num:Int} {ts:LI} {x:Int} (h:XS n op num ts=some x):0<=x:=by
 unfold XS at h
 split at h
 ·split at h<;>cases h;exact Int.le_refl 0
 split at h
 ·split at h<;>cases h;exact Int.le_refl 0
 split at h
 ·split at h<;>cases h;exact Int.le_refl 0
 split at h
 ·rcases ts with _|⟨a,_|⟨b,_|⟨c,r⟩⟩⟩
  ·cases h
  ·cases h
  ·rw [E3] at h
   split at h
   ·rename_i hq
    cases h
    rw [U1,Zd hq.1]
    have hA:=hq.1
    simp only [XX,W9,decide_eq_true_eq] at hA
    cases hd:n.decls[(a-1).toNat]? with
    | none=>rw [hd] at hA;simp at hA
    | some d=>
     rw [hd] at hA
     exact (hty.decl d (Y4 hd) (by simpa using hA.2)).2
   ·cases h
  ·cases h
 split at h
 ·split at h
  ·rename_i hq;cases h;exact hq.1
  ·cases h
 split at h
 ·cases ha:Xc n.routines num with
  | none=>rw [ha] at h;cases h
  | some r=>
   rw [ha] at h
   simp only at h
   split at h
   ·cases h;exact hty.result r (Y4 (J0 ha).2)
   ·cases h
 split at h
 ·cases ha:Xc n.routines num with
  | none=>rw [ha] at h;cases h
  | some r=>
   rw [ha] at h
   simp only at h
   split at h
   ·rename_i hq;cases h;exact hq.2.1
   ·cases h
 ·cases h
def JJ (n:Zl) (us:LI) (s:Z5) (ts:LI):Int:=
 if YC s.op=true then (match ts with
  | [t]=>if t≠0/\s.num=0/\s.kids.length=0/\¬((s.op=16∨s.op=17)/\XX n.decls t=true) then 0 else -1
  | _=>-1)
 else if s.op=7 then (if ts=[0]/\s.num=0 then Q1 n us s.op s.num s.kids else -1)
 else if s.op=8 then (if ts=[s.num] then Q1 n us s.op s.num s.kids else -1)
 else if 0<s.kids.length∨(s.op=10/\0<(((Xc n.routines s.num).map (·.lent)).getD []).length) then -1
 else (XS n s.op s.num ts).getD (-1)
theorem R6 {p q:Prop} [Decidable p] [Decidable q] {a b:Int} (h:p↔q):ite p a b=ite q a b:=by
 by_cases hp:p
 ·rw [Zd hp,Zd (h.1 hp)]
 ·rw [Z6 hp,Z6 (fun z=>hp (h.2 z))]
theorem BY {n:Zl} {us:LI} {s:Z5} {ts:LI} (hnn:∀t∈us,0<=t) (hts:Ws us s.args=some ts) (hi:¬R3 us s):Y0 n us s=JJ n us s ts:=by
 have hv:=Zcp hnn hi
 have ht:=MV hts
 have hl:=Nt hts
 have hfirst:((s.num≠0/\¬VI s.op=true)∨¬Uc us s.op s.into=true∨(0<s.kids.length/\s.op≠7/\s.op≠8))↔((s.num≠0/\¬VI s.op=true)∨(0<s.kids.length/\s.op≠7/\s.op≠8)):=by
  rw [hv];simp
 rw [A6,R6 hfirst]
 unfold JJ
 by_cases hc:YC s.op=true
 ·have hop:14<=s.op/\s.op<=17:=by simpa [YC] using hc
  have hnum:VI s.op=false:=by simp [VI];omega
  rw [Zd hc]
  by_cases hb:s.num≠0∨0<s.kids.length
  ·rw [Zd (by rcases hb with hb|hb;exact .inl ⟨hb,by rw [hnum];simp⟩;exact .inr ⟨hb,by omega,by omega⟩)]
   split
   ·rw [Z6];rintro ⟨h1,h2,h3,h4⟩;omega
   ·rfl
  ·rw [Z6 (by rintro (⟨h1,_⟩|⟨h1,_⟩)<;>exact hb (by first|exact .inl h1|exact .inr h1)),Z6 om,Z6 om,Z6 om,Z6 om,Z6 om,Z6 om,Z6 om,Z6 om,Zd om]
   have Zb:s.num=0:=Wc.1 fun q=>hb (.inl q)
   have Zz:s.kids.length=0:=by have:¬0<s.kids.length:=fun q=>hb (.inr q);omega
   rcases he:s.args with _|⟨a,_|⟨b,r⟩⟩
   ·rw [he] at hts;rw [Ws] at hts;cases hts;rfl
   ·rw [he] at hts
    rw [Ws] at hts
    cases ha:Xc us a with
    | none=>rw [ha] at hts;cases hts
    | some t=>
     rw [ha,Ws] at hts;cases hts
     rw [Qq,ha]
     simp only
     by_cases ht0:t=0
     ·rw [Zd ht0,Z6 (fun q=>q.1 ht0)]
     ·rw [Z6 ht0]
      by_cases hA:XX n.decls t=true
      ·by_cases h16:s.op=16∨s.op=17
       ·rw [Zd ⟨by omega,hA⟩,Z6 (fun q=>q.2.2.2 ⟨h16,hA⟩)]
       ·rw [Z6 (by rintro ⟨q,_⟩;omega),Zd ⟨ht0,Zb,Zz,fun q=>h16 q.1⟩]
      ·rw [Z6 (fun q=>hA q.2),Zd ⟨ht0,Zb,Zz,fun q=>hA q.2⟩]
   ·rw [he] at hl
    rw [show Qq n.decls us s.op (a::b::r)=-1 from rfl]
    match ts,hl with
    | [t],hl=>simp at hl
    | [],hl=>simp at hl
    | _::_::_,_=>rfl
 have hop:¬(14<=s.op/\s.op<=17):=by simpa [YC] using hc
 by_cases h7:s.op=7
 ·have hnum:VI s.op=false:=by simp [VI];omega
  conv=>rhs;rw [Z6 hc,Zd h7]
  by_cases hb:s.num=0
  ·rw [Z6 (fun q=>q.elim (fun z=>z.1 hb) fun z=>z.2.1 h7),Z6 om,Z6 om,Z6 om,Z6 om,Zd h7]
   by_cases hq:ts=[0]
   ·rw [Zd ((ht _).2 hq),Zd ⟨hq,hb⟩]
   ·rw [Z6 (fun q=>hq ((ht _).1 q)),Z6 (fun q=>hq q.1)]
  ·rw [Zd (.inl ⟨hb,by rw [hnum];simp⟩),Z6 (fun q=>hb q.2)]
 by_cases h8:s.op=8
 ·have hnum:VI s.op=true:=by simp [VI,h8]
  conv=>rhs;rw [Z6 hc,Z6 h7,Zd h8]
  rw [Z6 (fun q=>q.elim (fun z=>z.2 hnum) fun z=>z.2.2 h8),Z6 om,Z6 om,Z6 om,Z6 om,Z6 h7,Zd h8]
  by_cases hq:ts=[s.num]
  ·rw [Zd ((ht _).2 hq),Zd hq]
  ·rw [Z6 (fun q=>hq ((ht _).1 q)),Z6 hq]
 conv=>rhs;rw [Z6 hc,Z6 h7,Z6 h8]
 by_cases hk:0<s.kids.length
 ·rw [Zd (.inr ⟨hk,h7,h8⟩),Zd (.inl hk)]
 by_cases hlent:s.op=10/\0<(((Xc n.routines s.num).map (·.lent)).getD []).length
 ·conv=>rhs;rw [Zd (.inr hlent)]
  have hnum:VI s.op=true:=by simp [VI,hlent.1]
  have h10:=hlent.1
  rw [Z6 (fun q=>q.elim (fun z=>z.2 hnum) fun z=>hk z.1),Z6 om,Z6 om,Z6 om,Z6 om,Z6 h7,Z6 h8,Zd (.inr h10),UB]
  cases ha:Xc n.routines s.num with
  | none=>rfl
  | some r=>
   have h2:=hlent.2
   rw [ha] at h2
   simp only [C9,Option.getD_some] at h2
   simp only
   rw [Jd,Z6 om,Zd (.inr (.inl h2))]
 conv=>rhs;rw [Z6 (fun q=>Or.elim q hk hlent)]
 have sf:∀{X:Option Int},XS n s.op s.num ts=X->Y0 n us s=X.getD (-1)->Y0 n us s=(XS n s.op s.num ts).getD (-1):=fun a b=>by rw [a];exact b
 have hL:=A6 n us s
 rw [R6 hfirst] at hL
 rw [<-hL]
 by_cases hnb:s.num≠0/\¬VI s.op=true
 ·have hnn2:¬(s.op=0∨(s.op=6∨(s.op=8∨(s.op=9∨s.op=10)))):=fun q=>hnb.2 (by simpa [VI] using q)
  refine sf (X:=none) ?_ (by rw [hL,Zd (.inl hnb)];rfl)
  unfold XS
  rw [Z6 om]
  split
  ·rw [Z6 (fun q=>hnb.1 q.1)]
  split
  ·rw [Z6 (fun q=>hnb.1 q.1)]
  split
  ·by_cases hl2:ts.length=2
   ·match ts,hl2 with
    | [a,b],_=>exact Z6 fun q=>hnb.1 q.2.2
   ·exact FF hl2
  rw [Z6 om,Z6 om,Z6 om]
 rw [Z6 (fun q=>q.elim hnb fun z=>hk z.1)] at hL
 have hnumf:¬(s.op=0∨(s.op=6∨(s.op=8∨(s.op=9∨s.op=10))))->s.num=0:=fun q=>Wc.1 fun z=>hnb ⟨z,fun y=>q (by simpa [VI] using y)⟩
 by_cases h0:s.op=0
 ·rw [Zd h0] at hL
  by_cases hq:s.args.length=0/\(-999<=s.num/\s.num<=999)
  ·exact sf (by unfold XS;rw [Zd h0,Zd ⟨hq.2,by omega⟩]) (by rw [hL,Zd hq];rfl)
  ·exact sf (by unfold XS;rw [Zd h0,Z6 (fun q=>hq ⟨by omega,q.1⟩)]) (by rw [hL,Z6 hq];rfl)
 rw [Z6 h0] at hL
 by_cases h1:s.op=1∨s.op=2∨s.op=3∨s.op=4
 ·rw [Zd h1] at hL
  by_cases hq:ts=[0,0]
  ·exact sf (by unfold XS;rw [Z6 h0,Zd h1,Zd ⟨hnumf om,hq⟩]) (by rw [hL,Zd ((ht _).2 hq)];rfl)
  ·exact sf (by unfold XS;rw [Z6 h0,Zd h1,Z6 (fun q=>hq q.2)]) (by rw [hL,Z6 (fun q=>hq ((ht _).1 q))];rfl)
 rw [Z6 h1] at hL
 by_cases h5:s.op=5
 ·rw [Zd h5] at hL
  by_cases hq:ts=[0]
  ·exact sf (by unfold XS;rw [Z6 h0,Z6 h1,Zd h5,Zd ⟨hnumf om,hq⟩]) (by rw [hL,Zd ((ht _).2 hq)];rfl)
  ·exact sf (by unfold XS;rw [Z6 h0,Z6 h1,Zd h5,Z6 (fun q=>hq q.2)]) (by rw [hL,Z6 (fun q=>hq ((ht _).1 q))];rfl)
 rw [Z6 h5] at hL
 by_cases h6:s.op=6
 ·rw [Zd h6] at hL
  have hct:0<Wk n.decls s.num↔0<=Wk n.decls s.num:=by
   rcases Int.lt_or_le (Wk n.decls s.num) 1 with q|q
   ·have:=(FU q).2;omega
   ·omega
  by_cases hq:0<=Wk n.decls s.num/\ts=ZX n.decls s.num
  ·exact sf (by unfold XS;rw [Z6 h0,Z6 h1,Z6 h5,Z6 om,Zd h6,Zd hq]) (by rw [hL,Zd ⟨hct.2 hq.1,(ht _).2 hq.2⟩];rfl)
  ·exact sf (by unfold XS;rw [Z6 h0,Z6 h1,Z6 h5,Z6 om,Zd h6,Z6 hq]) (by rw [hL,Z6 (fun q=>hq ⟨hct.1 q.1,(ht _).1 q.2⟩)];rfl)
 rw [Z6 h6,Z6 h7,Z6 h8] at hL
 by_cases h9:s.op=9
 ·rw [Zd (.inl h9),UB] at hL
  cases ha:Xc n.routines s.num with
  | none=>exact sf (by unfold XS;rw [Z6 h0,Z6 h1,Z6 h5,Z6 om,Z6 h6,Zd h9,ha]) (by rw [hL,ha];rfl)
  | some r=>
   rw [ha] at hL
   simp only at hL
   rw [Jd,Zd h9] at hL
   have hF:∀{X:Option Int},(if ts=r.params then some r.result else none)=X->XS n s.op s.num ts=X:=fun q=>by
    unfold XS;rw [Z6 h0,Z6 h1,Z6 h5,Z6 om,Z6 h6,Zd h9,ha];exact q
   by_cases hq:ts=r.params
   ·exact sf (hF (Zd hq)) (by rw [hL,Zd ((ht _).2 hq)];rfl)
   ·exact sf (hF (Z6 hq)) (by rw [hL,Z6 (fun q=>hq ((ht _).1 q))];rfl)
 by_cases h10:s.op=10
 ·rw [Zd (.inr h10),UB] at hL
  cases ha:Xc n.routines s.num with
  | none=>exact sf (by unfold XS;rw [Z6 h0,Z6 h1,Z6 h5,Z6 om,Z6 h6,Z6 h9,Zd h10,ha]) (by rw [hL,ha];rfl)
  | some r=>
   rw [ha] at hL hlent
   simp only [C9,Option.getD_some] at hL hlent
   rw [Jd,Z6 h9] at hL
   have hF:∀{X:Option Int},(if r.params.length≠0/\0<=Jp n.decls r.params r.result/\ts=r.params.take (r.params.length-1) then some (Jp n.decls r.params r.result) else none)=X->XS n s.op s.num ts=X:=fun q=>by
    unfold XS;rw [Z6 h0,Z6 h1,Z6 h5,Z6 om,Z6 h6,Z6 h9,Zd h10,ha];exact q
   by_cases hp:r.params.length=0
   ·exact sf (hF (Z6 fun q=>q.1 hp)) (by rw [hL,Zd (.inl hp)];rfl)
   by_cases hq:ts=r.params.take (r.params.length-1)
   ·rw [Z6 (fun z=>z.elim hp fun z=>z.elim (fun z=>hlent ⟨h10,z⟩) fun z=>z ((ht _).2 hq))] at hL
    by_cases har:0<=Jp n.decls r.params r.result
    ·exact sf (hF (Zd ⟨hp,har,hq⟩)) hL
    ·refine sf (hF (Z6 fun q=>har q.2.1)) ?_
     have key:∀(l:List Zf) (i:Nat) (f t:Int),¬0<=KY f t l i->KY f t l i=-1:=by
      intro l
      induction l with
      | nil=>intro i f t _;rfl
      | cons d r ih=>
       intro i f t hn
       rw [KY] at hn ⊢
       split
       ·rename_i hh;rw [Zd hh] at hn;omega
       ·rename_i hh;rw [Z6 hh] at hn;exact ih _ _ _ hn
     exact hL.trans (key _ _ _ _ har)
   ·exact sf (hF (Z6 fun q=>hq q.2.2)) (by rw [hL,Zd (.inr (.inr fun q=>hq ((ht _).1 q)))];rfl)
 rw [Z6 om] at hL
 by_cases h11:s.op=11
 ·rw [Zd h11] at hL
  have hn0:=hnumf om
  have hF:∀{X:Option Int},E3 n s.num ts=X->XS n s.op s.num ts=X:=fun q=>by
   unfold XS;rw [Z6 h0,Z6 h1,Z6 h5,Zd h11];exact q
  rcases he:s.args with _|⟨a,_|⟨b,_|⟨c,r⟩⟩⟩
  ·rw [he] at hts hL;rw [Ws] at hts;cases hts;exact sf (hF rfl) hL
  ·rw [he] at hl hL
   exact sf (hF (FF (by simp at hl;omega))) hL
  ·rw [he] at hts hL
   rw [Ws] at hts
   cases ha:Xc us a with
   | none=>rw [ha] at hts;cases hts
   | some t=>
    rw [ha,Ws] at hts
    cases hb:Xc us b with
    | none=>rw [hb] at hts;cases hts
    | some t2=>
     rw [hb,Ws] at hts;cases hts
     rw [Kr,ha] at hL
     simp only at hL
     by_cases hA:XX n.decls t=true
     ·rw [Zd hA] at hL
      have hA2:=hA
      simp only [XX,W9,decide_eq_true_eq] at hA2
      cases hd:n.decls[(t-1).toNat]? with
      | none=>rw [hd] at hA2;simp at hA2
      | some d=>
       rw [hd] at hL
       simp only at hL
       have hD:U1 n.decls t=d:=by rw [U1,Zd hA,hd];rfl
       have h2:=MV (us:=us) (args:=[b]) (ts:=[t2]) (by rw [Ws,hb,Ws]) [d.frm]
       by_cases hq:t2=d.frm
       ·exact sf (hF (Zd ⟨hA,by rw [hD];exact hq,hn0⟩)) (by rw [hL,Zd (h2.2 (by rw [hq])),hD];rfl)
       ·exact sf (hF (Z6 fun q=>hq (by rw [hD] at q;exact q.2.1))) (by rw [hL,Z6 (fun q=>hq (by simpa using h2.1 q))];rfl)
     ·exact sf (hF (Z6 fun q=>hA q.1)) (by rw [hL,Z6 hA];rfl)
  ·rw [he] at hl hL
   exact sf (hF (FF (by simp at hl;omega))) hL
 rw [Z6 h11,Z6 om] at hL
 exact sf (X:=none) (by unfold XS;rw [Z6 h0,Z6 h1,Z6 h5,Z6 h11,Z6 h6,Z6 h9,Z6 h10]) hL
end Go.Abs
namespace Go.Abs
theorem LZ:∀(n:Nat) (f:Int) (k:Nat) (x:Int),(VR f n)[k]? = some x->x=f+k/\k<n
 | 0,f,k,x,h=>by simp [VR] at h
 | n+1,f,k,x,h=>by
  rw [VR] at h
  cases k with
  | zero=>simp at h;subst h;exact ⟨by omega,by omega⟩
  | succ k=>have:=LZ n (f+1) k x (by simpa using h);exact ⟨by omega,by omega⟩
theorem O6 {ds:List Zf} (hd:Wp ds) {t:Int} {k:Nat} {x:Int} (h:(ZV ds t)[k]? = some x):0<=x/\x<=100:=by
 rw [ZV] at h
 split at h
 ·rename_i ht
  obtain ⟨d,hd1⟩:=QQ (xs:=ds) (j:=(t-1).toNat) om
  rw [hd1] at h
  have:=LZ _ _ _ _ h
  have h3:=hd.cons_at hd1
  have h4:=(hd.take (t-1).toNat).sum
  simp only [C9,Option.getD_some] at this
  omega
 ·simp at h
end Go.Abs
namespace Go.Abs
section
variable {S:Option Int} {c:Prop} [Decidable c] {v:Int} {b:Bool}
theorem BR (h:S=if c then some v else none) (hb:b=true↔c):b=S.isSome:=by rw [h,Zcq,XM,hb,decide_eq_true_iff]
theorem BS (h:S=if c then some v else none):∀x,S=some x->v=x:=by
 intro x hx;rw [h] at hx;split at hx
 ·exact UY hx
 ·cases hx
theorem F8 (h:S=none):false=S.isSome:=by rw [h];rfl
theorem F9 (h:S=none):∀x,S=some x->v=x:=by intro x hx;rw [h] at hx;cases hx
end
section
variable {n:Zl} {op num:Int} {ts:LI}
theorem sf0 (h:op=0):XS n op num ts=if (-999<=num/\num<=999)/\ts.length=0 then some 0 else none:=by unfold XS;rw [Zd h]
theorem sf1 (h:op=1∨op=2∨op=3∨op=4):XS n op num ts=if num=0/\ts=[0,0] then some 0 else none:=by unfold XS;rw [Z6 om,Zd h]
theorem sf5 (h:op=5):XS n op num ts=if num=0/\ts=[0] then some 0 else none:=by unfold XS;rw [Z6 om,Z6 om,Zd h]
theorem Z0r (h:op=11):XS n op num ts=E3 n num ts:=by unfold XS;rw [Z6 om,Z6 om,Z6 om,Zd h]
theorem Zhf (h:op=11) (hl:(ts.length:Int)≠2):XS n op num ts=none:=(Z0r h).trans (FF om)
theorem MC (h:op=11) {a b:Int} (hl:¬(ts.length:Int)≠2) (ha:ts[0]? = some a) (hb:ts[1]? = some b) :
  XS n op num ts=if XX n.decls a=true/\b=(U1 n.decls a).frm/\num=0 then some (U1 n.decls a).to_ else none:=by
 rw [Z0r h]
 match ts,hl,ha,hb with
 | [x,y],_,ha,hb=>simp at ha hb;subst ha;subst hb;rfl
 | [],hl,_,_=>simp at hl
 | [_],hl,_,_=>simp at hl
 | _::_::_::_,hl,_,_=>simp at hl;omega
theorem Zhe (h:op=11) {a:Int} (hl:¬(ts.length:Int)≠2) (ha:ts[0]? = some a) (hn:¬XX n.decls a=true):XS n op num ts=none:=by
 obtain ⟨b,hb⟩:=QQ (xs:=ts) (j:=1) om
 rw [MC h hl ha hb,Z6 fun q=>hn q.1]
theorem sf6 (h:op=6):XS n op num ts=if 0<=Wk n.decls num/\ts=ZX n.decls num then some (Wk n.decls num) else none:=by
 unfold XS;rw [Z6 om,Z6 om,Z6 om,Z6 om,Zd h]
theorem Zhg (h:op=9∨op=10) (hr:num<0∨num>=(((n.routines.map Wb).length:Nat):Int)):XS n op num ts=none:=by
 have ha:Xc n.routines num=none:=KZ (by simp at hr;omega)
 unfold XS
 rw [Z6 om,Z6 om,Z6 om,Z6 om,Z6 om]
 rcases h with h|h
 ·rw [Zd h,ha]
 ·rw [Z6 om,Zd h,ha]
theorem sf9 (h:op=9) {x:Vr} (hr:¬(num<0∨num>=(((n.routines.map Wb).length:Nat):Int))) (hx:(n.routines.map Wb)[num.toNat]? = some x) :
  XS n op num ts=if ts=x.pms then some x.res else none:=by
 obtain ⟨r,h1,rfl⟩:=Hq hx
 have ha:Xc n.routines num=some r:=Q8 (by simp at hr;omega) h1
 unfold XS
 rw [Z6 om,Z6 om,Z6 om,Z6 om,Z6 om,Zd h,ha];rfl
theorem Zhd (h:op=10) {x:Vr} (hr:¬(num<0∨num>=(((n.routines.map Wb).length:Nat):Int))) (hx:(n.routines.map Wb)[num.toNat]? = some x) (hp:(x.pms.length:Int)-1<0) :
  XS n op num ts=none:=by
 obtain ⟨r,h1,rfl⟩:=Hq hx
 have ha:Xc n.routines num=some r:=Q8 (by simp at hr;omega) h1
 have hp':r.params.length=0:=by simp only [Wb] at hp;omega
 unfold XS
 rw [Z6 om,Z6 om,Z6 om,Z6 om,Z6 om,Z6 om,Zd h,ha]
 exact Z6 fun q=>q.1 hp'
theorem Zhc (h:op=10) {x:Vr} {l:Int} (hr:¬(num<0∨num>=(((n.routines.map Wb).length:Nat):Int))) (hx:(n.routines.map Wb)[num.toNat]? = some x) (hp:¬(x.pms.length:Int)-1<0)
  (hl:x.pms[((x.pms.length:Int)-1).toNat]? = some l) :
  XS n op num ts=if 0<=UE n.decls l x.res/\ts=x.pms.take ((x.pms.length:Int)-1).toNat then some (UE n.decls l x.res) else none:=by
 obtain ⟨r,h1,rfl⟩:=Hq hx
 have ha:Xc n.routines num=some r:=Q8 (by simp at hr;omega) h1
 simp only [Wb] at hp hl ⊢
 have hq:((r.params.length:Int)-1).toNat=r.params.length-1:=by omega
 have ht:r.params.take ((r.params.length:Int)-1).toNat=r.params.take (r.params.length-1):=Yu (fun k=>r.params.take k) hq
 have hl':r.params[r.params.length-1]? = some l:=by rw [<-hl];exact Yu (fun k=>r.params[k]?) hq.symm
 have hlast:Jp n.decls r.params r.result=UE n.decls l r.result:=by rw [Jp,Pv hl']
 unfold XS
 rw [Z6 om,Z6 om,Z6 om,Z6 om,Z6 om,Z6 om,Zd h,ha]
 simp only [hlast]
 by_cases hc:0<=UE n.decls l r.result/\ts=r.params.take (r.params.length-1)
 ·rw [Zd ⟨by omega,hc⟩]
  exact (Zd ⟨hc.1,hc.2.trans ht.symm⟩).symm
 ·rw [Z6 fun q=>hc q.2]
  exact (Z6 (fun q=>hc ⟨q.1,q.2.trans ht⟩)).symm
theorem sfd (h0:¬op=0) (h1:¬(op=1∨op=2∨op=3∨op=4)) (h5:¬op=5) (h11:¬op=11) (h6:¬op=6) (h9:¬(op=9∨op=10)):XS n op num ts=none:=by
 unfold XS;rw [Z6 h0,Z6 h1,Z6 h5,Z6 h11,Z6 h6,Z6 om,Z6 om]
end
end Go.Abs
end
namespace Go.Abs
mutual
def Z5.rng:Z5->Prop
 | .mk _ num _ _ kids=>(-9223372036854775808<=num/\num<=9223372036854775807)/\Ks kids
def Z7.rng:Z7->Prop
 | .mk steps _=>TS steps
def TS:List Z5->Prop
 | []=>True
 | s::r=>s.rng/\TS r
def Ks:List Z7->Prop
 | []=>True
 | b::r=>b.rng/\Ks r
end
theorem Z5.rng_eq (s:Z5):s.rng=((-9223372036854775808<=s.num/\s.num<=9223372036854775807)/\Ks s.kids):=by cases s;rw [Z5.rng];rfl
theorem Z7.rng_eq (b:Z7):b.rng=TS b.steps:=by cases b;rw [Z7.rng];rfl
theorem MO:∀{xs:List Z5} {k:Nat} {s:Z5},TS xs->xs[k]? = some s->s.rng
 | [],k,s,_,h=>by simp at h
 | x::r,0,s,hr,h=>by rw [TS] at hr;simp at h;subst h;exact hr.1
 | x::r,k+1,s,hr,h=>by rw [TS] at hr;exact MO (k:=k) hr.2 (by simpa using h)
theorem FL:∀{xs:List Z7} {k:Nat} {b:Z7},Ks xs->xs[k]? = some b->b.rng
 | [],k,s,_,h=>by simp at h
 | x::r,0,s,hr,h=>by rw [Ks] at hr;simp at h;subst h;exact hr.1
 | x::r,k+1,s,hr,h=>by rw [Ks] at hr;exact FL (k:=k) hr.2 (by simpa using h)
theorem MX {us:LI}:∀{args:LI},Ws us args=none->∀tys,Wf us args tys=false
 | [],h,tys=>by rw [Ws] at h;cases h
 | a::r,h,tys=>by
  cases tys with
  | nil=>simp [Wf,Tx]
  | cons t ts=>
   rw [Ws] at h
   rw [Wf,Tx]
   cases ha:Xc us a with
   | none=>simp
   | some u=>
    rw [ha] at h
    cases hr:Ws us r with
    | none=>
     have:=MX hr ts
     rw [Wf] at this
     by_cases he:u=t
     ·subst he;simpa using this
     ·rw [Z6 (fun q=>he (UY q))]
    | some tr=>rw [hr] at h;cases h
theorem Zk3 {n:Zl} {us:LI} {s:Z5} (h:Ws us s.args=none):Y0 n us s=-1:=by
 have ht:=MX h
 rw [A6]
 split
 ·rfl
 split
 ·rw [Z6];rintro ⟨q,_⟩
  have:s.args=[]:=List.length_eq_zero_iff.1 q
  rw [this,Ws] at h;cases h
 split
 ·rw [Z6 (by rw [ht];simp)]
 split
 ·rw [Z6 (by rw [ht];simp)]
 split
 ·rw [Z6 (by rw [ht];simp)]
 split
 ·rw [Z6 (by rw [ht];simp)]
 split
 ·rw [Z6 (by rw [ht];simp)]
 split
 ·rw [UB]
  cases Xc n.routines s.num with
  | none=>rfl
  | some r=>
   simp only
   rw [Jd]
   split
   ·rw [Z6 (by rw [ht];simp)]
   ·rw [Zd (.inr (.inr (by rw [ht];simp)))]
 split
 ·match hA:s.args with
  | []=>rfl
  | [_]=>rfl
  | [a,b]=>
   rw [Kr]
   rw [hA,Ws] at h
   cases ha:Xc us a with
   | none=>rfl
   | some t=>
    rw [ha] at h
    simp only at h ⊢
    split
    ·cases n.decls[(t-1).toNat]? with
     | none=>rfl
     | some d=>
      simp only
      rw [Z6]
      cases hb:Ws us [b] with
      | none=>rw [MX hb];simp
      | some tr=>rw [hb] at h;cases h
    ·rfl
  | _::_::_::_=>rfl
 split
 ·match hA:s.args with
  | []=>rfl
  | [a]=>
   rw [Qq]
   rw [hA,Ws] at h
   cases ha:Xc us a with
   | none=>rfl
   | some t=>rw [ha,Ws] at h;cases h
  | _::_::_=>rfl
 ·rfl
theorem Ns {us:LI} {a:Int}:∀{xs:LI} {k:Nat},xs[k]? = some a->Xc us a=none->Ws us xs=none
 | [],k,h,_=>by simp at h
 | x::r,0,h,ha=>by simp at h;subst h;rw [Ws,ha]
 | x::r,k+1,h,ha=>by
  have:=Ns (xs:=r) (k:=k) (by simpa using h) ha
  rw [Ws]
  cases Xc us x with
  | none=>rfl
  | some t=>simp only [this]
theorem Zd6 {n:Zl} {us:LI} {ks:List Z7} {ms:List LI} (h:0<ks.length) (t:Int) :
  W5 n us (ks.drop 0) (ms.drop 0) (decide (0=0)) t=W5 n us ks ms true 0:=by
 cases ks with
 | nil=>simp at h
 | cons b bs=>
  cases ms with
  | nil=>rw [KS,KS,W5,W5]
  | cons m r=>
   simp only [KS,decide_true]
   rw [W5,W5];simp
theorem NQ {b:Z7}:∀{ks:List Z7} {k:Nat},ks[k]? = some b->b.sz<=Xl ks
 | [],k,h=>by simp at h
 | x::r,0,h=>by simp at h;subst h;rw [Xl];omega
 | x::r,k+1,h=>by have:=NQ (ks:=r) (k:=k) (by simpa using h);rw [Xl];omega
theorem Fm (us m:LI):[us,m].flatten=us++m:=by simp
theorem Pd {xs:LI} {i:Int} (h:i.toNat<xs.length):xs[i.toNat]? = some (gI xs i):=by rw [gI,Q7 h];rfl
theorem Gn {xs:LI} (h:0<xs.length):xs[0]? = some (gI xs 0):=Pd (i:=0) h
def UL (n:Zl) (num:Int):Vr:=((n.routines.map Wb)[num.toNat]?).getD ⟨[],[],0⟩
theorem Z0t {n:Zl} {i:Int} (h:i.toNat<(n.routines.map Wb).length):(n.routines.map Wb)[i.toNat]? = some (UL n i):=by rw [UL,Q7 h];rfl
theorem EJ {us m:LI} (h1:∀t∈us,0<=t) (h2:∀t∈m,0<=t):∀t∈us++m,0<=t:=fun t h=>(Xg.1 h).elim (h1 t) (h2 t)
theorem Bv {us:LI} {args ts:LI} {k:Nat} (h:Ws us (args.take k)=some ts) (hk:args.length<=k):Ws us args=some ts:=by
 rw [Vx hk] at h;exact h
theorem Z42 {us:LI} {args ts:LI} {k:Nat} {a t:Int} (h:Ws us (args.take k)=some ts) (ha:args[k]? = some a) (ht:Xc us a=some t):Ws us (args.take (k+1))=some (ts++[t]):=by
 rw [V4 ha];exact Nu h ht
theorem Sh {ts:LI} (h:(ts.length:Int)=1):ts=[gI ts 0]:=by
 match ts,h with
 | [a],_=>rfl
section
variable {n:Zl} {us ts:LI} {s:Z5}
theorem B1 {p1 p2 p3 p4 p5:Prop}:(p1/\(p2∨(p3∨(p4∨p5))))↔(p1/\(((p2∨p3)∨p4)∨p5)):=by simp only [or_assoc]
def FT (n:Zl) (s:Z5) (ts:LI):Int:=match ts with
  | [t]=>if t≠0/\s.num=0/\s.kids.length=0/\¬((s.op=16∨s.op=17)/\XX n.decls t=true) then 0 else -1
  | _=>-1
theorem BX:JJ n us s ts =
 if YC s.op=true then FT n s ts
 else if s.op=7 then (if ts=[0]/\s.num=0 then Q1 n us s.op s.num s.kids else -1)
 else if s.op=8 then (if ts=[s.num] then Q1 n us s.op s.num s.kids else -1)
 else if 0<s.kids.length∨(s.op=10/\0<(((Xc n.routines s.num).map (·.lent)).getD []).length) then -1
 else (XS n s.op s.num ts).getD (-1):=by unfold JJ FT;rfl
theorem O1 (h:(ts.length:Int)=1):FT n s ts=if gI ts 0≠0/\s.num=0/\s.kids.length=0/\¬((s.op=16∨s.op=17)/\XX n.decls (gI ts 0)=true) then 0 else -1:=by
 match ts,h with
 | [a],_=>rfl
theorem Z5o (h:(ts.length:Int)≠1):FT n s ts=-1:=by
 match ts,h with
 | [],_=>rfl
 | [a],h=>exact absurd rfl h
 | _::_::_,_=>rfl
theorem Zjd (hS:Y0 n us s=JJ n us s ts) (hc:YC s.op=true)
  (h:((((ts.length:Int)=1/\gI ts 0≠0)/\s.num=0)/\(s.kids.length:Int)=0)/\(s.op=16∨s.op=17)) :
  (!XX n.decls (gI ts 0))=decide (0<=Y0 n us s):=by
 obtain ⟨⟨⟨⟨h1,h2⟩,h3⟩,h4⟩,h5⟩:=h
 have h4':s.kids.length=0:=by omega
 rw [hS,BX,Zd hc,O1 h1]
 cases hA:XX n.decls (gI ts 0)
 ·rw [Zd ⟨h2,h3,h4',by simp⟩];rfl
 ·rw [Z6 (fun q=>q.2.2.2 ⟨h5,rfl⟩)];rfl
theorem Zje (hS:Y0 n us s=JJ n us s ts) (hc:YC s.op=true)
  (h:¬(((((ts.length:Int)=1/\gI ts 0≠0)/\s.num=0)/\(s.kids.length:Int)=0)/\(s.op=16∨s.op=17))) :
  ((((((ts.length:Int)==1)&&(gI ts 0 != 0))&&(s.num==0))&&((s.kids.length:Int)==0)))=decide (0<=Y0 n us s):=by
 rw [hS,BX,Zd hc]
 by_cases h1:(ts.length:Int)=1
 ·rw [O1 h1]
  by_cases h2:(gI ts 0≠0/\s.num=0)/\(s.kids.length:Int)=0
  ·obtain ⟨⟨h2,h3⟩,h4⟩:=h2
   have h4':s.kids.length=0:=by omega
   rw [Zd ⟨h2,h3,h4',fun q=>h ⟨⟨⟨⟨h1,h2⟩,h3⟩,h4⟩,q.1⟩⟩,Zr.2 h1,Y6.2 h2,Zr.2 h3,Zr.2 h4];rfl
  ·rw [Z6 (fun q=>h2 ⟨⟨q.1,q.2.1⟩,by have:=q.2.2.1;omega⟩)]
   show _=false
   rw [Kn];intro q
   obtain ⟨⟨⟨_,q1⟩,q2⟩,q3⟩:=(YG (YG (YG Zr Y6) Zr) Zr).1 q
   exact h2 ⟨⟨q1,q2⟩,q3⟩
 ·rw [Z5o h1]
  show _=false
  rw [Kn];intro q
  obtain ⟨⟨⟨q1,_⟩,_⟩,_⟩:=(YG (YG (YG Zr Y6) Zr) Zr).1 q
  exact h1 q1
theorem Zj9 (hS:Y0 n us s=JJ n us s ts) (hc:¬YC s.op=true) (h7:s.op=7)
  (h:(((ts.length:Int)≠1∨gI ts 0≠0)∨s.num≠0)∨(s.kids.length:Int)≠2):Y0 n us s=-1:=by
 rw [hS,BX,Z6 hc,Zd h7]
 split
 ·rename_i q
  obtain ⟨q1,q2⟩:=q
  rw [q1] at h
  rw [Q1,Zd]
  right
  rw [X8,Zd h7]
  have:gI [0] 0=0:=rfl
  simp [this] at h
  show s.kids.length≠2
  omega
 ·rfl
theorem Zja (hS:Y0 n us s=JJ n us s ts) (hc:¬YC s.op=true) (h7:s.op=7)
  (h:¬((((ts.length:Int)≠1∨gI ts 0≠0)∨s.num≠0)∨(s.kids.length:Int)≠2)):Y0 n us s=W5 n us s.kids (List.replicate 2 []) true 0:=by
 have h1:(ts.length:Int)=1:=Wc.1 fun q=>h (.inl (.inl (.inl q)))
 have h2:gI ts 0=0:=Wc.1 fun q=>h (.inl (.inl (.inr q)))
 have h3:s.num=0:=Wc.1 fun q=>h (.inl (.inr q))
 have h4:(s.kids.length:Int)=2:=Wc.1 fun q=>h (.inr q)
 rw [hS,BX,Z6 hc,Zd h7,Zd ⟨by rw [Sh h1,h2],h3⟩,Q1,Z6]
 ·rw [X8,Zd h7];rfl
 ·rw [X8,Zd h7];simp;omega
theorem Zjb (hS:Y0 n us s=JJ n us s ts) (hc:¬YC s.op=true) (h7:¬s.op=7) (h8:s.op=8)
  (h:(ts.length:Int)≠1∨(gI ts 0≠s.num∨(((((ZV n.decls s.num).map (ZX n.decls)).length:Nat):Int)=0∨(s.kids.length:Int)≠((((ZV n.decls s.num).map (ZX n.decls)).length:Nat):Int)))):Y0 n us s=-1:=by
 rw [hS,BX,Z6 hc,Z6 h7,Zd h8]
 split
 ·rename_i q
  have hg:gI ts 0=s.num:=by rw [q];rfl
  have hl:(ts.length:Int)=1:=by rw [q];rfl
  rw [Q1,Zd]
  rw [X8,Z6 h7]
  omega
 ·rfl
theorem Zjc (hS:Y0 n us s=JJ n us s ts) (hc:¬YC s.op=true) (h7:¬s.op=7) (h8:s.op=8)
  (h:¬((ts.length:Int)≠1∨(gI ts 0≠s.num∨(((((ZV n.decls s.num).map (ZX n.decls)).length:Nat):Int)=0∨(s.kids.length:Int)≠((((ZV n.decls s.num).map (ZX n.decls)).length:Nat):Int))))) :
  Y0 n us s=W5 n us s.kids ((ZV n.decls s.num).map (ZX n.decls)) true 0:=by
 have h1:(ts.length:Int)=1:=Wc.1 fun q=>h (.inl q)
 have h2:gI ts 0=s.num:=Wc.1 fun q=>h (.inr (.inl q))
 rw [hS,BX,Z6 hc,Z6 h7,Zd h8,Zd (by rw [Sh h1,h2]),Q1,Z6]
 ·rw [X8,Z6 h7]
 ·rw [X8,Z6 h7];omega
theorem Zdv {n:Zl} {num:Int}:(((Xc n.routines num).map (·.lent)).getD []).length=if 0<=num/\num<(((n.routines.map Wb).length:Nat):Int) then (UL n num).lnt.length else 0:=by
 split
 ·rename_i h
  rw [Ka] at h
  obtain ⟨r,hr⟩:=QQ (xs:=n.routines) (j:=num.toNat) om
  rw [Q8 om hr,UL,TA,hr];rfl
 ·rename_i h
  rw [Ka] at h
  rw [KZ om];rfl
theorem Z1v:(0<s.kids.length∨(s.op=10/\0<(((Xc n.routines s.num).map (·.lent)).getD []).length)) ↔
  ((s.kids.length:Int)>0∨(s.op=10/\(s.num>=0/\(s.num<(((n.routines.map Wb).length:Nat):Int)/\((((UL n s.num).lnt).length:Nat):Int)>0)))):=by
 rw [Zdv]
 by_cases hq:0<=s.num/\s.num<(((n.routines.map Wb).length:Nat):Int)
 ·rw [Zd hq];omega
 ·rw [Z6 hq];omega
theorem stB (hS:Y0 n us s=JJ n us s ts) (hc:¬YC s.op=true) (h7:¬s.op=7) (h8:¬s.op=8)
  (h:((s.kids.length:Int)>0∨(s.op=10/\(s.num>=0/\(s.num<(((n.routines.map Wb).length:Nat):Int)/\((((UL n s.num).lnt).length:Nat):Int)>0))))):Y0 n us s=-1:=by
 rw [hS,BX,Z6 hc,Z6 h7,Z6 h8,Zd (Z1v.2 h)]
theorem stS (hS:Y0 n us s=JJ n us s ts) (hc:¬YC s.op=true) (h7:¬s.op=7) (h8:¬s.op=8)
  (h:¬((s.kids.length:Int)>0∨(s.op=10/\(s.num>=0/\(s.num<(((n.routines.map Wb).length:Nat):Int)/\((((UL n s.num).lnt).length:Nat):Int)>0))))):Y0 n us s=(XS n s.op s.num ts).getD (-1):=by
 rw [hS,BX,Z6 hc,Z6 h7,Z6 h8,Z6 (fun q=>h (Z1v.1 q))]
theorem Zjf (hty:KV n) (h:Y0 n us s=(XS n s.op s.num ts).getD (-1)):(XS n s.op s.num ts).isSome=decide (0<=Y0 n us s):=by
 rw [h]
 cases hs:XS n s.op s.num ts with
 | none=>rfl
 | some x=>have:=Zhj hty hs;simp [this]
theorem Zjg {t:Int} (h:Y0 n us s=(XS n s.op s.num ts).getD (-1)) (hp:∀x,XS n s.op s.num ts=some x->t=x):¬YC s.op=true->0<=Y0 n us s->t=Y0 n us s:=by
 intro _ h0
 rw [h] at h0 ⊢
 cases hs:XS n s.op s.num ts with
 | none=>rw [hs] at h0;exact absurd h0 (by decide)
 | some x=>exact hp x hs
end
theorem Zk1 {n:Zl} {us:LI} {s:Z5} (h:0<=Y0 n us s):(0<=s.op/\s.op<=11)∨(14<=s.op/\s.op<=17):=by
 rw [A6] at h
 by_cases hq:(0<=s.op/\s.op<=11)∨(14<=s.op/\s.op<=17)
 ·exact hq
 ·exfalso
  split at h
  ·omega
  rw [Z6 om,Z6 om,Z6 om,Z6 om,Z6 om,Z6 om,Z6 om,Z6 om,Z6 om] at h
  omega
theorem Ed {n:Zl} {us:LI} {s:Z5} (h:0<=Y0 n us s):W7 s.op=!YC s.op:=by
 have:=Zk1 h
 rw [W7,YC,XM];simp;omega
theorem Zk6 {n:Zl} {xs:List Z5} {vs:LI} {k:Nat} {s:Z5} {t:Int} {r:Option LI} (hs:xs[k]? = some s) (h:0<=Y0 n vs s) (ht:¬YC s.op=true->0<=Y0 n vs s->t=Y0 n vs s)
  (hr:Xj n (xs.drop k) vs=r):Xj n (xs.drop (k+1)) (if YC s.op=true then vs else vs++[t])=r:=by
 rw [Y5 hs,Xj,Z6 om] at hr
 rw [<-hr,Ed h]
 by_cases hc:YC s.op=true
 ·rw [Zd hc,hc];rfl
 ·rw [Z6 hc,Zd (by simpa using hc),ht hc h]
theorem Zk7 {n:Zl} {xs:List Z5} {vs:LI} {k:Nat} {s:Z5} {r:Option LI} (hs:xs[k]? = some s) (h:¬0<=Y0 n vs s) (hr:Xj n (xs.drop k) vs=r):r=none:=by
 rw [Y5 hs,Xj,Zd om] at hr;exact hr.symm
theorem Zed {c:Prop} [Decidable c] {vs:LI} {t:Int} (h:∀x∈vs,0<=x) (ht:¬c->0<=t):∀x∈(if c then vs else vs++[t]),0<=x:=by
 split
 ·exact h
 ·rename_i hc
  exact EJ h (fun x hx=>by rw [XH.1 hx];exact ht hc)
theorem Np {m:Nat} {xs:LI} (h:Wr m xs=true):∀x∈xs,0<=x/\x<=m:=by
 rw [Wr,A9] at h
 exact fun x hx=>of_decide_eq_true (h x hx)
theorem S5 {n:Zl} (h:VC n=true):KV n:=by
 simp only [VC,Kl,W9,decide_eq_true_eq] at h
 obtain ⟨h1,⟨h2,h3,h4,h5⟩,h6⟩:=h
 have hs:∀r∈n.routines,Wr n.decls.length r.params=true/\0<=r.result:=fun r hr=>by
  have:=Hs h4 (Uk r) (XG.2 ⟨r,hr,rfl⟩)
  simp only [Je,W9,decide_eq_true_eq] at this
  exact ⟨this.2.1,this.2.2.1⟩
 simp only [V5,W9,decide_eq_true_eq] at h2
 obtain ⟨h2a,h2b⟩:=h2
 rw [Ir] at h2b
 have key:∀(i:Nat) (d:Zf),n.decls[i]? = some d->T2 n.decls d i=true:=fun i d hi=>by
  have:=h2b i (Xs.1 hi).1
  rwa [Vy,Ec hi] at this
 refine ⟨fun r hr=>(hs r hr).2,fun r hr p hp=>(Np (hs r hr).1 p hp).1,fun d hd h0=>?_,fun c f hf=>?_⟩
 ·obtain ⟨i,hi⟩:=List.mem_iff_getElem?.1 hd
  have:=key i d hi
  rw [T2,Z6 om] at this
  split at this
  ·cases this
  ·simp only [W9,decide_eq_true_eq] at this;omega
 ·by_cases hc:Wk n.decls c<1
  ·rw [(FU hc).1] at hf;cases hf
  ·obtain ⟨k,d,x,q1,q2,q3,q4,q5⟩:=In hc
   rw [q5] at hf
   have:=key k d q1
   have hp:0<d.cons.length:=by have:=(Xs.1 q3).1;omega
   rw [T2,Zd hp] at this
   split at this
   ·have:=O7.1 this x (Y4 q3)
    simp only [JX,W9] at this
    exact (Np this.2 f hf).1
   ·cases this
structure NTu (n:Zl):Prop where
 result:∀r∈n.routines,r.result<=(n.decls.length:Int)
 decl:∀d∈n.decls,d.cons.length=0->d.to_<=(n.decls.length:Int)
 fields:∀c,∀f∈ZX n.decls c,f<=(n.decls.length:Int)
section
variable {n:Zl} (hu:NTu n)
include hu
end
end Go.Abs
section
namespace Go.Abs
structure X2 where
 mat:Int
 fst:Int
 fds:LI
 chg:Bool
abbrev RA (a:X2):List AV:=[.i a.mat,.i a.fst,Z4 a.fds,.b a.chg]
abbrev Nb (a:X2):AV:=.agg (RA a)
def WR (xs:List X2):List AV:=xs.map Nb
abbrev Xf (xs:List X2):AV:=.sl (WR xs) none
abbrev M1 (xs:List X2) (v:Value):AV:=.sl (WR xs) (some v)
theorem Oo {xs:List X2} {j:Nat} {x:X2} (h:xs[j]? = some x):(WR xs)[j]? = some (Nb x):=by simp [WR,h]
@[simp] theorem Oq (xs:List X2):(WR xs).length=xs.length:=by simp [WR]
theorem On (xs ys:List X2):WR (xs++ys)=WR xs++WR ys:=by simp [WR]
theorem Dc (xs:List X2):∀y∈WR xs,y.leaves.length=4:=by intro y hy;simp only [WR,XG] at hy;obtain ⟨x,_,rfl⟩:=hy;rfl
theorem Iv (xs:List X2):(Zh (WR xs)).all AV.one=true:=Jt fun y hy=>by simp only [WR,XG] at hy;obtain ⟨x,_,rfl⟩:=hy;rfl
theorem Z75 {xs:List X2} (h:WR xs=[]):xs=[]:=by cases xs with|nil=>rfl|cons x r=>cases h
abbrev Vq:=Zo
def XE:LI->Int->LI
 | [],_=>[]
 | t::r,p=>if t≠0 then p::XE r (p+1) else XE r (p+1)
theorem Zap {xs:LI} {k:Nat} {t p:Int} {acc r:LI} (h:xs[k]? = some t) (ha:acc++XE (xs.drop k) (p+k)=r) :
  (if t≠0 then acc++[p+k] else acc)++XE (xs.drop (k+1)) (p+((k+1:Nat):Int))=r:=by
 rw [Y5 h,XE] at ha
 rw [show p+((k+1:Nat):Int)=p+k+1 by omega]
 split
 ·rename_i q;rw [Zd q] at ha;rw [UC];exact ha
 ·rename_i q;rw [Z6 q] at ha;exact ha
theorem Zao {xs:LI} {k:Nat} {p:Int} {acc r:LI} (h:xs.length<=k) (ha:acc++XE (xs.drop k) (p+k)=r):acc=r:=by
 rw [Xm h,XE,Ko] at ha;exact ha
theorem Ex:∀(xs:LI) (p:Int) (own:LI),UZ own p xs=(XE xs p).foldl (fun o f=>o.set f.toNat (gI o f+1)) own
 | [],_,_=>rfl
 | t::r,p,own=>by
  rw [UZ,XE]
  split
  ·rw [List.foldl_cons];exact Ex r _ _
  ·exact Ex r _ _
theorem BF:∀{xs:LI} {p f:Int},f∈XE xs p->p<=f/\f<p+xs.length
 | [],_,_,h=>by simp [XE] at h
 | t::r,p,f,h=>by
  rw [XE] at h
  split at h
  ·rcases YH.1 h with rfl|h
   ·simp only [X5];omega
   ·have:=BF h;simp only [X5];omega
  ·have:=BF h;simp only [X5];omega
theorem Ln:∀(xs:LI) (p:Int),(XE xs p).length<=xs.length
 | [],_=>by simp [XE]
 | t::r,p=>by
  have:=Ln r (p+1)
  rw [XE];split<;>simp<;>omega
def US:List X2->Int->Option X2
 | [],_=>none
 | a::r,v=>match US r v with
  | some x=>some x
  | none=>if a.mat=v then some a else none
theorem Sf {a:X2}:∀{as1:List X2} {v:Int},US (as1++[a]) v=if a.mat=v then some a else US as1 v
 | [],v=>rfl
 | x::r,v=>by
  rw [Q6,US,Sf]
  by_cases h:a.mat=v
  ·rw [Zd h,Zd h]
  ·rw [Z6 h,Z6 h];rfl
theorem EO {v:Int}:∀{as1:List X2},(∀a∈as1,a.mat≠v)->US as1 v=none
 | [],_=>rfl
 | x::r,h=>by rw [US,EO (fun a ha=>h a (Xp _ ha))];exact Z6 (h x (Xd ..))
theorem Se {v:Int} {a:X2}:∀{as1:List X2},US as1 v=some a->a∈as1/\a.mat=v
 | [],h=>by cases h
 | x::r,h=>by
  rw [US] at h
  cases hr:US r v with
  | some y=>rw [hr] at h;cases h;have:=Se hr;exact ⟨Xp _ this.1,this.2⟩
  | none=>
   rw [hr] at h
   simp only at h
   split at h
   ·cases h;exact ⟨Xd ..,by assumption⟩
   ·cases h
structure V6 (ds:List Zf) (L:Zo) (as1:List X2):Prop where
 rng:∀a∈as1,0<=a.mat/\a.mat<a.fst/\a.fst+a.fds.length<=L.vars.length
 par:∀a∈as1,∀v:Int,a.fst<=v->v<a.fst+a.fds.length->gI L.par v=a.mat
 non:∀v:Int,0<=v->v<L.vars.length->0<=gI L.par v->∃a∈as1,a.fst<=v/\v<a.fst+a.fds.length
 off:∀v:Int,0<=v->v<L.vars.length->match US as1 v with
  | none=>gI L.con v<0
  | some a=>0<=gI L.con v/\a.fst=gI L.fst v/\a.fds=ZX ds (gI L.con v)
theorem V6.same {ds:List Zf} {L M:Zo} {as1:List X2} (h:V6 ds L as1) (h1:M.vars.length=L.vars.length) (h2:M.par=L.par) (h3:M.con=L.con) (h4:M.fst=L.fst):V6 ds M as1:=by
 refine ⟨?_,?_,?_,?_⟩
 ·rw [h1];exact h.rng
 ·rw [h2];exact h.par
 ·rw [h1,h2];exact h.non
 ·rw [h1,h3,h4];exact h.off
theorem V6.grow {ds:List Zf} {L:Zo} {as1:List X2} {t o:Int} (h:V6 ds L as1) (hl:WK L):V6 ds (L.grow t o (-1)) as1:=by
 obtain ⟨e1,e2,e3,e4,e5⟩:=hl
 have key:∀{xs:LI} {y v:Int},xs.length=L.vars.length->0<=v->v<L.vars.length->gI (xs++[y]) v=gI xs v:=fun hx h0 h1=>Ar om
 have kend:∀{xs:LI} {y v:Int},xs.length=L.vars.length->v=(L.vars.length:Int)->gI (xs++[y]) v=y:=fun hx h1=>Lb om
 have hlen:(L.grow t o (-1)).vars.length=L.vars.length+1:=by simp [Zo.grow]
 refine ⟨fun a ha=>?_,fun a ha v h1 h2=>?_,fun v h0 h1 h2=>?_,fun v h0 h1=>?_⟩
 ·have:=h.rng a ha;omega
 ·have:=h.rng a ha
  show gI (L.par++[-1]) v=a.mat
  rw [key e2 om om];exact h.par a ha v h1 h2
 ·have h2':0<=gI (L.par++[-1]) v:=h2
  by_cases hv:v<L.vars.length
  ·rw [key e2 h0 hv] at h2';exact h.non v h0 hv h2'
  ·rw [kend e2 om] at h2';omega
 ·show match US as1 v with
   | none=>gI (L.con++[-1]) v<0
   | some a=>0<=gI (L.con++[-1]) v/\a.fst=gI (L.fst++[-1]) v/\a.fds=ZX ds (gI (L.con++[-1]) v)
  by_cases hv:v<L.vars.length
  ·rw [key e3 h0 hv,key e4 h0 hv];exact h.off v h0 hv
  ·rw [EO (fun a ha=>by have:=h.rng a ha;omega)]
   show gI (L.con++[-1]) v<0
   rw [kend e3 om];omega
theorem V6.arm {ds:List Zf} {L:Zo} {as1:List X2} {x c:Int} (h:V6 ds L as1) (hl:WK L) (hx:0<=x/\x<L.vars.length) (hc:0<=c) :
  V6 ds (KX ds L x c) (as1++[⟨x,(L.vars.length:Nat),ZX ds c,false⟩]):=by
 obtain ⟨e1,e2,e3,e4,e5⟩:=hl
 rw [KX,Et]
 have hnew:∀{xs:LI} {y v:Int},xs.length=L.vars.length->(L.vars.length:Int)<=v->v<L.vars.length+(ZX ds c).length->gI (xs++List.replicate (ZX ds c).length y) v=y:=fun hx h0 h1=>Ld om
 have KD:∀{xs:LI} {y v:Int},xs.length=L.vars.length->0<=v->v<L.vars.length->gI (xs++List.replicate (ZX ds c).length y) v=gI xs v:=fun hx h0 h1=>Ar om
 refine ⟨fun a ha=>?_,fun a ha v h1 h2=>?_,fun v h0 h1 h2=>?_,fun v h0 h1=>?_⟩
 ·simp only [Yq]
  rcases Xg.1 ha with ha|ha
  ·have:=h.rng a ha;omega
  ·rw [XH.1 ha]
   show 0<=x/\x<(L.vars.length:Nat)/\(L.vars.length:Int)+((ZX ds c).length:Nat)<=_
   omega
 ·show gI (L.par++List.replicate _ x) v=a.mat
  rcases Xg.1 ha with ha|ha
  ·have:=h.rng a ha
   rw [KD e2 om om];exact h.par a ha v h1 h2
  ·rw [XH.1 ha] at h1 h2 ⊢
   exact hnew e2 h1 h2
 ·simp only [Yq] at h1
  have h2':0<=gI (L.par++List.replicate (ZX ds c).length x) v:=h2
  by_cases hv:v<L.vars.length
  ·rw [KD e2 h0 hv] at h2'
   obtain ⟨a,ha,q⟩:=h.non v h0 hv h2'
   exact ⟨a,List.mem_append_left _ ha,q⟩
  ·exact ⟨_,List.mem_append_right _ (XH.2 rfl),by show (L.vars.length:Int)<=v;omega,by show v<(L.vars.length:Int)+(ZX ds c).length;omega⟩
 ·simp only [Yq] at h1
  show match US (as1++[⟨x,(L.vars.length:Nat),ZX ds c,false⟩]) v with
   | none=>gI (L.con.set x.toNat c++List.replicate (ZX ds c).length (-1)) v<0
   | some a=>0<=gI (L.con.set x.toNat c++List.replicate (ZX ds c).length (-1)) v/\a.fst=gI (L.fst.set x.toNat L.vars.length++List.replicate (ZX ds c).length (-1)) v /\
     a.fds=ZX ds (gI (L.con.set x.toNat c++List.replicate (ZX ds c).length (-1)) v)
  rw [Sf]
  by_cases hv:v<L.vars.length
  ·rw [KD (by simp [e3]) h0 hv,KD (by simp [e4]) h0 hv]
   by_cases he:x=v
   ·rw [Zd he]
    show 0<=gI (L.con.set x.toNat c) v/\(L.vars.length:Int)=gI (L.fst.set x.toNat L.vars.length) v/\ZX ds c=ZX ds (gI (L.con.set x.toNat c) v)
    rw [Cw om om,Cw om om]
    exact ⟨hc,rfl,rfl⟩
   ·rw [Z6 he,Er om,Er om];exact h.off v h0 hv
  ·rw [hnew (by simp [e3]) om om]
   rw [Z6 (by show ¬x=v;omega),EO (fun a ha=>by have:=h.rng a ha;omega)]
   show (-1:Int)<0
   omega
theorem Z3l {L:Zo} {ln:LI} {v:Int} {p:Int} (hv:0<=v/\v<L.vars.length) (hd:∀i:Int,0<=i->i<L.vars.length->gI L.par i<i) (h:¬(gI L.own v>0∨v∈ln)) (hp:gI L.par v=p) (h0:0<=p):XT L ln v=XT L ln p:=
 (Nm (N:=L.vars.length) rfl hp hv ⟨by omega,fun q=>h (.inr q)⟩ om hd rfl).symm
theorem Z3k {L:Zo} {ln:LI} {v:Int} (h:¬(gI L.own v>0∨v∈ln)) (hp:gI L.par v<0):XT L ln v=false:=
 (Nl rfl rfl ⟨by omega,fun q=>h (.inr q)⟩ hp rfl).symm
theorem Z3m {L:Zo} {ln:LI} {v:Int} (h:gI L.own v>0∨v∈ln):XT L ln v=true:=
 (Nn rfl (fun q=>h.elim (fun z=>by omega) q.2) rfl).symm
end Go.Abs
namespace Go.Abs
def XU (L:Zo) (v:Int):Zo:={ L with own:=L.own.set v.toNat (gI L.own v-1) }
theorem Bf {L:Zo} {v:Int}:Ua L v=if 1<=gI L.own v then some (XU L v) else none:=by
 rw [Ua]
 by_cases h:gI L.own v<1
 ·rw [Zd h,Z6 om]
 ·rw [Z6 h,Zd om];rfl
end Go.Abs
namespace Go.Abs
def Wj (L:Zo) (r:Int):Zo:=if gI L.vars r≠0 then XU L r else L
theorem OJ {L:Zo} {m:Nat} {r:Int} (ho:gI L.vars r≠0->1<=gI L.own r) (hz:Vc ((Wj L r).own.drop m) ((Wj L r).tok.drop m)=true):Uh m r L=some ((Wj L r).take m):=by
 rw [Uh]
 by_cases h:gI L.vars r≠0
 ·rw [Zd h,Bf,Zd (ho h)]
  have e:Wj L r=XU L r:=Zd h
  rw [e] at hz ⊢
  exact Zd hz
 ·rw [Z6 h]
  have e:Wj L r=L:=Z6 h
  rw [e] at hz ⊢
  exact Zd hz
theorem Z7s {L:Zo} {m:Nat} {r:Int} (h:gI L.vars r≠0) (ho:¬1<=gI L.own r):Uh m r L=none:=by
 rw [Uh,Zd h,Bf,Z6 ho];rfl
theorem G8 {L:Zo} {m:Nat} {r:Int} (hz:Vc ((Wj L r).own.drop m) ((Wj L r).tok.drop m)=false):Uh m r L=none:=by
 rw [Uh]
 by_cases h:gI L.vars r≠0
 ·rw [Zd h,Bf]
  have e:Wj L r=XU L r:=Zd h
  rw [e] at hz
  split
  ·exact Z6 (by rw [hz];simp)
  ·rfl
 ·rw [Z6 h]
  have e:Wj L r=L:=Z6 h
  rw [e] at hz
  exact Z6 (by rw [hz];simp)
theorem HN {os ts:LI} {k:Nat} {o t:Int} {r:Bool} (h1:os[k]? = some o) (h2:ts[k]? = some t) (h:o≠0∨0<=t) (hr:Vc (os.drop k) (ts.drop k)=r):r=false:=by
 rw [Y5 h1,Y5 h2,Vc,Zd h] at hr;exact hr.symm
theorem HO {os ts:LI} {k:Nat} {o t:Int} {r:Bool} (h1:os[k]? = some o) (h2:ts[k]? = some t) (h:¬(o≠0∨0<=t)) (hr:Vc (os.drop k) (ts.drop k)=r):Vc (os.drop (k+1)) (ts.drop (k+1))=r:=by
 rw [Y5 h1,Y5 h2,Vc,Z6 h] at hr;exact hr
theorem Z33 {os ts:LI} {k:Nat} {r:Bool} (h1:os.length<=k) (hr:Vc (os.drop k) (ts.drop k)=r):r=true:=by
 rw [Xm h1] at hr;rw [<-hr];simp [Vc]
end Go.Abs
namespace Go.Abs
def D7 (o:LI) (fs:LI):LI:=fs.foldl (fun o f=>o.set f.toNat (gI o f+1)) o
theorem Z53 {p:Int} {xs own:LI}:D7 own (XE xs p)=UZ own p xs:=(Ex xs p own).symm
theorem Z54 {fs o r:LI} {k:Nat} {f x:Int} (h:fs[k]? = some f) (hx:gI o f=x) (hr:D7 o (fs.drop k)=r):D7 (o.set f.toNat (x+1)) (fs.drop (k+1))=r:=by
 rw [Y5 h,D7,List.foldl_cons,hx] at hr;exact hr
theorem NU {fs o r:LI} {k:Nat} (h:fs.length<=k) (hr:D7 o (fs.drop k)=r):o=r:=by
 rw [Xm h] at hr;exact hr
def Ku (n:Zl) (ln:LI) (L:Zo) (op v:Int):Option Zo:=if op=14 then Kw L ln v else if op=15 then Ua L v else Qg n.decls L op v
section
variable {n:Zl} {ln:LI} {L:Zo} {op v:Int} {am:List X2} {a:X2}
theorem Z5q (h:op=14) (ha:¬XT L ln v=true):Ku n ln L op v=none:=by rw [Ku,Zd h,Kw,Z6 ha]
theorem Z5r (h:op=14) (ha:XT L ln v=true) {x:Int} (hx:gI L.own v=x):Ku n ln L op v=some { L with own:=L.own.set v.toNat (x+1) }:=by rw [Ku,Zd h,Kw,Zd ha,hx]
theorem Z5u (h:op=15) (ht:1<=gI L.own v):Ku n ln L op v=some (XU L v):=by rw [Ku,Z6 om,Zd h,Bf,Zd ht]
theorem Z5t (h:op=15) (ht:¬1<=gI L.own v):Ku n ln L op v=none:=by rw [Ku,Z6 om,Zd h,Bf,Z6 ht]
theorem O4 (h1:¬op=14) (h2:¬op=15):Ku n ln L op v=Qg n.decls L op v:=by rw [Ku,Z6 h1,Z6 h2]
theorem Zf0 {ds:List Zf} (har:V6 ds L am) (hv:0<=v/\v<L.vars.length) (ho:US am v=none):Qg ds L op v=none:=by
 have:=har.off v hv.1 hv.2
 rw [ho] at this
 rw [Qg,Zd (.inl this)]
theorem Zez {ds:List Zf} (har:V6 ds L am) (hv:0<=v/\v<L.vars.length) (ho:US am v=some a) {xt:Int} (hxt:gI L.tok v=xt):Qg ds L op v=if ¬1<=gI L.own v∨(op=17/\xt>=0) then none else
  some { XU L v with own:=UZ (XU L v).own a.fst a.fds,tok:=if op=17 then L.tok.set v.toNat a.fds.length else L.tok }:=by
 have:=har.off v hv.1 hv.2
 rw [ho] at this
 obtain ⟨h1,h2,h3⟩:=this
 have hcon:¬gI L.con v<0:=by omega
 rw [Qg,Bf,hxt,<-h2,<-h3]
 by_cases ht:1<=gI L.own v
 ·rw [Zd ht]
  by_cases h17:op=17/\xt>=0
  ·have c1:gI L.con v<0∨(op=17/\0<=xt):=.inr h17
   have c2:¬1<=gI L.own v∨(op=17/\xt>=0):=.inr h17
   rw [Zd c1,Zd c2]
  ·have c1:¬(gI L.con v<0∨(op=17/\0<=xt)):=fun q=>q.elim hcon h17
   have c2:¬(¬1<=gI L.own v∨(op=17/\xt>=0)):=fun q=>q.elim (fun z=>z ht) h17
   rw [Z6 c1,Z6 c2]
 ·rw [Z6 ht]
  have c2:¬1<=gI L.own v∨(op=17/\xt>=0):=.inl ht
  rw [Zd c2]
  split<;>rfl
end
end Go.Abs
namespace Go.Abs
theorem Z6u {ds:List Zf} {L:Zo} {q v:Int} (hk:X7 ds L q) (h1:1<=gI L.own v) (hv:0<=v/\v<L.vars.length):∀y∈(XU L v).own,0<=y/\y<=q:=by
 intro y hy
 rcases KG hy with hy|rfl
 ·exact ⟨hk.nn y hy,hk.bd y hy⟩
 ·obtain ⟨x,hx⟩:=QQ (xs:=L.own) (j:=v.toNat) (by have:=hk.len.own;omega)
  have hg:=VQ hx
  have:=hk.bd x (Y4 hx)
  omega
end Go.Abs
end
section
namespace Go.Abs
def Va (n:Zl) (us:LI) (op num:Int):LI->Nat->LI
 | [],_=>[]
 | a::r,i=>if TH n us op num a i=true then (i:Int)::Va n us op num r (i+1) else Va n us op num r (i+1)
section
variable {n:Zl} {us:LI} {op num:Int}
theorem Zfh {args acc r:LI} {k:Nat} {a:Int} (h:args[k]? = some a) (hc:TH n us op num a k=true) (hr:acc++Va n us op num (args.drop k) k=r) :
  (acc++[(k:Int)])++Va n us op num (args.drop (k+1)) (k+1)=r:=by
 rw [Y5 h,Va,Zd hc] at hr;rw [UC];exact hr
theorem Sz {args acc r:LI} {k:Nat} {a:Int} (h:args[k]? = some a) (hc:¬TH n us op num a k=true) (hr:acc++Va n us op num (args.drop k) k=r) :
  acc++Va n us op num (args.drop (k+1)) (k+1)=r:=by
 rw [Y5 h,Va,Z6 hc] at hr;exact hr
theorem Zfg {args acc r:LI} {k:Nat} (h:args.length<=k) (hr:acc++Va n us op num (args.drop k) k=r):acc=r:=by
 rw [Xm h,Va,Ko] at hr;exact hr
theorem Mc (h:¬Tk op=true):∀(args:LI) (i:Nat),Va n us op num args i=[]
 | [],_=>rfl
 | a::r,i=>by
  have hb:Tk op=false:=by simpa using h
  rw [Va,Z6 (by rw [TH,hb];simp)];exact Mc h r (i+1)
theorem Mb:∀{args:LI} {i:Nat} {p:Int},p∈Va n us op num args i->(i:Int)<=p/\p<i+args.length
 | [],_,_,h=>by simp [Va] at h
 | a::r,i,p,h=>by
  rw [Va] at h
  simp only [X5]
  split at h
  ·rcases YH.1 h with rfl|h
   ·omega
   ·have:=Mb h;omega
  ·have:=Mb h;omega
theorem Sy:∀(args:LI) (i:Nat),(Va n us op num args i).length<=args.length
 | [],_=>by simp [Va]
 | a::r,i=>by
  have:=Sy r (i+1)
  rw [Va];split<;>simp<;>omega
theorem RP (h:¬Tk op=true) (i:Nat):¬WJ n op num i=true:=by
 have:op≠9:=fun q=>h (by rw [q];rfl)
 rw [WJ,JA,Z6 this];simp
def Bp (n:Zl) (op num:Int) (args:LI) (k:Nat) (ls:LI):Prop:=∀x,x∈ls↔∃i,i<k/\args[i]? = some x/\WJ n op num i=true
theorem RM {args ls:LI} {k:Nat} (h:Bp n op num args k ls) (hl:¬WJ n op num k=true):Bp n op num args (k+1) ls:=by
 intro x;rw [h x]
 constructor
 ·rintro ⟨i,q1,q2⟩;exact ⟨i,by omega,q2⟩
 ·rintro ⟨i,q1,q2,q3⟩
  rcases JS i k with q|q
  ·exact ⟨i,q,q2,q3⟩
  ·have:i=k:=by omega
   subst this;exact absurd q3 hl
theorem Zdn {args ls ls2:LI} {k:Nat} {a:Int} (ha:args[k]? = some a) (h:Bp n op num args k ls) (hl:WJ n op num k=true) (h2:∀x,x∈ls2↔x∈ls∨x=a):Bp n op num args (k+1) ls2:=by
 intro x;rw [h2 x,h x]
 constructor
 ·rintro (⟨i,q1,q2⟩|rfl)
  ·exact ⟨i,by omega,q2⟩
  ·exact ⟨k,by omega,ha,hl⟩
 ·rintro ⟨i,q1,q2,q3⟩
  rcases JS i k with q|q
  ·exact .inl ⟨i,q,q2,q3⟩
  ·have:i=k:=by omega
   subst this;rw [ha] at q2;exact .inr (UY q2).symm
theorem Zdp {args:LI}:Bp n op num args 0 []:=by intro x;simp
theorem Zdo {args ls:LI} {k:Nat} (h:Bp n op num args k ls) (hk:args.length<=k):∀x,x∈ls↔∃i,args[i]? = some x/\WJ n op num i=true:=by
 intro x;rw [h x]
 constructor
 ·rintro ⟨i,_,q⟩;exact ⟨i,q⟩
 ·rintro ⟨i,q⟩;exact ⟨i,by have:=(Xs.1 q.1).1;omega,q⟩
end
def KQ (args:LI):LI->Zo->Option Zo
 | [],L=>some L
 | k::r,L=>match Ua L (gI args k) with
  | none=>none
  | some L1=>KQ args r L1
theorem Fk {n:Zl} {op num:Int} {all:LI}:∀{args:LI} {i:Nat} {L:Zo},all.drop i=args->T7 n op num args i L=KQ all (Va n L.vars op num args i) L
 | [],i,L,_=>rfl
 | a::r,i,L,h=>by
  have hr:all.drop (i+1)=r:=by rw [<-List.drop_drop,h];rfl
  have ha:gI all (i:Int)=a:=by
   have:(all.drop i)[0]? = some a:=by rw [h];rfl
   rw [CY] at this
   exact VQ (by simpa using this)
  rw [T7,Va]
  split
  ·rw [KQ,ha]
   cases ht:Ua L a with
   | none=>rfl
   | some L1=>
    simp only
    rw [Fk hr,(KP ht).2.1]
  ·exact Fk hr
theorem Zkb {args ps:LI} {k:Nat} {L:Zo} {p x:Int} {r:Option Zo} (h:ps[k]? = some p) (hx:gI args p=x) (ht:1<=gI L.own x) (hr:KQ args (ps.drop k) L=r):KQ args (ps.drop (k+1)) (XU L x)=r:=by
 rw [Y5 h,KQ,hx,Bf,Zd ht] at hr;exact hr
theorem Zkc {args ps:LI} {k:Nat} {L:Zo} {p x:Int} {r:Option Zo} (h:ps[k]? = some p) (hx:gI args p=x) (ht:¬1<=gI L.own x) (hr:KQ args (ps.drop k) L=r):r=none:=by
 rw [Y5 h,KQ,hx,Bf,Z6 ht] at hr;exact hr.symm
theorem Zka {args ps:LI} {k:Nat} {L:Zo} {r:Option Zo} (h:ps.length<=k) (hr:KQ args (ps.drop k) L=r):r=some L:=by
 rw [Xm h,KQ] at hr;exact hr.symm
theorem Gu {n:Zl} {op num:Int} {ln:LI} {L:Zo} {all:LI}:∀{args:LI} {i:Nat},all.drop i=args ->
  (Qd n op num ln L args i=true↔∀j x,i<=j->all[j]? = some x->WJ n op num j=true->XT L ln x=true)
 | [],i,h=>by
  simp only [Qd,true_iff]
  intro j x hj hx _
  have:=(Xs.1 hx).1
  have hl:=Yu List.length h
  simp at hl;omega
 | a::r,i,h=>by
  have hr:all.drop (i+1)=r:=by rw [<-List.drop_drop,h];rfl
  have ha:all[i]? = some a:=by
   have:(all.drop i)[0]? = some a:=by rw [h];rfl
   rw [CY] at this;simpa using this
  rw [Qd]
  split
  ·rename_i q
   simp only [Bool.false_eq_true,false_iff]
   exact fun z=>q.2 (z i a (X6 _) ha q.1)
  ·rename_i q
   rw [Gu hr]
   constructor
   ·intro z j x hj hx hl
    rcases JS i j with hij|hij
    ·exact z j x hij hx hl
    ·have:j=i:=by omega
     subst this;rw [ha] at hx;cases hx
     exact Wc.1 fun y=>q ⟨hl,y⟩
   ·exact fun z j x hj=>z j x om
theorem Py {n:Zl} {ln:LI} {L L1:Zo} {op num into:Int} {args ls:LI} (h1:KQ args (Va n L.vars op num args 0) L=some L1) (hl:∀x,x∈ls↔∃i,args[i]? = some x/\WJ n op num i=true) :
  ((∀x∈ls,XT L1 ln x=true)->UI n ln L op num into args=Jw L1 into args.length)/\((∃x∈ls,¬XT L1 ln x=true)->UI n ln L op num into args=none):=by
 rw [UI,Fk (all:=args) (args:=args) (i:=0) rfl,h1]
 simp only
 constructor
 ·intro h
  rw [Zd ((Gu (all:=args) (args:=args) (i:=0) rfl).2 fun j x _ hx hj=>h x ((hl x).2 ⟨j,hx,hj⟩))]
 ·rintro ⟨x,hx,hd⟩
  rw [Z6]
  intro z
  obtain ⟨j,q1,q2⟩:=(hl x).1 hx
  exact hd ((Gu (all:=args) (args:=args) (i:=0) rfl).1 z j x (Ac _) q1 q2)
theorem Zah {n:Zl} {ln:LI} {L:Zo} {op num into:Int} {args:LI} (h1:KQ args (Va n L.vars op num args 0) L=none):UI n ln L op num into args=none:=by
 rw [UI,Fk (all:=args) (args:=args) (i:=0) rfl,h1]
end Go.Abs
namespace Go.Abs
theorem Zhh {n:Zl} (hn:X3 n) (num:Int):(UL n num).lnt.length<=4194304:=by
 rw [UL,TA]
 cases h:n.routines[num.toNat]? with
 | none=>simp
 | some r=>exact hn.lent r (Y4 h)
theorem Zdm {n:Zl} {op num:Int} {k:Nat}:WJ n op num k=true↔(op=9/\(k:Int)∈(UL n num).lnt):=by
 rw [WJ,JA,decide_eq_true_iff]
 by_cases h:op=9
 ·rw [Zd h,UL,TA]
  cases n.routines[num.toNat]? with
  | none=>simp
  | some r=>simp [h,Wb]
 ·rw [Z6 h];simp [h]
end Go.Abs
namespace Go.Abs
theorem clS {xs:LI} {p:LI->Prop}:DW fun r h=>∃(vp vl:Value) (ls:LI),r=.tup [ZQ xs vp,ZQ ls vl]/\h=[.tail vp 1,.tail vl 1]/\p ls:=by
 rintro _ _ ⟨vp,vl,ls,rfl,rfl,_⟩
 refine ⟨.tup fun y hy=>?_,by simp [DX]⟩
 simp only [YH,List.not_mem_nil,or_false] at hy
 rcases hy with rfl|rfl
 ·exact .own (k:=1) (HH _) (by simp)
 ·exact .own (k:=1) (HH _) (by simp)
end Go.Abs
end
section
namespace Go.Abs
section
variable {n:Zl} {ln:LI}
theorem Zai {L L':Zo} {op num into q:Int} {args:LI} {ds:List Zf} (hk:X7 ds L q) (h:UI n ln L op num into args=some L'):L'.vars=L.vars/\L'.par=L.par/\L'.con=L.con/\L'.fst=L.fst:=by
 rw [UI] at h
 cases ht:T7 n op num args 0 L with
 | none=>rw [ht] at h;cases h
 | some L1=>
  rw [ht] at h
  obtain ⟨_,h1,h2,h3,h4,_⟩:=Gv hk ht
  simp only at h
  split at h
  ·rw [Jw] at h
   split at h
   ·split at h
    ·cases h
    ·cases h;exact ⟨h1,h2,h3,h4⟩
   ·cases h;exact ⟨h1,h2,h3,h4⟩
  ·cases h
theorem Zfd {L L1:Zo} {s:Z5} {q:Int} {ds:List Zf} (hk:X7 ds L q) (h:UT n ln L s.op s.num s.into s.args (U5 n ln L s.op s.num s.args s.kids)=some L1):L1.vars=L.vars/\L1.par=L.par/\L1.con=L.con/\L1.fst=L.fst:=by
 rw [UT] at h
 split at h
 ·obtain ⟨h1,h2,h3,h4,_⟩:=Iu h;exact ⟨h1,h2,h3,h4⟩
 split at h
 ·obtain ⟨_,h1,h2,h3,h4,_⟩:=KP h;exact ⟨h1,h2,h3,h4⟩
 split at h
 ·obtain ⟨h1,h2,h3,h4,_⟩:=M7 h;exact ⟨h1,h2,h3,h4⟩
 split at h
 ·split at h
  ·cases h
  ·cases hks:s.kids with
   | nil=>rw [hks,U5] at h;cases h
   | cons b bs=>
    rw [hks,U5] at h
    unfold B4 at h
    cases hb:Wi n ln (WI n.decls L s.op s.num s.args 0) L.vars.length b with
    | none=>rw [hb] at h;cases h
    | some one=>
     rw [hb] at h
     simp only at h
     split at h
     ·cases h;exact ⟨rfl,rfl,rfl,rfl⟩
     ·cases h
 ·exact Zai hk h
theorem Z22 (hn:X3 n) {s:Z5} {L L':Zo} {q:Int} {am:List X2} (hk:X7 n.decls L q) (hq:0<=q) (hty:0<=Y0 n L.vars s) (h:WM n ln L s=some L') (ha:V6 n.decls L am):V6 n.decls L' am:=by
 rw [Hx] at h
 cases hp:UT n ln L s.op s.num s.into s.args (U5 n ln L s.op s.num s.args s.kids) with
 | none=>rw [hp] at h;cases h
 | some L1=>
  rw [hp] at h
  obtain ⟨h1,h2,h3,h4⟩:=Zfd hk hp
  have hk1:=(BP hn hk hq (Be hty) hp).1
  have ha1:V6 n.decls L1 am:=ha.same (by rw [h1]) h2 h3 h4
  rw [Ke] at h
  split at h
  ·cases h;exact ha1.grow hk1.len
  ·cases h;exact ha1
theorem Hz (hn:X3 n) {am:List X2}:∀{xs:List Z5} {L L':Zo} {q:Int} {vs:LI},X7 n.decls L q->0<=q->V6 n.decls L am->Xj n xs L.vars=some vs->Xt n ln L xs=some L' ->
  X7 n.decls L' (q+4*Yk xs)/\L'.vars=vs/\V6 n.decls L' am
 | [],L,L',q,vs,hk,hq,ha,ht,h=>by
  rw [Xt] at h;rw [Xj] at ht;cases h;cases ht
  exact ⟨by simpa [Yk] using hk,rfl,ha⟩
 | s::r,L,L',q,vs,hk,hq,ha,ht,h=>by
  rw [Xt] at h
  cases hs:WM n ln L s with
  | none=>rw [hs] at h;cases h
  | some L1=>
   rw [hs] at h
   obtain ⟨g1,g2⟩:=CS ht
   obtain ⟨k1,k2⟩:=Fg hn hk hq g1 hs
   have:=Hz hn (xs:=r) k1 (by have:=s.sz_pos;omega) (Z22 hn hk hq g1 hs ha) (by rw [k2];exact g2) h
   refine ⟨?_,this.2⟩
   rw [show q+4*Yk (s::r)=q+4*s.sz+4*Yk r by rw [Yk];omega]
   exact this.1
end
end Go.Abs
namespace Go.Abs
def Cc (n:Zl):Prop:=∀r∈n.routines,∀i:Nat,(i:Int)∈r.lent->∃t,r.params[i]? = some t/\t≠0
theorem RL {ps:LI}:∀{ls:LI} {prev:Option Int},Kg ps ls prev=true->∀v∈ls,(0<=v/\v<=(ps.length:Int)-1)/\ps[v.toNat]?≠some 0
 | [],_,_,v,h=>by cases h
 | x::r,prev,h,v,hv=>by
  rw [Kg] at h
  split at h
  ·rename_i q
   rcases YH.1 hv with rfl|hv
   ·exact ⟨q.1,q.2.1⟩
   ·exact RL h v hv
  ·cases h
theorem RQ:∀{rs:List Yb},K1 rs=true->∀r∈rs,JP r.params r.lent=true
 | [],_,r,h=>by cases h
 | x::rs,h,r,hr=>by
  rw [K1] at h
  split at h
  ·rcases YH.1 hr with rfl|hr
   ·assumption
   ·exact RQ h r hr
  ·cases h
theorem Zef {n:Zl} (h:VC n=true):Cc n:=by
 simp only [VC,Kl,W9,decide_eq_true_eq] at h
 obtain ⟨_,_,h6⟩:=h
 intro r hr i hi
 obtain ⟨h1,h2⟩:=RL (RQ h6 r hr) i hi
 obtain ⟨t,ht⟩:=QQ (xs:=r.params) (j:=i) om
 refine ⟨t,ht,fun q=>h2 ?_⟩
 rw [VF,ht,q]
theorem Fo {us:LI}:∀{args tys:LI} {i:Nat} {a t:Int},Tx us args tys=true->args[i]? = some a->tys[i]? = some t->Xc us a=some t
 | [],_,i,a,t,_,h,_=>by simp at h
 | x::r,[],i,a,t,_,_,h=>by simp at h
 | x::r,y::ys,i,a,t,h,ha,ht=>by
  rw [Tx] at h
  split at h
  ·rename_i hq
   cases i with
   | zero=>simp at ha ht;subst ha;subst ht;exact hq
   | succ i=>exact Fo h (by simpa using ha) (by simpa using ht)
  ·cases h
theorem Zdq {n:Zl} (hl:Cc n) {us:LI} {s:Z5} (h:0<=Y0 n us s):∀(i:Nat) (a:Int),s.args[i]? = some a->WJ n s.op s.num i=true->gI us a≠0:=by
 intro i a ha hla
 rw [WJ,JA,decide_eq_true_iff] at hla
 by_cases h9:s.op=9
 ·rw [Zd h9] at hla
  have hn:=(Be h).num h9
  obtain ⟨r,hr⟩:=QQ (xs:=n.routines) (j:=s.num.toNat) om
  rw [hr] at hla
  obtain ⟨t,ht,h0⟩:=hl r (Y4 hr) i hla
  rw [A6] at h
  split at h
  ·omega
  rw [Z6 om,Z6 om,Z6 om,Z6 om,Z6 om,Z6 om,Zd (.inl h9),UB,Q8 om hr] at h
  simp only [Jd] at h
  rw [Zd h9] at h
  split at h
  ·rename_i hty
   rw [Wf] at hty
   have hq:Xc us a=some t:=by
    first
    | exact Fo hty ha ht
    | exact Fo (Bool.and_eq_true_iff.1 hty).2 ha ht
    | exact Fo (Bool.and_eq_true_iff.1 hty).1 ha ht
   rw [VQ (J0 hq).2];exact h0
  ·omega
 ·rw [Z6 h9] at hla;cases hla
end Go.Abs
namespace Go.Abs
theorem Zh8 {n:Zl} {us:LI} {s:Z5} (h:∀t∈us,0<=t) (h0:0<=Y0 n us s):∀t∈QG n us s,0<=t:=by
 rw [QG];split
 ·exact EJ h fun t ht=>by rw [XH.1 ht];exact h0
 ·exact h
end Go.Abs
namespace Go.Abs
theorem Ik {c:Bool} {ok:Int->Prop}:DW fun r h=>∃t:Int,r=.tup [.i t,.b c]/\h=[]/\ok t:=by
 rintro _ _ ⟨t,rfl,rfl,_⟩
 refine ⟨.tup fun y hy=>?_,by simp⟩
 simp only [YH,List.not_mem_nil,or_false] at hy
 rcases hy with rfl|rfl<;>exact .val
section
variable {n:Zl} {ln:LI} {L:Zo} {s:Z5}
theorem OW {op t:Int} {r:Option Zo} (h:¬W7 op=true):Ke L op t r=r:=by
 cases r with
 | none=>rfl
 | some X=>exact Z6 h
theorem Z24 {x:Int} (hc:YC s.op=true) (hx:gI s.args 0=x):WM n ln L s=Ku n ln L s.op x:=by
 have hop:14<=s.op/\s.op<=17:=by simpa [YC] using hc
 have hd:¬W7 s.op=true:=by rw [W7];simp;omega
 rw [U9,OW hd,Ku]
 by_cases h14:s.op=14
 ·rw [Zd h14];exact ES h14 hx
 rw [Z6 h14]
 by_cases h15:s.op=15
 ·rw [Zd h15];exact ET h15 hx
 rw [Z6 h15]
 exact Hf om hx
theorem MR {L1:Zo} {t:Int} (hP:Qi n ln L s=some L1) (h0:0<=Y0 n L.vars s) (hnc:¬YC s.op=true) (ht:t=Y0 n L.vars s):WM n ln L s=some (L1.grow t (min t 1) (-1)):=by
 have hd:W7 s.op=true:=by rw [Ed h0];simpa using hnc
 rw [U9,hP]
 show (if W7 s.op=true then _ else _)=_
 rw [Zd hd,ht,show (if Y0 n L.vars s≠0 then (1:Int) else 0)=min (Y0 n L.vars s) 1 by split<;>omega]
theorem Z25 (hP:Qi n ln L s=none):WM n ln L s=none:=by rw [U9,hP];rfl
theorem Ma (h1:¬YC s.op=true) (h2:¬(s.op=7∨s.op=8)):Qi n ln L s=UI n ln L s.op s.num s.into s.args:=by
 have hop:¬(14<=s.op/\s.op<=17):=by simpa [YC] using h1
 rw [Qi,UT,Z6 om,Z6 om,Z6 om,Z6 h2]
theorem Zfc (h1:¬YC s.op=true) (h2:¬(s.op=7∨s.op=8)) (h3:¬Tk s.op=true) (h0:0<=Y0 n L.vars s):Qi n ln L s=some L:=by
 rw [Ma h1 h2,UI,Fk (all:=s.args) (args:=s.args) (i:=0) rfl,Mc h3]
 show (if Qd n s.op s.num ln L s.args 0=true then Jw L s.into s.args.length else none)=some L
 rw [Zd ((Gu (all:=s.args) (args:=s.args) (i:=0) rfl).2 fun j x _ _ hl=>absurd hl (RP h3 j)),Jw]
 have hi:¬0<s.into:=by
  intro hi
  rw [A6] at h0
  split at h0
  ·omega
  ·rename_i hq
   have hv:Uc L.vars s.op s.into=true:=Wc.1 fun z=>hq (.inr (.inl z))
   rw [Uc,Z6 om] at hv
   split at hv
   ·rename_i h6;exact h3 (by rw [h6];rfl)
   ·cases hv
 rw [Z6 hi]
end
end Go.Abs
namespace Go.Abs
def TV (L:Zo) (am:List X2) (s:Z5) (m:LI):List X2:=if s.op=8 then am++[⟨gI s.args 0,(L.vars.length:Nat),m,false⟩] else am
def JI (n:Zl) (L:Zo) (s:Z5) (k:Nat):Zo:=if s.op=8 then { L with con:=L.con.set (gI s.args 0).toNat (gI (ZV n.decls s.num) k),fst:=L.fst.set (gI s.args 0).toNat L.vars.length } else L
theorem BW {n:Zl} {L:Zo} {s:Z5} {k:Nat}:(JI n L s k).vars=L.vars:=by rw [JI];split<;>rfl
theorem DN {n:Zl} {L:Zo} {s:Z5} {k:Nat}:(JI n L s k).own=L.own:=by rw [JI];split<;>rfl
theorem DO {n:Zl} {L:Zo} {s:Z5} {k:Nat}:(JI n L s k).tok=L.tok:=by rw [JI];split<;>rfl
theorem Z20 {n:Zl} {L:Zo} {s:Z5} {k:Nat} (h:WK L):WK (JI n L s k):=by rw [JI];split;exact h.arm;exact h
theorem Z1z {n:Zl} {L:Zo} {s:Z5} {k:Nat} {m:LI} (hop:s.op=7∨s.op=8) (hm:(X8 n.decls s.op s.num)[k]? = some m):Ju (JI n L s k) (gI s.args 0) m=WI n.decls L s.op s.num s.args k:=by
 rw [JI,WI]
 by_cases h8:s.op=8
 ·rw [Zd h8,Zd h8]
  obtain ⟨c,hc,rfl⟩:=FG h8 hm
  have hgc:gI (ZV n.decls s.num) (k:Int)=c:=by rw [gI];simp [hc]
  rw [KX,hgc]
 ·rw [Z6 h8,Z6 h8]
  rw [X8,Zd om] at hm
  have:m=[]:=by
   match k,hm with
   | 0,hm=>simpa using hm.symm
   | 1,hm=>simpa using hm.symm
   | k+2,hm=>simp at hm
  rw [this];rfl
theorem Nx {n:Zl} {L:Zo} {am:List X2} {s:Z5} {k:Nat} {m:LI} (hn:X3 n) (ha:V6 n.decls L am) (hl:WK L) (hop:s.op=7∨s.op=8) (hx:0<=gI s.args 0/\gI s.args 0<L.vars.length) (hm:(X8 n.decls s.op s.num)[k]? = some m) :
  V6 n.decls (WI n.decls L s.op s.num s.args k) (TV L am s m):=by
 rw [TV,WI]
 by_cases h8:s.op=8
 ·rw [Zd h8,Zd h8]
  obtain ⟨c,hc,rfl⟩:=FG h8 hm
  have hgc:gI (ZV n.decls s.num) (k:Int)=c:=by rw [gI];simp [hc]
  rw [hgc]
  exact ha.arm hl hx (O6 hn.decls hc).1
 ·rw [Z6 h8,Z6 h8];exact ha
end Go.Abs
namespace Go.Abs
theorem Hy {n:Zl}:∀{xs:List Z5} {us vs:LI},Xj n xs us=some vs->us.length<=vs.length/\vs.length<=us.length+Yk xs
 | [],us,vs,h=>by rw [Xj] at h;cases h;simp [Yk]
 | s::r,us,vs,h=>by
  obtain ⟨_,g2⟩:=CS h
  have:=Hy g2
  have h2:=F7 n us s
  rw [Yk];omega
theorem Nw {L:Zo} {am:List X2} {s:Z5} {m:LI}:(TV L am s m).length<=am.length+1:=by rw [TV];split<;>simp
theorem Ny {n:Zl} (hty:KV n) {op num:Int} {k:Nat} {m:LI} (h:(X8 n.decls op num)[k]? = some m):∀f∈m,0<=f:=by
 by_cases h7:op=7
 ·rw [X8,Zd h7] at h
  have:m=[]:=by
   match k,h with
   | 0,h=>simpa using h.symm
   | 1,h=>simpa using h.symm
   | k+2,h=>simp at h
  rw [this];intro f hf;cases hf
 ·rw [X8,Z6 h7,TA] at h
  cases hc:(ZV n.decls num)[k]? with
  | none=>rw [hc] at h;cases h
  | some c=>rw [hc] at h;cases h;exact hty.fields c
theorem G7 {L:Zo} {r:Int}:(Wj L r).own.length=L.own.length/\(Wj L r).tok.length=L.tok.length/\(Wj L r).vars=L.vars:=by
 rw [Wj];split
 ·exact ⟨Tg,rfl,rfl⟩
 ·exact ⟨rfl,rfl,rfl⟩
end Go.Abs
namespace Go.Abs
theorem HA {L M:Zo} {n:Zl} {ln:LI} {xs:List Z5} {f:Zo->Option Zo} (h:Xt n ln L xs=some M):JL (Xt n ln L xs) f=f M:=by rw [h];rfl
end Go.Abs
end
namespace Go.Abs

end Go.Abs
section
namespace Go.Abs
theorem Z32:∀{os ts:LI} {m:Nat},os.length=ts.length->(Vc os ts=true↔Vc (os.take m) (ts.take m)=true/\Vc (os.drop m) (ts.drop m)=true)
 | [],[],m,_=>by simp [Vc]
 | [],_::_,_,h=>by simp at h
 | _::_,[],_,h=>by simp at h
 | o::os,t::ts,0,h=>by simp [Vc]
 | o::os,t::ts,m+1,h=>by
  simp only [C8,List.drop_succ_cons]
  rw [Vc,Vc]
  split
  ·simp
  ·exact Z32 (by simpa using h)
theorem Z03 {n:Zl} {r:Yb} {M:Zo} (hP:Xt n r.lent (U6 r) r.body.steps=some M) (hl:M.own.length=M.tok.length):Tj n r=(Uh 0 r.body.result M).isSome:=by
 rw [Tj,J1,hP]
 show (match Uh r.params.length r.body.result M with|none=>false|some L=>(UG L 0).isSome)=_
 rw [Uh,Uh]
 cases hT:(if gI M.vars r.body.result≠0 then Ua M r.body.result else some M) with
 | none=>rfl
 | some M2=>
  have h2:M2.own.length=M2.tok.length:=by
   split at hT
   ·have:=KP hT;rw [this.2.2.2.2.2.1,this.2.2.2.2.2.2,Tg];exact hl
   ·cases hT;exact hl
  show (match UG M2 r.params.length with|none=>false|some L=>(UG L 0).isSome)=(UG M2 0).isSome
  have key:=Z32 (m:=r.params.length) h2
  rw [UG,UG]
  by_cases h1:Vc (M2.own.drop r.params.length) (M2.tok.drop r.params.length)=true
  ·rw [Zd h1]
   show (UG (M2.take r.params.length) 0).isSome=_
   rw [UG]
   by_cases h3:Vc (M2.own.take r.params.length) (M2.tok.take r.params.length)=true
   ·rw [Zd (show Vc ((M2.take r.params.length).own.drop 0) ((M2.take r.params.length).tok.drop 0)=true from h3),Zd (show Vc (M2.own.drop 0) (M2.tok.drop 0)=true from key.2 ⟨h3,h1⟩)];rfl
   ·rw [Z6 (show ¬Vc ((M2.take r.params.length).own.drop 0) ((M2.take r.params.length).tok.drop 0)=true from h3),Z6 (show ¬Vc (M2.own.drop 0) (M2.tok.drop 0)=true from fun z=>h3 (key.1 z).1)]
  ·rw [Z6 h1,Z6 (show ¬Vc (M2.own.drop 0) (M2.tok.drop 0)=true from fun z=>h1 (key.1 z).2)];rfl
theorem Zge {n:Zl} {r:Yb} (hP:Xt n r.lent (U6 r) r.body.steps=none):Tj n r=false:=by rw [Tj,J1,hP];rfl
end Go.Abs
namespace Go.Abs
theorem MB {xs:LI} {k:Nat} {a b:Int} (h:xs.length=k):(xs++[a]).set k b=xs++[b]:=by subst h;simp
end Go.Abs
namespace Go.Abs
theorem Z48 {ds:List Zf}:V6 ds ⟨[],[],[],[],[],[]⟩ []:=⟨fun a ha=>(nomatch ha),fun a ha=>(nomatch ha),fun v h0 h1=>(by have h2:v<((0:Nat):Int):=h1;omega),fun v h0 h1=>(by have h2:v<((0:Nat):Int):=h1;omega)⟩
theorem Sw {ds:List Zf} {lent:LI}:∀{ps:LI} {i:Nat} {L:Zo},WK L->V6 ds L []->V6 ds (KI lent ps i L) []
 | [],_,_,_,h=>h
 | t::r,i,L,hl,h=>by rw [KI];exact Sw hl.grow (h.grow hl)
theorem RZ {ds:List Zf} (rt:Yb):V6 ds (U6 rt) []:=Sw ⟨rfl,rfl,rfl,rfl,rfl⟩ Z48
end Go.Abs
end
section
namespace Go.Abs
end Go.Abs
namespace Go.Abs
end Go.Abs
namespace Go.Abs
end Go.Abs
namespace Go.Abs
end Go.Abs
end
namespace Go.Abs
def ZC (op v:Int):Z5:=.mk op 0 0 [v] []
def UP (ds:List Zf) (num:Int) (k:Nat):LI:=((ZV ds num).map (ZX ds))[k]?.getD []
section
variable {ds:List Zf} {am:List X2} {m:Nat}
end
theorem Gg {ds:List Zf} {num:Int} {k:Nat} {m:LI} (h:((ZV ds num).map (ZX ds))[k]? = some m):UP ds num k=m:=by rw [UP,h];rfl
theorem IX {ds:List Zf} (hd:Wp ds) (num:Int) (k:Nat):(UP ds num k).length<=3:=by
 rw [UP,TA]
 cases (ZV ds num)[k]? with
 | none=>simp
 | some c=>exact UF hd c
theorem Z7w (xs ys:List Wq):J6 (xs++ys)=J6 xs++J6 ys:=by simp [IV]
theorem IS (xs ys:List XL):Ky (xs++ys)=Ky xs++Ky ys:=by simp [IT]
theorem Z7x (x:Wq):J6 [x]=[x.er]:=by simp [IV]
theorem IU (x:XL):Ky [x]=[x.er]:=by simp [IT]
theorem Z1t {xs:List Z5} {k:Nat} {s:Z5} (h:xs[k]? = some s):Yk (xs.take (k+1))=Yk (xs.take k)+s.sz:=by
 induction xs generalizing k with
 | nil=>simp at h
 | cons t r ih=>
  cases k with
  | zero=>simp at h;subst h;simp [Yk]
  | succ k=>rw [C8,C8,Yk,Yk,ih (by simpa using h)];omega
theorem Bc (xs:List Z5) (k:Nat):Yk (xs.take k)<=Yk xs:=by
 induction xs generalizing k with
 | nil=>simp
 | cons t r ih=>
  cases k with
  | zero=>simp [Yk]
  | succ k=>have:=ih k;rw [C8,Yk,Yk];omega
theorem Zh6 {n:Zl} {us:LI} {s:Z5} (g:0<=Y0 n us s) (h:YC s.op=true):QG n us s=us:=by rw [QG,Ed g,h];rfl
theorem Zh5 {n:Zl} {us:LI} {s:Z5} (g:0<=Y0 n us s) (h:¬YC s.op=true):(QG n us s).length=us.length+1:=by
 rw [QG,Ed g,Kn.2 h];simp
theorem Zh7 {n:Zl} {us:LI} {s:Z5} (g:0<=Y0 n us s):(QG n us s).length=if YC s.op=true then us.length else us.length+1:=by
 split
 ·rw [Zh6 g (by assumption)]
 ·exact Zh5 g (by assumption)
theorem Zd7 {n:Zl} {us:LI} {s:Z5} (g:0<=Y0 n us s) (h:0<s.kids.length):s.op=7∨s.op=8:=by
 rw [A6] at g
 split at g
 ·omega
 ·rename_i q
  exact C4 fun z=>q (.inr (.inr ⟨h,fun e=>z (.inl e),fun e=>z (.inr e)⟩))
theorem Z4a {ds:List Zf} {op num:Int} {k:Nat} {m:LI} (h7:op=7) (h:(X8 ds op num)[k]? = some m):m=[]:=by
 rw [X8,Zd h7] at h
 match k,h with
 | 0,h=>simpa using h.symm
 | 1,h=>simpa using h.symm
 | k+2,h=>simp at h
theorem Cv (ys:List Vp):(Zh (VA ys)).length=ys.length*3:=by rw [T5 _ (Ow _)];simp
theorem P0 (ys:List VG):(Zh (Ux ys)).length=ys.length:=by rw [T5 _ (Ov _)];simp
theorem OZ (ys:List Zf):(Zh (YB ys)).length=ys.length*3:=by rw [T5 _ (J5 _)];simp
theorem Z8d (ys:List Yg):(Zh (XV ys)).length=ys.length:=by rw [T5 _ (Ef _)];simp
theorem Z8e {ds:List Zf} {k:Nat} {d:Zf} (h:ds[k]? = some d):Zh (YB (ds.drop k))=Q2 d++Zh (YB (ds.drop (k+1))):=by rw [Y5 h];rfl
theorem Z8c {ds:List Yg} {k:Nat} {d:Yg} (h:ds[k]? = some d):Zh (XV (ds.drop k))=Dw d++Zh (XV (ds.drop (k+1))):=by rw [Y5 h];rfl
theorem Z07 {ys:List Vp} {ds:List Zf} {k:Nat} {d:Zf} (h:ds[k]? = some d):Zh (VA ys++YB (ds.drop k))=Zh (VA ys)++(Q2 d++Zh (YB (ds.drop (k+1)))):=by
 rw [UQ,Z8e h]
theorem Zgi {ys:List VG} {ds:List Yg} {k:Nat} {d:Yg} (h:ds[k]? = some d):Zh (Ux ys++XV (ds.drop k))=Zh (Ux ys)++(Dw d++Zh (XV (ds.drop (k+1)))):=by
 rw [UQ,Z8c h]
theorem Z06 {ys:List Vp} {ds:List Zf} {k:Nat} (h:ys.length=k) (hk:k<=ds.length):(Zh (VA ys++YB (ds.drop k))).length=ds.length*3:=by
 rw [UQ,Yq,Cv,OZ,Bk];omega
theorem Z05 {ys:List VG} {ds:List Yg} {k:Nat} (h:ys.length=k) (hk:k<=ds.length):(Zh (Ux ys++XV (ds.drop k))).length=ds.length*1:=by
 rw [UQ,Yq,P0,Z8d,Bk];omega
theorem Zgk {ys:List Vp} {ds:List Zf} {k:Nat} {f t:Int} {zs:List VG} {u:Value}:Zh (VA ys)++([.i f,.i t,EL zs u]++Zh (YB (ds.drop (k+1))))=Zh (VA (ys++[Vp.mk f t zs u])++YB (ds.drop (k+1))):=by
 rw [Z7g,UQ,UQ,UC];rfl
theorem Zgh {ys:List VG} {ds:List Yg} {k:Nat} {xs:LI} {u:Value}:Zh (Ux ys)++([ZQ xs u]++Zh (XV (ds.drop (k+1))))=Zh (Ux (ys++[VG.mk xs u])++XV (ds.drop (k+1))):=by
 rw [Z7f,UQ,UQ,UC];rfl
theorem Zgj {ys:List Vp} {ds:List Zf} {k:Nat} (h:ds.length<=k):Zh (VA ys++YB (ds.drop k))=Zh (VA ys):=by rw [Xm h];simp [YB]
theorem Zgg {ys:List VG} {ds:List Yg} {k:Nat} (h:ds.length<=k):Zh (Ux ys++XV (ds.drop k))=Zh (Ux ys):=by rw [Xm h];simp [XV]
theorem Zgl {A B:List AV} {x y z x':AV} {o:Nat} (hA:A.length=o):(A++([x,y,z]++B)).take (o+2)++[x']++(A++([x,y,z]++B)).drop (o+2+1)=A++([x,y,x']++B):=by
 have h:=F3 (A:=A++[x,y]) (xs:=[z]) (ys:=[x']) (B:=B) (o:=o+2) (by simp [hA]) rfl
 simpa using h
theorem Zgm {A B:List AV} {x y z:AV} {o:Nat} (hA:A.length=o):((A++([x,y,z]++B)).drop (o+2)).take 1=[z]:=by
 have h:=Ms (A:=A++[x,y]) (xs:=[z]) (B:=B) (o:=o+2) (by simp [hA])
 simpa using h
theorem Zgn {A B:List AV} {x y z x':AV} {o:Nat} (hA:A.length=o):(A++([x,y,z]++B)).set (o+2) x'=A++([x,y,x']++B):=by
 subst hA
 rw [List.set_append_right _ _ om]
 simp
theorem Z35 {f t:Int} {zs:List VG} {u:Value} {cs:List Yg} (h:zs.map VG.er=cs):[Vp.mk f t zs u].map Vp.er=[Zf.mk f t cs]:=by
 rw [<-h];rfl
theorem XL.eta (y:XL):XL.mk y.steps y.sv y.result=y:=by cases y;rfl
theorem Ze3 {xs:List Vd} {rs:List Yb} {g:Yb->Yb} {k:Nat} {r:Yb} {R:Vd} (h:xs.map Vd.er=(rs.take k).map g) (hr:rs[k]? = some r) (hy:R.er=g r) :
  (xs++[R]).map Vd.er=(rs.take (k+1)).map g:=by
 rw [List.map_append,h,V4 hr,List.map_append,VZ,hy];rfl
theorem Qk:∀(xs ys:List Z5),Yk (xs++ys)=Yk xs+Yk ys
 | [],ys=>by simp [Yk]
 | x::r,ys=>by rw [Q6,Yk,Yk,Qk r ys];omega
theorem O3 (op v:Int):(ZC op v).sz=2:=by rw [ZC,Z5.sz];simp [Xl]
theorem MP (op:Int):∀l:LI,Yk (l.map (ZC op))=2*l.length
 | []=>by simp [Yk]
 | x::r=>by rw [VZ,Yk,O3,MP op r,X5];omega
section
variable {ds:List Zf} (hd:Wp ds)
include hd
end
def J7:List Yb->Bool
 | []=>true
 | r::rs=>if UV r.body<0 then false else J7 rs
def Kz (n:Zl):Bool:=J7 n.routines
def B5:Zl:=⟨[],[]⟩
theorem E6 {n:Zl} (hz:V7 n) (h:WP n=true):X3 n/\VC n=true/\∀r∈n.routines,0<=YS n r.params r.body:=by
 rw [WP,W9] at h
 obtain ⟨h1,h2⟩:=Ft hz h.1
 rw [XK,W9] at h
 exact ⟨h1,h.1.1,h2⟩
section
variable {ds:List Zf} {cons first:LI}
end
section
variable {ds:List Zf} (hd:Wp ds)
include hd
end
def Ys:List Z5->Nat
 | []=>0
 | s::r=>if s.op=14∨s.op=15 then Ys r+1 else 0
def YU (op:Int):List Z5->LI
 | []=>[]
 | s::r=>if s.op=op then gI s.args 0::YU op r else YU op r
def UJ:LI->Int->LI->LI->LI × LI
 | [],_,D,R=>(D,R)
 | f::r,q,D,R=>if f≠0/\q∈D then UJ r (q+1) (D.erase q) R else if f≠0 then UJ r (q+1) D (R++[q]) else UJ r (q+1) D R
def Qh (xs:List Z5) (x:Int) (fs:LI) (q:Int):LI × LI:=UJ fs q (YU 14 (xs.take (Ys xs))) ((YU 15 (xs.take (Ys xs))).erase x)
def U0 (xs:List Z5) (x:Int) (fs:LI) (q:Int):List Z5:=
 if x∈YU 15 (xs.take (Ys xs))/\fs.length≠0 then (Qh xs x fs q).1.map (ZC 14)++[ZC 16 x]++(Qh xs x fs q).2.map (ZC 15)++xs.drop (Ys xs) else xs
def Ue (b:Z7) (x:Int) (fs:LI) (q:Int):Z7:=.mk (U0 b.steps x fs q) b.result
theorem CN:∀xs:List Z5,Ys xs<=xs.length
 | []=>X6 _
 | s::r=>by have:=CN r;rw [Ys];split<;>simp<;>omega
theorem KM:∀{xs:List Z5} {s:Z5},s∈xs.take (Ys xs)->s.op=14∨s.op=15
 | [],s,h=>by simp [Ys] at h
 | t::r,s,h=>by
  rw [Ys] at h
  split at h
  ·rename_i q
   rw [C8] at h
   rcases YH.1 h with rfl|h
   ·exact q
   ·exact KM h
  ·simp at h
theorem I7:∀xs:List Z5,(YU 14 xs).length+(YU 15 xs).length<=xs.length
 | []=>by simp [YU]
 | s::r=>by
  have:=I7 r
  rw [YU,YU]
  by_cases h:s.op=14
  ·rw [Zd h,Z6 om];simp;omega
  ·rw [Z6 h];split<;>simp<;>omega
theorem He:∀(fs:LI) (q:Int) (D R:LI),(UJ fs q D R).1.length+(UJ fs q D R).2.length<=D.length+R.length+fs.length
 | [],q,D,R=>by simp [UJ]
 | f::r,q,D,R=>by
  rw [UJ,X5]
  split
  ·have:=He r (q+1) (D.erase q) R
   have h2:=List.length_erase_le (a:=q) (l:=D)
   omega
  ·split
   ·have:=He r (q+1) D (R++[q])
    simp only [Yq,X5,XP] at this
    omega
   ·have:=He r (q+1) D R
    omega
theorem Su {xs:List Z5} {x:Int} {fs:LI} {q:Int} (h:x∈YU 15 (xs.take (Ys xs))) (hf:fs.length<=3):(Qh xs x fs q).1.length+(Qh xs x fs q).2.length<=Ys xs+2:=by
 have h1:=He fs q (YU 14 (xs.take (Ys xs))) ((YU 15 (xs.take (Ys xs))).erase x)
 have h2:=I7 (xs.take (Ys xs))
 have h3:=List.length_pos_of_mem h
 rw [List.length_erase_of_mem h] at h1
 rw [WY] at h2
 have h4:=CN xs
 unfold Qh
 omega
theorem Zj8 (xs:List Z5) (k:Nat):Yk xs=Yk (xs.take k)+Yk (xs.drop k):=by rw [<-Qk,UW]
theorem Z1u:∀xs:List Z5,(∀s∈xs,2<=s.sz)->2*xs.length<=Yk xs
 | [],_=>by simp
 | s::r,h=>by
  have h1:=Z1u r fun t ht=>h t (Xp _ ht)
  have h2:=h s (Xd ..)
  rw [Yk,X5];omega
theorem Z3t {xs:List Z5} {x:Int} {fs:LI} {q:Int} (hf:fs.length<=3) (h:∀s∈xs,s.op=14∨s.op=15->2<=s.sz):Yk (U0 xs x fs q)<=Yk xs+6:=by
 rw [U0]
 split
 ·rename_i hc
  have h1:=Su (q:=q) hc.1 hf
  have h2:=Z1u (xs.take (Ys xs)) fun s hs=>h s (TB hs) (KM hs)
  have h3:=Zj8 xs (Ys xs)
  have h4:=CN xs
  rw [WY] at h2
  rw [Qk,Qk,Qk,MP,MP,Yk,Yk,O3]
  omega
 ·omega
def K3 (L:LI) (v:Int):LI:=L.filter (· != v)
def Tv (m:Int):List Z5->LI->Bool->List Z5 × List Z5 × LI
 | [],L,_=>([],[],L)
 | s::r,L,d=>if s.op=14/\gI s.args 0∈L then Tv m r (K3 L (gI s.args 0)) d else if s.op=14 then (s::(Tv m r L d).1,(Tv m r L d).2) else
  if (s.op=15/\gI s.args 0=m)/\¬d=true then Tv m r L true else ((Tv m r L d).1,s::(Tv m r L d).2.1,(Tv m r L d).2.2)
theorem Pa:∀(L r:LI) (d:Int),L.foldl List.erase (d::r)=if d∈L then (L.erase d).foldl List.erase r else d::L.foldl List.erase r
 | [],r,d=>by simp
 | l::L,r,d=>by
  rw [List.foldl_cons]
  by_cases h:d=l
  ·subst h
   simp
  ·have h2:¬l=d:=fun e=>h e.symm
   rw [List.erase_cons_tail (by simpa using h),Pa L,List.erase_cons_tail (by simpa using h2)]
   simp only [YH,h,false_or,List.foldl_cons]
theorem Ey:∀(fs:LI) (q:Int),(XE fs q).Pairwise (·<·)
 | [],_=>by simp [XE]
 | f::r,q=>by
  rw [XE]
  split
  ·refine Vn.2 ⟨fun a ha=>?_,Ey r (q+1)⟩
   have:=BF ha
   omega
  ·exact Ey r (q+1)
theorem S3 {L:LI} (h:L.Pairwise (·<·)):L.Nodup:=h.imp fun q e=>by omega
theorem Zec {L:LI} (h:L.Pairwise (·<·)) (v:Int):(K3 L v).Pairwise (·<·):=h.filter _
theorem Ze9 {L:LI} (h:L.Nodup) (v:Int):K3 L v=L.erase v:=(h.erase_eq_filter v).symm
theorem CJ:∀(fs:LI) (q:Int) (D R:LI),UJ fs q D R=((XE fs q).foldl List.erase D,R++(XE fs q).filter (fun v=>decide (v∉D)))
 | [],q,D,R=>by simp [UJ,XE]
 | f::r,q,D,R=>by
  rw [UJ]
  by_cases hf:f≠0
  ·have e:XE (f::r) q=q::XE r (q+1):=by rw [XE,Zd hf]
   rw [e]
   by_cases hq:q∈D
   ·rw [Zd ⟨hf,hq⟩,CJ r,List.foldl_cons,List.filter_cons_of_neg (by simpa using hq)]
    congr 2
    refine List.filter_congr fun v hv=>?_
    have h1:v≠q:=by have:=BF hv;omega
    simp only [List.mem_erase_of_ne h1]
   ·rw [Z6 (fun z=>hq z.2),Zd hf,CJ r,List.foldl_cons,List.erase_of_not_mem hq,List.filter_cons_of_pos (by simpa using hq),UC]
    rfl
  ·have e:XE (f::r) q=XE r (q+1):=by rw [XE,Z6 hf]
   rw [e,Z6 (fun z=>hf z.1),Z6 hf,CJ r]
def Cn (s:Z5):Prop:=s=ZC s.op (gI s.args 0)
theorem Fc {m:Int}:∀{pre:List Z5} {L:LI} {d:Bool},L.Nodup->(∀s∈pre,(s.op=14∨s.op=15)/\Cn s) ->
  Tv m pre L d=((L.foldl List.erase (YU 14 pre)).map (ZC 14),(if d=true then YU 15 pre else (YU 15 pre).erase m).map (ZC 15),L.filter (fun v=>decide (v∉YU 14 pre)))
 | [],L,d,hL,h=>by
  have:∀L:LI,L.foldl List.erase []=[]:=fun L=>by induction L with
   | nil=>rfl
   | cons a L ih=>rw [List.foldl_cons];exact ih
  simp only [Tv,YU,this,Aa,List.erase_nil,ite_self]
  exact Prod.ext rfl (Prod.ext rfl (List.filter_eq_self.2 (by simp)).symm)
 | s::r,L,d,hL,h=>by
  obtain ⟨ho,hc⟩:=h s (Xd ..)
  have hr:∀t∈r,(t.op=14∨t.op=15)/\Cn t:=fun t ht=>h t (Xp _ ht)
  rw [Tv]
  by_cases h14:s.op=14
  ·have e15:YU 15 (s::r)=YU 15 r:=by rw [YU,Z6 om]
   have e14:YU 14 (s::r)=gI s.args 0::YU 14 r:=by rw [YU,Zd h14]
   rw [e14,e15,Pa]
   by_cases hm:gI s.args 0∈L
   ·rw [Zd ⟨h14,hm⟩,Zd hm,Ze9 hL,Fc (hL.erase _) hr]
    congr 2
    rw [hL.erase_eq_filter,List.filter_filter]
    refine List.filter_congr fun v hv=>?_
    by_cases hv1:v=gI s.args 0<;>by_cases hv2:v∈YU 14 r<;>simp [hv1,hv2]
   ·rw [Z6 (fun z=>hm z.2),Zd h14,Z6 hm,Fc hL hr]
    refine Prod.ext ?_ (Prod.ext rfl ?_)
    ·show s::_=List.map (ZC 14) (_::_)
     rw [VZ,<-h14]
     congr 1
    ·refine List.filter_congr fun v hv=>?_
     have:v≠gI s.args 0:=fun e=>hm (e▸hv)
     simp [this]
  ·have h15:s.op=15:=by omega
   have e15:YU 15 (s::r)=gI s.args 0::YU 15 r:=by rw [YU,Zd h15]
   have e14:YU 14 (s::r)=YU 14 r:=by rw [YU,Z6 h14]
   rw [e14,e15,Z6 (fun z=>h14 z.1),Z6 h14]
   by_cases hm:(s.op=15/\gI s.args 0=m)/\¬d=true
   ·rw [Zd hm,Fc hL hr,Zd rfl,Z6 hm.2,<-hm.1.2,List.erase_cons_head]
   ·rw [Z6 hm,Fc hL hr]
    refine Prod.ext rfl (Prod.ext ?_ rfl)
    show s::_=List.map (ZC 15) _
    by_cases hd:d=true
    ·rw [Zd hd,Zd hd,VZ,<-h15];congr 1
    ·have hn:gI s.args 0≠m:=fun e=>hm ⟨⟨h15,e⟩,hd⟩
     rw [Z6 hd,Z6 hd,List.erase_cons_tail (by simpa using hn),VZ,<-h15];congr 1
theorem Zi1 {xs:List Z5} {m:Int} {fs:LI} {q:Int} (hc:∀s∈xs,YC s.op=true->Cn s) (h1:m∈YU 15 (xs.take (Ys xs))) (h2:fs.length≠0) {W:List Z5 × List Z5 × LI} (hW:W=Tv m (xs.take (Ys xs)) (XE fs q) false) :
  W.1++[ZC 16 m]++W.2.1++W.2.2.map (ZC 15)++xs.drop (Ys xs)=U0 xs m fs q:=by
 rw [Fc (S3 (Ey fs q)) fun s hs=>⟨KM hs,hc s (TB hs) (by rw [YC];have:=KM hs;simp;omega)⟩] at hW
 subst hW
 have e:U0 xs m fs q=_:=Zd ⟨h1,h2⟩
 rw [e,Qh,CJ]
 simp
theorem Nq {xs:List Z5} {m:Int} {fs:LI} {q:Int} (h:¬(m∈YU 15 (xs.take (Ys xs))/\fs.length≠0)):U0 xs m fs q=xs:=Z6 h
end Go.Abs
section
namespace Go.Abs
mutual
def TQ (ds:List Zf) (m:Nat):Z5->Z5
 | .mk op num into args kids=>.mk op num into args (Wx ds m op num args kids 0)
def Wx (ds:List Zf) (m:Nat) (op num:Int) (args:LI):List Z7->Nat->List Z7
 | [],_=>[]
 | b::r,k=>(if op=8 then Ue (XD ds (m+(UP ds num k).length) b) (gI args 0) (UP ds num k) m else XD ds m b)::Wx ds m op num args r (k+1)
def We (ds:List Zf) (m:Nat):List Z5->List Z5
 | []=>[]
 | s::r=>TQ ds m s::We ds (if YC s.op=true then m else m+1) r
def XD (ds:List Zf) (m:Nat):Z7->Z7
 | .mk steps result=>.mk (We ds m steps) result
end
def Jg (ds:List Zf) (m:Nat) (op num:Int) (args:LI) (k:Nat) (b:Z7):Z7:=if op=8 then Ue (XD ds (m+(UP ds num k).length) b) (gI args 0) (UP ds num k) m else XD ds m b
theorem BT (ds:List Zf) (m:Nat) (s:Z5):TQ ds m s=.mk s.op s.num s.into s.args (Wx ds m s.op s.num s.args s.kids 0):=by cases s;rw [TQ];rfl
theorem CP (ds:List Zf) (m:Nat) (b:Z7):XD ds m b=.mk (We ds m b.steps) b.result:=by cases b;rw [XD];rfl
section
variable {ds:List Zf} {m:Nat}
theorem Z18 {xs acc r:List Z5} {k:Nat} {s:Z5} (h:xs[k]? = some s) (ha:acc++We ds m (xs.drop k)=r) :
  (acc++[.mk s.op s.num s.into s.args (Wx ds m s.op s.num s.args s.kids 0)])++We ds (if YC s.op=true then m else m+1) (xs.drop (k+1))=r:=by
 rw [Y5 h,We,BT] at ha
 rw [<-ha];simp
theorem Z17 {xs acc r:List Z5} {k:Nat} (h:xs.length<=k) (ha:acc++We ds m (xs.drop k)=r):acc=r:=by
 rw [Xm h,We,Ko] at ha;exact ha
theorem Fb {op num:Int} {args:LI} {bs acc r:List Z7} {k:Nat} {b:Z7} (h:bs[k]? = some b) (ha:acc++Wx ds m op num args (bs.drop k) k=r) :
  (acc++[Jg ds m op num args k b])++Wx ds m op num args (bs.drop (k+1)) (k+1)=r:=by
 rw [Y5 h,Wx] at ha
 rw [<-ha,Jg];simp
theorem Z0x {op num:Int} {args:LI} {bs acc r:List Z7} {k j:Nat} (h:bs.length<=k) (ha:acc++Wx ds m op num args (bs.drop k) j=r):acc=r:=by
 rw [Xm h,Wx,Ko] at ha;exact ha
end
mutual
def wS (ds:List Zf):Z5->Prop
 | .mk op num into args kids=>(W7 op=!YC op)/\(YC op=true->num=0/\into=0/\kids=[]/\∃a,args=[a])/\(op=8->(∃a,args=[a]/\0<=a/\a<=900000000)/\kids.length=(ZV ds num).length)/\K8 ds kids
def K8 (ds:List Zf):List Z7->Prop
 | []=>True
 | b::r=>wB ds b/\K8 ds r
def Ul (ds:List Zf):List Z5->Prop
 | []=>True
 | s::r=>wS ds s/\Ul ds r
def wB (ds:List Zf):Z7->Prop
 | .mk steps _=>Ul ds steps
end
section
variable {ds:List Zf}
theorem C2 (s:Z5):wS ds s↔(W7 s.op=!YC s.op)/\(YC s.op=true->s.num=0/\s.into=0/\s.kids=[]/\∃a,s.args=[a])/\(s.op=8->(∃a,s.args=[a]/\0<=a/\a<=900000000)/\s.kids.length=(ZV ds s.num).length)/\K8 ds s.kids:=by cases s;rw [wS];rfl
theorem Ji (b:Z7):wB ds b↔Ul ds b.steps:=by cases b;rw [wB];rfl
theorem CU:∀{xs:List Z5},Ul ds xs↔∀s∈xs,wS ds s
 | []=>by simp [Ul]
 | s::r=>by rw [Ul,CU];simp
theorem Z2v:∀{xs:List Z7},K8 ds xs↔∀s∈xs,wB ds s
 | []=>by simp [K8]
 | s::r=>by rw [K8,Z2v];simp
theorem Z2s {b:Z7} {k:Nat} {s:Z5} (h:wB ds b) (hs:b.steps[k]? = some s):wS ds s:=CU.1 ((Ji b).1 h) s (Y4 hs)
theorem HL {s:Z5} {k:Nat} {b:Z7} (h:wS ds s) (hb:s.kids[k]? = some b):wB ds b:=Z2v.1 ((C2 s).1 h).2.2.2 b (Y4 hb)
theorem Fv {s:Z5} (h:wS ds s) (hc:YC s.op=true):Cn s/\s.kids=[]/\∃a,s.args=[a]:=by
 obtain ⟨h1,h2,h3,a,h4⟩:=((C2 s).1 h).2.1 hc
 refine ⟨?_,h3,a,h4⟩
 cases s with
 | mk op num into args kids=>
  simp only [Z5.num,Z5.into,Z5.kids,Z5.args] at h1 h2 h3 h4
  subst h1 h2 h3 h4
  rfl
theorem N1 {op v:Int} (h:op=14∨op=15∨op=16):wS ds (ZC op v):=(C2 _).2 ⟨by show W7 op=!YC op;rcases h with rfl|rfl|rfl<;>rfl,fun _=>⟨rfl,rfl,rfl,v,rfl⟩,fun e=>absurd e (show op≠8 by omega),True.intro⟩
theorem N2 {s:Z5} (h:wS ds s):W7 s.op=!YC s.op:=((C2 s).1 h).1
theorem Fw {s:Z5} (h:wS ds s) (h8:s.op=8):(∃a,s.args=[a]/\0<=a/\a<=900000000)/\s.kids.length=(ZV ds s.num).length:=((C2 s).1 h).2.2.1 h8
theorem FB {xs:List Z5} (h:Ul ds xs):∀s∈xs,YC s.op=true->Cn s:=fun s hs hc=>(Fv (CU.1 h s hs) hc).1
theorem Zl5 {xs:List Z5} {x:Int} {fs:LI} {q:Int} (h:Ul ds xs):Ul ds (U0 xs x fs q):=by
 rw [U0]
 split
 ·rw [CU]
  intro s hs
  simp only [Xg,XG,XH] at hs
  rcases hs with ((⟨a,_,rfl⟩|rfl)|⟨a,_,rfl⟩)|hs
  ·exact N1 om
  ·exact N1 om
  ·exact N1 om
  ·exact CU.1 h s (List.mem_of_mem_drop hs)
 ·exact h
theorem HJ {b:Z7} {x:Int} {fs:LI} {q:Int} (h:wB ds b):wB ds (Ue b x fs q):=by
 rw [Ue,Ji];exact Zl5 ((Ji b).1 h)
end
section
variable {n:Zl}
theorem Zei {us:LI} {s:Z5} (g:0<=Y0 n us s) (h:YC s.op=true):s.num=0/\s.into=0/\s.kids=[]:=by
 have ho:14<=s.op/\s.op<=17:=by simpa [YC] using h
 rw [A6] at g
 split at g
 ·omega
 ·rename_i q
  refine ⟨C4 fun z=>q (.inl ⟨z,?_⟩),C4 fun z=>q (.inr (.inl ?_)),C4 fun z=>q (.inr (.inr ⟨Fy.2 z,by omega,by omega⟩))⟩
  ·rw [VI];simp;omega
  ·rw [Uc,Z6 z,Z6 om];simp
mutual
theorem Zl7:∀(s:Z5) {us:LI},us.length+4*s.sz<=900000000->Wp n.decls->0<=Y0 n us s->wS n.decls s
 | .mk op num into args kids,us,hu,hd,g=>by
  have hf:=Be g
  rw [wS]
  refine ⟨Ed g,fun hc=>?_,fun h8=>?_,?_⟩
  ·obtain ⟨h1,h2,h3⟩:=Zei g hc
   have ho:14<=op/\op<=17:=by simpa [YC] using hc
   exact ⟨h1,h2,h3,hf.one (.inr (.inr ho))⟩
  ·obtain ⟨k1,k2,k3⟩:=hf.kids (.inr h8)
   obtain ⟨a,ha⟩:=hf.one (.inr (.inl h8))
   have hb:=hf.args a (by rw [ha];exact XH.2 rfl)
   refine ⟨⟨a,ha,hb.1,by omega⟩,?_⟩
   have e:X8 n.decls op num=(ZV n.decls num).map (ZX n.decls):=by rw [X8,Z6 om]
   have k1':kids.length=(X8 n.decls op num).length:=k1
   rw [k1',e,Ka]
  ·refine Z2w kids hd fun i b hb=>?_
   have hl:0<kids.length:=by have:=(Xs.1 hb).1;omega
   obtain ⟨k1,k2,k3⟩:=hf.kids (Zd7 g hl)
   have k1':kids.length=(X8 n.decls op num).length:=k1
   have hi:=(Xs.1 hb).1
   obtain ⟨mk,hmk⟩:=QQ (xs:=X8 n.decls op num) (j:=i) om
   have hk3:=E4 hd hmk
   have ZP:=NO hb
   rw [Z5.sz] at hu
   exact ⟨us++mk,by rw [Yq];omega,k3 i b mk hb hmk⟩
theorem Z2w:∀(bs:List Z7),Wp n.decls->(∀(i:Nat) (b:Z7),bs[i]? = some b->∃us:LI,us.length+4*b.sz<=900000000/\0<=YS n us b)->K8 n.decls bs
 | [],_,_=>True.intro
 | b::r,hd,h=>by
  obtain ⟨us,hq,hu⟩:=h 0 b rfl
  exact ⟨Z2t b hq hd hu,Z2w r hd fun i x hx=>h (i+1) x (by simpa using hx)⟩
theorem Z2y:∀(xs:List Z5) {us vs:LI},us.length+4*Yk xs<=900000000->Wp n.decls->Xj n xs us=some vs->Ul n.decls xs
 | [],_,_,_,_,_=>True.intro
 | s::r,us,vs,hu,hd,h=>by
  obtain ⟨g1,g2⟩:=CS h
  rw [Yk] at hu
  have h1:=s.sz_pos
  have h2:=F7 n us s
  exact ⟨Zl7 s om hd g1,Z2y r om hd g2⟩
theorem Z2t:∀(b:Z7) {us:LI},us.length+4*b.sz<=900000000->Wp n.decls->0<=YS n us b->wB n.decls b
 | .mk steps result,us,hu,hd,h=>by
  obtain ⟨fvs,t0,hvs,_,_⟩:=Cg h
  rw [Z7.sz] at hu
  rw [wB];exact Z2y steps om hd hvs
end
end
mutual
def Z5.pz:Z5->Nat
 | .mk _ _ _ args kids=>1+args.length+Jc kids
def Z7.pz:Z7->Nat
 | .mk steps _=>1+VT steps
def VT:List Z5->Nat
 | []=>0
 | s::r=>s.pz+VT r
def Jc:List Z7->Nat
 | []=>0
 | b::r=>b.pz+8+Jc r
end
theorem Z5.pz_eq (s:Z5):s.pz=1+s.args.length+Jc s.kids:=by cases s;rw [Z5.pz];rfl
theorem Z7.pz_eq (b:Z7):b.pz=1+VT b.steps:=by cases b;rw [Z7.pz];rfl
theorem EX:∀xs ys:List Z5,VT (xs++ys)=VT xs+VT ys
 | [],ys=>by simp [VT]
 | x::r,ys=>by rw [Q6,VT,VT,EX r ys];omega
theorem O2 (op v:Int):(ZC op v).pz=2:=by rw [ZC,Z5.pz];simp [Jc]
theorem Mk (op:Int):∀l:LI,VT (l.map (ZC op))=2*l.length
 | []=>by simp [VT]
 | x::r=>by rw [VZ,VT,O2,Mk op r,X5];omega
theorem Zfv {l:List Z5} {k:Nat} {s:Z5} (h:l[k]? = some s):k+s.pz<=VT l:=by
 induction l generalizing k with
 | nil=>simp at h
 | cons t r ih=>
  have ht:=t.pz_eq
  cases k with
  | zero=>simp at h;subst h;simp only [VT];omega
  | succ k=>have:=ih (k:=k) (by simpa using h);simp only [VT];omega
theorem Zfu {l:List Z7} {k:Nat} {b:Z7} (h:l[k]? = some b):k+b.pz+8<=Jc l:=by
 induction l generalizing k with
 | nil=>simp at h
 | cons t r ih=>
  cases k with
  | zero=>simp at h;subst h;simp only [Jc];omega
  | succ k=>have:=ih (k:=k) (by simpa using h);simp only [Jc];omega
theorem Zfz {b:Z7} {k:Nat} {s:Z5} (h:b.steps[k]? = some s):k+s.pz<b.pz:=by have:=Zfv h;have:=b.pz_eq;omega
theorem Zfx {s:Z5} {k:Nat} {b:Z7} (h:s.kids[k]? = some b):k+b.pz+8<s.pz:=by have:=Zfu h;have:=s.pz_eq;omega
theorem SN:∀xs:List Z5,xs.length<=VT xs
 | []=>X6 _
 | s::r=>by have:=SN r;have:=s.pz_eq;rw [VT,X5];omega
theorem SK:∀xs:List Z7,xs.length<=Jc xs
 | []=>X6 _
 | s::r=>by have:=SK r;rw [Jc,X5];omega
theorem SP (b:Z7):b.steps.length<b.pz:=by have:=SN b.steps;have:=b.pz_eq;omega
theorem Zfw (s:Z5):s.args.length<s.pz:=by have:=s.pz_eq;omega
theorem Zfy (s:Z5):s.kids.length<s.pz:=by have:=SK s.kids;have:=s.pz_eq;omega
mutual
theorem Z5.pz_le:∀s:Z5,s.pz<=9*s.sz
 | .mk _ _ _ args kids=>by have:=SJ kids;rw [Z5.pz,Z5.sz];omega
theorem Z7.pz_le:∀b:Z7,b.pz+8<=9*b.sz
 | .mk steps _=>by have:=SM steps;rw [Z7.pz,Z7.sz];omega
theorem SM:∀xs:List Z5,VT xs<=9*Yk xs
 | []=>Ac _
 | s::r=>by have:=s.pz_le;have:=SM r;rw [VT,Yk];omega
theorem SJ:∀xs:List Z7,Jc xs<=9*Xl xs
 | []=>Ac _
 | s::r=>by have:=s.pz_le;have:=SJ r;rw [Jc,Xl];omega
end
theorem SO:∀xs:List Z5,(∀s∈xs,2<=s.pz)->2*xs.length<=VT xs
 | [],_=>by simp
 | s::r,h=>by
  have h1:=SO r fun t ht=>h t (Xp _ ht)
  have h2:=h s (Xd ..)
  rw [VT,X5];omega
section
variable {ds:List Zf}
theorem Cj {op:Int} (h:op=14∨op=15):YC op=true:=by rw [YC];simp;omega
theorem Z3r {xs:List Z5} {x:Int} {fs:LI} {q:Int} (hf:fs.length<=3) (h:Ul ds xs):VT (U0 xs x fs q)<=VT xs+6:=by
 rw [U0]
 split
 ·rename_i hc
  have h1:=Su (q:=q) hc.1 hf
  have h2:=SO (xs.take (Ys xs)) fun s hs=>by
   obtain ⟨_,_,a,ha⟩:=Fv (CU.1 h s (TB hs)) (Cj (KM hs))
   rw [s.pz_eq,ha];simp
  have h3:VT xs=VT (xs.take (Ys xs))+VT (xs.drop (Ys xs)):=by rw [<-EX,UW]
  have h4:=CN xs
  rw [WY] at h2
  rw [EX,EX,EX,Mk,Mk,VT,VT,O2]
  omega
 ·omega
theorem AK {b:Z7} {x:Int} {fs:LI} {q:Int} (hf:fs.length<=3) (h:wB ds b):(Ue b x fs q).pz<=b.pz+6:=by
 have:=Z3r (x:=x) (q:=q) hf ((Ji b).1 h)
 rw [Ue,Z7.pz,b.pz_eq];omega
theorem Zi7 {xs:List Z5}:∀{m:Nat},Ul ds xs->∀s∈We ds m xs,s.op=14∨s.op=15->2<=s.sz:=by
 induction xs with
 | nil=>intro m _ s hs;simp [We] at hs
 | cons t r ih=>
  intro m h s hs ho
  rw [We] at hs
  rcases YH.1 hs with rfl|hs
  ·rw [BT] at ho ⊢
   obtain ⟨_,_,a,ha⟩:=Fv h.1 (Cj ho)
   rw [Z5.sz,ha];simp
  ·exact ih h.2 s hs ho
variable (hd:Wp ds)
include hd
mutual
theorem Zi0:∀(s:Z5) {m:Nat},wS ds s->(TQ ds m s).sz<=s.pz
 | .mk op num into args kids,m,h=>by
  have:=Z0y kids (m:=m) (op:=op) (num:=num) (args:=args) (k:=0) h.2.2.2
  rw [TQ,Z5.sz,Z5.pz];omega
theorem Z0y:∀(bs:List Z7) {m:Nat} {op num:Int} {args:LI} {k:Nat},K8 ds bs->Xl (Wx ds m op num args bs k)<=Jc bs
 | [],_,_,_,_,_,_=>X6 _
 | b::r,m,op,num,args,k,h=>by
  have h2:=Z0y r (m:=m) (op:=op) (num:=num) (args:=args) (k:=k+1) h.2
  rw [Wx,Xl,Jc]
  split
  ·have h1:=Fa b (m:=m+(UP ds num k).length) h.1
   have h3:=Z3t (xs:=(XD ds (m+(UP ds num k).length) b).steps) (x:=gI args 0) (q:=(m:Int)) (IX hd num k) (by rw [CP];exact Zi7 ((Ji b).1 h.1))
   rw [Ue,Z7.sz]
   rw [Z7.sz_eq] at h1
   omega
  ·have h1:=Fa b (m:=m) h.1
   omega
theorem Z12:∀(xs:List Z5) {m:Nat},Ul ds xs->Yk (We ds m xs)<=VT xs
 | [],_,_=>X6 _
 | s::r,m,h=>by
  have h1:=Zi0 s (m:=m) h.1
  have h2:=Z12 r (m:=if YC s.op=true then m else m+1) h.2
  rw [We,Yk,VT];omega
theorem Fa:∀(b:Z7) {m:Nat},wB ds b->(XD ds m b).sz<=b.pz
 | .mk steps result,m,h=>by
  have:=Z12 steps (m:=m) h
  rw [XD,Z7.sz,Z7.pz];omega
end
end
section
variable {ds:List Zf} {m:Nat}
theorem Zhz {s:Z5} (h:s.kids=[]):TQ ds m s=s:=by
 rw [BT,h,Wx]
 cases s with
 | mk op num into args kids=>simp only [Z5.kids] at h;subst h;rfl
theorem MJ {rest:List Z5}:∀{pre:List Z5},(∀s∈pre,YC s.op=true/\s.kids=[])->We ds m (pre++rest)=pre++We ds m rest
 | [],_=>rfl
 | s::r,h=>by
  obtain ⟨h1,h2⟩:=h s (Xd ..)
  rw [Q6,We,Zhz h2,Zd h1,MJ fun t ht=>h t (Xp _ ht),Q6]
theorem Z11 {xs:List Z5} (h:Ul ds xs):We ds m xs=xs.take (Ys xs)++We ds m (xs.drop (Ys xs)):=by
 have:=MJ (ds:=ds) (m:=m) (rest:=xs.drop (Ys xs)) (pre:=xs.take (Ys xs)) fun s hs=>by
  have h1:=Cj (KM hs)
  exact ⟨h1,(Fv (CU.1 h s (TB hs)) h1).2.1⟩
 rw [UW] at this
 exact this
theorem Mu:∀(xs:List Z5) {m:Nat},Ys (We ds m xs)=Ys xs
 | [],_=>rfl
 | s::r,m=>by
  have e:(TQ ds m s).op=s.op:=by rw [BT];rfl
  rw [We,Ys,Ys,e,Mu r]
theorem Zi5 {xs:List Z5} {x:Int} {fs:LI} {q:Int} (h:Ul ds xs):We ds m (U0 xs x fs q)=U0 (We ds m xs) x fs q:=by
 have hl:(xs.take (Ys xs)).length=Ys xs:=by rw [WY];have:=CN xs;omega
 have ht:(We ds m xs).take (Ys xs)=xs.take (Ys xs):=by
  rw [Z11 h,List.take_append_of_le_length om,List.take_take,Nat.min_self]
 have hr:(We ds m xs).drop (Ys xs)=We ds m (xs.drop (Ys xs)):=by
  rw [Z11 h,List.drop_append_of_le_length om,List.drop_take,Nat.sub_self];rfl
 have e:U0 (We ds m xs) x fs q=if x∈YU 15 (xs.take (Ys xs))/\fs.length≠0 then (Qh xs x fs q).1.map (ZC 14)++[ZC 16 x]++(Qh xs x fs q).2.map (ZC 15)++We ds m (xs.drop (Ys xs)) else We ds m xs:=by
  rw [U0,Mu,ht,hr,Qh,Mu,ht];rfl
 rw [e,U0]
 split
 ·refine MJ fun s hs=>?_
  simp only [Xg,XG,XH] at hs
  rcases hs with (⟨a,_,rfl⟩|rfl)|⟨a,_,rfl⟩<;>exact ⟨rfl,rfl⟩
 ·rfl
theorem MI {b:Z7} {x:Int} {fs:LI} {q:Int} (h:wB ds b):XD ds m (Ue b x fs q)=Ue (XD ds m b) x fs q:=by
 rw [Ue,XD,Zi5 ((Ji b).1 h),Ue,CP];rfl
end
def Tb (ds:List Zf) (r:Yb):Yb:=⟨r.params,r.lent,r.result,XD ds r.params.length r.body⟩
def Vb (n:Zl):Zl:=⟨n.decls,n.routines.map (Tb n.decls)⟩
def Yt (n:Zl):Zl × Bool:=if WP n=true then (if Kz (Vb n)=true then (Vb n,true) else (B5,false)) else (B5,false)
theorem Fu {n:Zl} (hn:X3 n) (hz:V7 n) (hbt:∀r∈n.routines,0<=YS n r.params r.body):∀r∈n.routines,wB n.decls r.body:=fun r hr=>Z2t r.body (by have:=hz.body r hr;have:=hn.params r hr;omega) hn.decls (hbt r hr)
theorem Z0z {n:Zl} (hn:X3 n) (hz:V7 n) (hbt:∀r∈n.routines,0<=YS n r.params r.body):∀r∈(Vb n).routines,r.body.sz<=1000000000:=by
 intro r hr
 obtain ⟨q,hq,rfl⟩:=XG.1 hr
 have h1:=Fa hn.decls q.body (m:=q.params.length) (Fu hn hz hbt q hq)
 have h2:=hz.body q hq
 have h3:=q.body.pz_le
 show (XD n.decls q.params.length q.body).sz<=1000000000
 omega
end Go.Abs
namespace Go.Abs
theorem Z0c {xs:List Z5} {k:Nat} {s:Z5} {r:Nat} (h:xs[k]? = some s) (hs:s.op=14∨s.op=15) (ha:k+Ys (xs.drop k)=r):k+1+Ys (xs.drop (k+1))=r:=by
 rw [Y5 h,Ys,Zd hs] at ha;omega
theorem Z0d {xs:List Z5} {k:Nat} {s:Z5} {r:Nat} (h:xs[k]? = some s) (hs:¬(s.op=14∨s.op=15)) (ha:k+Ys (xs.drop k)=r):k=r:=by
 rw [Y5 h,Ys,Z6 hs] at ha;omega
theorem Z0b {xs:List Z5} {k:Nat} {r:Nat} (h:xs.length<=k) (ha:k+Ys (xs.drop k)=r):k=r:=by
 rw [Xm h,Ys] at ha;omega
theorem Z46 {op:Int} {xs:List Z5} {acc r:LI} {k:Nat} {s:Z5} (h:xs[k]? = some s) (hs:s.op=op) (ha:acc++YU op (xs.drop k)=r):(acc++[gI s.args 0])++YU op (xs.drop (k+1))=r:=by
 rw [Y5 h,YU,Zd hs] at ha;rw [<-ha];simp
theorem Z44 {op:Int} {xs:List Z5} {acc r:LI} {k:Nat} {s:Z5} (h:xs[k]? = some s) (hs:¬s.op=op) (ha:acc++YU op (xs.drop k)=r):acc++YU op (xs.drop (k+1))=r:=by
 rw [Y5 h,YU,Z6 hs] at ha;exact ha
theorem Z43 {op:Int} {xs:List Z5} {acc r:LI} {k:Nat} (h:xs.length<=k) (ha:acc++YU op (xs.drop k)=r):acc=r:=by
 rw [Xm h,YU,Ko] at ha;exact ha
theorem Z7z {xs acc r:LI} {y:Int} {k:Nat} {x:Int} {d:Bool} (h:xs[k]? = some x) (ha:acc++(if d=true then xs.drop k else (xs.drop k).erase y)=r) :
  (if x=y/\¬d=true then acc else acc++[x])++(if ((x==y&&!d)||d)=true then xs.drop (k+1) else (xs.drop (k+1)).erase y)=r:=by
 rw [Y5 h] at ha
 rw [<-ha]
 by_cases hd:d=true
 ·simp [hd]
 ·by_cases hx:x=y
  ·simp [hd,hx]
  ·rw [Z6 (fun z=>hx z.1),Z6 hd,List.erase_cons_tail (by simpa using hx)]
   simp [hd,hx]
theorem Z7y {xs acc r:LI} {y:Int} {k:Nat} {d:Bool} (h:xs.length<=k) (ha:acc++(if d=true then xs.drop k else (xs.drop k).erase y)=r):acc=r:=by
 rw [Xm h] at ha;simpa using ha
section
variable {fs D R:LI} {q k:Nat} {f:Int} {r:LI × LI}
theorem Zf4 (h:fs[k]? = some f) (h0:f≠0) (hm:((q+k:Nat):Int)∈D) (ha:UJ (fs.drop k) (q+k) D R=r):UJ (fs.drop (k+1)) (q+((k+1:Nat):Int)) (D.erase ((q+k:Nat):Int)) R=r:=by
 rw [Y5 h,UJ,Zd ⟨h0,by rw [<-Int.natCast_add];exact hm⟩,<-Int.natCast_add] at ha
 rw [<-ha];congr 1
theorem Zf5 (h:fs[k]? = some f) (h0:f≠0) (hm:¬((q+k:Nat):Int)∈D) (ha:UJ (fs.drop k) (q+k) D R=r):UJ (fs.drop (k+1)) (q+((k+1:Nat):Int)) D (R++[((q+k:Nat):Int)])=r:=by
 rw [Y5 h,UJ,Z6 (fun z=>hm (by rw [Int.natCast_add];exact z.2)),Zd h0,<-Int.natCast_add] at ha
 rw [<-ha];congr 1
theorem Zf6 (h:fs[k]? = some f) (h0:¬f≠0) (ha:UJ (fs.drop k) (q+k) D R=r):UJ (fs.drop (k+1)) (q+((k+1:Nat):Int)) D R=r:=by
 rw [Y5 h,UJ,Z6 (fun z=>h0 z.1),Z6 h0] at ha
 rw [<-ha];congr 1
theorem Zf3 (h:fs.length<=k) (ha:UJ (fs.drop k) (q+k) D R=r):r=(D,R):=by
 rw [Xm h,UJ] at ha;exact ha.symm
end
theorem Z3v {xs:List Z5} {x:Int} {fs:LI} {q:Int} {D R:LI} (h1:x∈YU 15 (xs.take (Ys xs))) (h2:fs.length≠0) (hr:Qh xs x fs q=(D,R)):D.map (ZC 14)++[ZC 16 x]++R.map (ZC 15)++xs.drop (Ys xs)=U0 xs x fs q:=by
 rw [U0,Zd ⟨h1,h2⟩,hr]
theorem Zi3 {ds:List Zf} {xs:List Z5}:∀{m:Nat},Ul ds xs->∀s∈We ds m xs,YC s.op=true->∃a,s.args=[a]:=by
 induction xs with
 | nil=>intro m _ s hs;simp [We] at hs
 | cons t r ih=>
  intro m h s hs ho
  rw [We] at hs
  rcases YH.1 hs with rfl|hs
  ·rw [BT] at ho ⊢
   exact (Fv h.1 ho).2.2
  ·exact ih h.2 s hs ho
end Go.Abs
end
namespace Go.Abs
theorem H6 {op m:Int}:∀{xs:List Z5},m∈YU op xs↔∃s∈xs,s.op=op/\gI s.args 0=m
 | []=>by simp [YU]
 | s::r=>by
  rw [YU]
  by_cases h:s.op=op
  ·rw [Zd h,YH,H6]
   constructor
   ·rintro (rfl|⟨t,ht,h1,h2⟩)
    ·exact ⟨s,Xd ..,h,rfl⟩
    ·exact ⟨t,Xp _ ht,h1,h2⟩
   ·rintro ⟨t,ht,h1,h2⟩
    rcases YH.1 ht with rfl|ht
    ·exact .inl h2.symm
    ·exact .inr ⟨t,ht,h1,h2⟩
  ·rw [Z6 h,H6]
   constructor
   ·rintro ⟨t,ht,h1⟩;exact ⟨t,Xp _ ht,h1⟩
   ·rintro ⟨t,ht,h1,h2⟩
    rcases YH.1 ht with rfl|ht
    ·exact absurd h1 h
    ·exact ⟨t,ht,h1,h2⟩
theorem N9 {s:Z5} (h:Cn s):∃a,s.args=[a]:=⟨gI s.args 0,by have:=Yu Z5.args h;exact this⟩
theorem Z45 {op m:Int} {xs:List Z5} {k:Nat} (h:∀s∈xs.take k,¬(s.op=op/\gI s.args 0=m)) (hk:xs.length<=k):¬m∈YU op xs:=by
 rw [Vx hk] at h
 intro z
 obtain ⟨s,hs,h1,h2⟩:=H6.1 z
 exact h s hs ⟨h1,h2⟩
theorem Zk9 {α:Type} {xs:List α} {k:Nat} {x:α} {p:α->Prop} (hx:xs[k]? = some x) (h:∀s∈xs.take k,p s) (hp:p x):∀s∈xs.take (k+1),p s:=by
 rw [V4 hx]
 intro s hs
 rcases Xg.1 hs with hs|hs
 ·exact h s hs
 ·rw [XH.1 hs];exact hp
theorem Zea {xs acc r:LI} {v:Int} {k:Nat} {x:Int} (h:xs[k]? = some x) (ha:acc++K3 (xs.drop k) v=r):(if (x != v)=true then acc++[x] else acc)++K3 (xs.drop (k+1)) v=r:=by
 rw [Y5 h,K3] at ha
 rw [<-ha,K3]
 by_cases hx:x=v
 ·simp [hx]
 ·simp [hx]
theorem Ze8 {xs acc r:LI} {v:Int} {k:Nat} (h:xs.length<=k) (ha:acc++K3 (xs.drop k) v=r):acc=r:=by
 rw [Xm h,K3,List.filter_nil,Ko] at ha;exact ha
section
variable {xs:LI} {v:Int} {lo hi:Nat}
theorem Z50 {m:Nat} {y:Int} (hs:xs.Pairwise (·<·)) (hy:xs[m]? = some y) (hv:y<v):∀(j:Nat) (x:Int),j<m+1->xs[j]? = some x->x<v:=by
 intro j x hj hx
 rcases JS j m with h|h
 ·have hm:=(Xs.1 hy).1
  have:=List.pairwise_iff_getElem.1 hs j m om hm h
  rw [Q7 om] at hx
  rw [Q7 hm] at hy
  have e1:=UY hx
  have e2:=UY hy
  omega
 ·have:j=m:=by omega
  subst this;rw [hx] at hy;cases hy;exact hv
theorem Z4z {m:Nat} {y:Int} (hs:xs.Pairwise (·<·)) (hy:xs[m]? = some y) (hv:¬y<v):∀(j:Nat) (x:Int),m<=j->xs[j]? = some x->v<=x:=by
 intro j x hj hx
 rcases JS m j with h|h
 ·have hm:=(Xs.1 hx).1
  have:=List.pairwise_iff_getElem.1 hs m j om hm h
  rw [Q7 hm] at hx
  rw [Q7 om] at hy
  have e1:=UY hx
  have e2:=UY hy
  omega
 ·have:j=m:=by omega
  subst this;rw [hx] at hy;cases hy;omega
theorem Z51 (hs:xs.Pairwise (·<·)) (h1:∀(j:Nat) (x:Int),j<lo->xs[j]? = some x->x<v) (h2:∀(j:Nat) (x:Int),lo<=j->xs[j]? = some x->v<=x) {y:Int} (hy:xs[lo]? = some y) (hn:y≠v):¬v∈xs:=by
 intro hv
 obtain ⟨j,hj⟩:=Fx hv
 rcases JS j lo with h|h
 ·have:=h1 j v h hj;omega
 ·have hm:=h2 lo y (X6 _) hy
  rcases JS lo j with h3|h3
  ·have hjl:=(Xs.1 hj).1
   have:=List.pairwise_iff_getElem.1 hs lo j om hjl h3
   rw [Q7 hjl] at hj
   rw [Q7 om] at hy
   have e1:=UY hj
   have e2:=UY hy
   omega
  ·have:j=lo:=by omega
   subst this;rw [hj] at hy;cases hy;exact hn rfl
theorem Z52 (h1:∀(j:Nat) (x:Int),j<lo->xs[j]? = some x->x<v) (hl:xs.length<=lo):¬v∈xs:=by
 intro hv
 obtain ⟨j,hj⟩:=Fx hv
 have:=h1 j v (by have:=(Xs.1 hj).1;omega) hj
 omega
end
section
variable {m:Int} {xs du dr:List Z5} {lf:LI} {d:Bool} {k:Nat} {s:Z5} {W:List Z5 × List Z5 × LI}
def Qj (m:Int) (du dr:List Z5) (xs:List Z5) (lf:LI) (d:Bool):List Z5 × List Z5 × LI:=(du++(Tv m xs lf d).1,dr++(Tv m xs lf d).2.1,(Tv m xs lf d).2.2)
theorem Zhr (h:xs[k]? = some s) (h1:s.op=14) (h2:gI s.args 0∈lf) (ha:Qj m du dr (xs.drop k) lf d=W):Qj m du dr (xs.drop (k+1)) (K3 lf (gI s.args 0)) d=W:=by
 rw [Qj,Y5 h,Tv,Zd ⟨h1,h2⟩] at ha;exact ha
theorem Zhp (h:xs[k]? = some s) (h1:s.op=14) (h2:¬gI s.args 0∈lf) (ha:Qj m du dr (xs.drop k) lf d=W):Qj m (du++[s]) dr (xs.drop (k+1)) lf d=W:=by
 rw [Qj,Y5 h,Tv,Z6 (fun z=>h2 z.2),Zd h1] at ha
 rw [<-ha,Qj,UC];rfl
theorem Zho (h:xs[k]? = some s) (h1:¬s.op=14) (h2:(s.op=15/\gI s.args 0=m)/\¬d=true) (ha:Qj m du dr (xs.drop k) lf d=W):Qj m du dr (xs.drop (k+1)) lf true=W:=by
 rw [Qj,Y5 h,Tv,Z6 (fun z=>h1 z.1),Z6 h1,Zd h2] at ha;exact ha
theorem Zhs (h:xs[k]? = some s) (h1:¬s.op=14) (h2:¬((s.op=15/\gI s.args 0=m)/\¬d=true)) (ha:Qj m du dr (xs.drop k) lf d=W):Qj m du (dr++[s]) (xs.drop (k+1)) lf d=W:=by
 rw [Qj,Y5 h,Tv,Z6 (fun z=>h1 z.1),Z6 h1,Z6 h2] at ha
 rw [<-ha,Qj,UC];rfl
theorem Zhq (h:xs.length<=k) (ha:Qj m du dr (xs.drop k) lf d=W):W=(du,dr,lf):=by
 rw [Qj,Xm h,Tv,Ko,Ko] at ha;exact ha.symm
end
theorem Zeb (xs:LI) (v:Int):(K3 xs v).length<=xs.length:=List.length_filter_le _ _
def GZ:List Z5->Nat
 | []=>0
 | s::r=>if YC s.op=true then GZ r+1 else 0
def NA (op x:Int):List Z5->Int->Int
 | [],_=>-1
 | s::r,k=>if s.op=op/\gI s.args 0=x then k else NA op x r (k+1)
def Il (many:Nat) (s:Z5):Prop:=(s.op=6/\s.into=0)/\s.args.length=many
instance (many:Nat) (s:Z5):Decidable (Il many s):=by unfold Il;infer_instance
def O5 (many:Nat):List Z5->Int->Int
 | [],_=>-1
 | s::r,k=>if Il many s then k else O5 many r (k+1)
def Zf2 (xs:List Z5) (x:Int):Int:=NA 16 x (xs.take (GZ xs)) 0
def Z5v (xs:List Z5) (many:Nat):Int:=O5 many (xs.drop (GZ xs)) (GZ xs)
section
variable {ds:List Zf} {kept:LI}
end
section
variable {ds:List Zf}
end
section
variable {f:Z5->Z5} (hop:∀s,(f s).op=s.op) (hin:∀s,(f s).into=s.into) (har:∀s,(f s).args=s.args)
include hop
include har
include hin
end
structure CB (c:LI) (q:Int):Prop where
 len:c.length=4
 bd:∀x∈c,0<=x/\x<=q
mutual
def S8:Z5->Prop
 | .mk op _ _ _ kids=>op≠17/\S7 kids
def S7:List Z7->Prop
 | []=>True
 | b::r=>S6 b/\S7 r
def S9:List Z5->Prop
 | []=>True
 | s::r=>S8 s/\S9 r
def S6:Z7->Prop
 | .mk steps _=>S9 steps
end
theorem Z1s:∀{xs:List Z5} {i:Nat} {s:Z5} (t:Z5),xs[i]? = some s->Yk (xs.set i t)+s.sz=Yk xs+t.sz
 | [],_,_,_,h=>by simp at h
 | x::r,0,s,t,h=>by simp at h;subst h;rw [List.set_cons_zero,Yk,Yk];omega
 | x::r,i+1,s,t,h=>by
  have:=Z1s (xs:=r) (i:=i) t (by simpa using h)
  rw [List.set_cons_succ,Yk,Yk];omega
section
variable {ds:List Zf}
variable (hd:Wp ds)
end
theorem Z7v {xs ys:LI} (h:xs.length=ys.length) (ha:∀i,i<xs.length->xs[i]? = ys[i]?):xs=ys:=List.ext_getElem? fun i=>by
 by_cases hi:i<xs.length
 ·exact ha i hi
 ·rw [Bj om,Bj om]

mutual
def Z2.sz:Z2->Nat
 | .mk _ _ kids=>1+XI kids
def XI:List Z2->Nat
 | []=>0
 | e::r=>e.sz+XI r
end
theorem Z2.sz_eq (e:Z2):e.sz=1+XI e.kids:=by cases e;rw [Z2.sz];rfl
theorem Ek:∀xs ys:List Z2,XI (xs++ys)=XI xs+XI ys
 | [],ys=>by simp [XI]
 | x::r,ys=>by rw [Q6,XI,XI,Ek r];omega
theorem Ct:∀{xs:List Z2} {k:Nat} {e:Z2},xs[k]? = some e->e.sz<=XI xs
 | [],k,e,h=>by simp at h
 | x::r,0,e,h=>by simp at h;subst h;rw [XI];omega
 | x::r,k+1,e,h=>by have:=Ct (xs:=r) (k:=k) (by simpa using h);rw [XI];omega
theorem OO:∀{xs:List Z2},xs.length<=XI xs
 | []=>Ac _
 | x::r=>by have:=OO (xs:=r);have:=x.sz_eq;rw [XI,X5];omega
def AM:Zf:=⟨0,0,[⟨[]⟩,⟨[0,1]⟩]⟩
def AN:Zf:=⟨0,0,[⟨[]⟩,⟨[3,0,3]⟩]⟩
def Oi:List Zf:=[⟨0,0,[⟨[1,3]⟩]⟩,⟨1,0,[]⟩,⟨0,0,[⟨[1,1,0]⟩,⟨[0]⟩,⟨[3]⟩]⟩,⟨0,1,[]⟩]
def AW:List (List Zf):=[[AM,⟨0,0,[]⟩,AN],[AM,⟨0,0,[]⟩,AN,⟨0,0,[⟨[1,3]⟩]⟩],[AM,⟨0,0,[]⟩,AN,⟨1,0,[]⟩],[AM,⟨0,0,[]⟩,AN,⟨0,0,[⟨[1,1,0]⟩,⟨[0]⟩,⟨[3]⟩]⟩],[AM,⟨0,0,[]⟩,AN,⟨0,1,[]⟩]]
def GD (ds:List Zf):Prop:=ds∈AW
theorem GD.ok {ds:List Zf} (h:GD ds):Wp ds:=by
 have k:=(by decide:∀ds∈AW,ds.length<=4/\(∀d∈ds,d.cons.length<=3)/\∀d∈ds,∀c∈d.cons,c.fields.length<=3) ds h
 exact ⟨k.1,k.2.1,k.2.2⟩
theorem GD.len {ds:List Zf} (h:GD ds):3<=ds.length/\ds.length<=4:=by
 exact (by decide:∀ds∈AW,3<=ds.length/\ds.length<=4) ds h
def JB (t:Int):Prop:=t=0∨t=1∨t=3
instance (t:Int):Decidable (JB t):=inferInstanceAs (Decidable (_∨_∨_))
theorem GD.low {ds:List Zf} (h:GD ds):ZV ds 0=[]/\ZV ds 1=[0,1]/\ZV ds 2=[]/\ZV ds 3=[2,3]/\ZX ds 0=[]/\ZX ds 1=[0,1]/\ZX ds 2=[]/\ZX ds 3=[3,0,3]:=
 (by decide:∀ds∈AW,ZV ds 0=[]/\ZV ds 1=[0,1]/\ZV ds 2=[]/\ZV ds 3=[2,3]/\ZX ds 0=[]/\ZX ds 1=[0,1]/\ZX ds 2=[]/\ZX ds 3=[3,0,3]) ds h
theorem GD.fields {ds:List Zf} (h:GD ds):∀c∈ZV ds 1++(ZV ds 3++ZV ds 4),∀t∈ZX ds c,JB t:=
 (by decide:∀ds∈AW,∀c∈ZV ds 1++(ZV ds 3++ZV ds 4),∀t∈ZX ds c,JB t) ds h
theorem GD.cons_cases {ds:List Zf} (h:GD ds) {t:Int} {c:Int} (hc:c∈ZV ds t):(0<=c/\c<=9)/\(t=1∨t=3∨t=4)/\(ZX ds c).length<=3/\∀u∈ZX ds c,JB u:=by
 have ht:1<=t/\t<=ds.length:=by
  by_cases q:1<=t/\t<=ds.length
  ·exact q
  ·rw [ZV,Z6 q] at hc;cases hc
 have hl:=h.len
 have hlow:=h.low
 have key:∀c∈ZV ds 1++(ZV ds 3++ZV ds 4),0<=c/\c<=9:=
  (by decide:∀ds∈AW,∀c∈ZV ds 1++(ZV ds 3++ZV ds 4),0<=c/\c<=9) ds h
 have h4:t=1∨t=2∨t=3∨t=4:=by omega
 have hf:=h.fields
 have hd:=UF h.ok c
 rcases h4 with rfl|rfl|rfl|rfl
 ·exact ⟨key c (Xg.2 (.inl hc)),.inl rfl,hd,hf c (Xg.2 (.inl hc))⟩
 ·rw [hlow.2.2.1] at hc;cases hc
 ·exact ⟨key c (Xg.2 (.inr (Xg.2 (.inl hc)))),.inr (.inl rfl),hd,hf c (Xg.2 (.inr (Xg.2 (.inl hc))))⟩
 ·exact ⟨key c (Xg.2 (.inr (Xg.2 (.inr hc)))),.inr (.inr rfl),hd,hf c (Xg.2 (.inr (Xg.2 (.inr hc))))⟩
def Ae:List (LI × Int):=[([],0),([1],0),([1,1],1),([1],1),([1,0],1),([2,1],1),([1,1],0),([3],0),([0],1),([0,1],1),([3,0],3),([3],1),([1,3,0],0),([0],0),([0,0],0),([1,0],0)]
def Qn (f:Func):Prop:=(f.params,f.result)∈Ae
theorem Qn.bd {f:Func} (h:Qn f):f.params.length<=3/\(∀t∈f.params,0<=t/\t<=3)/\JB f.result:=by
 have key:∀q∈Ae,q.1.length<=3/\(∀t∈q.1,0<=t/\t<=3)/\JB q.2:=by decide
 exact key _ h
theorem Qn.clo {ds:List Zf} {f:Func} (hd:GD ds) (h:Qn f) (hp:0<UE ds (gI f.params ((f.params.length:Int)-1)) f.result):∀t∈f.params.dropLast,JB t:=by
 have key:∀q∈Ae,0<UE ds (gI q.1 ((q.1.length:Int)-1)) q.2->∀t∈q.1.dropLast,JB t:=
  (by decide +kernel:∀ds∈AW,∀q∈Ae,0<UE ds (gI q.1 ((q.1.length:Int)-1)) q.2->∀t∈q.1.dropLast,JB t) ds hd
 exact key _ h hp
structure GP (p:Wh):Prop where
 decls:GD p.decls
 len:1<=p.funcs.length/\p.funcs.length<=4
 sigs:∀f∈p.funcs,Qn f
def QF (ds:List Zf) (op num:Int) (m:Nat) (k:Nat):Nat:=
 if op=13 then m+k else if op=8 then (if k=0 then m else m+(ZX ds (gI (ZV ds num) ((k:Int)-1))).length) else m
mutual
def eW (ds:List Zf) (nf:Nat):Nat->Z2->Prop
 | m,.mk op num kids=>(0<=op/\op<=13)/\(op=12->kids=[]/\0<=num/\num<m)/\(op=13->kids.length=2)/\(op=7->kids.length=3)/\(op=8->kids.length=1+(ZV ds num).length)/\(op=9->0<=num/\num<nf)/\(-2000<=num/\num<=2000)/\kids.length<=4 /\
  Kx ds nf (QF ds op num m) 0 kids
def Kx (ds:List Zf) (nf:Nat) (sc:Nat->Nat):Nat->List Z2->Prop
 | _,[]=>True
 | k,e::r=>eW ds nf (sc k) e/\Kx ds nf sc (k+1) r
end
theorem Z7p {ds:List Zf} {nf m:Nat} (e:Z2):eW ds nf m e↔(0<=e.op/\e.op<=13)/\(e.op=12->e.kids=[]/\0<=e.num/\e.num<m)/\(e.op=13->e.kids.length=2)/\(e.op=7->e.kids.length=3)/\(e.op=8->e.kids.length=1+(ZV ds e.num).length)/\(e.op=9->0<=e.num/\e.num<nf)/\(-2000<=e.num/\e.num<=2000)/\e.kids.length<=4 /\
  Kx ds nf (QF ds e.op e.num m) 0 e.kids:=by cases e;rw [eW];rfl
theorem Di {ds:List Zf} {nf:Nat} {sc:Nat->Nat}:∀{xs:List Z2} {j k:Nat} {e:Z2},Kx ds nf sc j xs->xs[k]? = some e->eW ds nf (sc (j+k)) e
 | [],j,k,e,_,h=>by simp at h
 | x::r,j,0,e,hw,h=>by simp at h;subst h;exact hw.1
 | x::r,j,k+1,e,hw,h=>by
  have:=Di (xs:=r) (j:=j+1) (k:=k) hw.2 (by simpa using h)
  rw [show j+(k+1)=j+1+k by omega];exact this
theorem OG {ds:List Zf} {nf:Nat} {sc:Nat->Nat}:∀{xs ys:List Z2} {j:Nat},Kx ds nf sc j (xs++ys)↔Kx ds nf sc j xs/\Kx ds nf sc (j+xs.length) ys
 | [],ys,j=>by simp [Kx]
 | x::r,ys,j=>by
  rw [Q6,Kx,Kx,OG (xs:=r),and_assoc,X5,show j+1+r.length=j+(r.length+1) by omega]
theorem IQ {ds:List Zf} {nf m:Nat} {sc:Nat->Nat} (hs:∀k,sc k=m):∀{xs:List Z2} {j:Nat},(∀e∈xs,eW ds nf m e)->Kx ds nf sc j xs
 | [],_,_=>True.intro
 | x::r,j,h=>⟨by rw [hs];exact h x (Xd ..),IQ hs fun e he=>h e (Xp _ he)⟩
theorem Cs {ds:List Zf} {nf m:Nat} {op num:Int} {kids:List Z2} (ho:0<=op/\op<=11/\op≠7/\op≠8) (hc:op=9->0<=num/\num<nf) (hn:-2000<=num/\num<=2000) (hl:kids.length<=4) (hk:∀e∈kids,eW ds nf m e):eW ds nf m (.mk op num kids):=by
 rw [eW]
 refine ⟨by omega,fun h=>by omega,fun h=>by omega,fun h=>by omega,fun h=>by omega,hc,hn,hl,IQ (m:=m) (fun k=>?_) hk⟩
 rw [QF,Z6 om,Z6 om]
theorem Z7q {ds:List Zf} {nf m:Nat} {z:Int} (hz:-2000<=z/\z<=2000):eW ds nf m (.mk 0 z []):=Cs om (fun h=>by omega) hz (by simp) (fun e he=>by cases he)
theorem Z7r {ds:List Zf} {nf m:Nat} {z:Int} (hz:0<=z/\z<m) (hm:m<=2000):eW ds nf m (.mk 12 z []):=by
 rw [eW]
 exact ⟨by omega,fun _=>⟨rfl,hz⟩,fun h=>by omega,fun h=>by omega,fun h=>by omega,fun h=>by omega,by omega,by simp,True.intro⟩
theorem OE {ds:List Zf} {nf m:Nat} {num:Int} {kids:List Z2} (hn:-2000<=num/\num<=2000) (hl:kids.length=3) (hk:∀e∈kids,eW ds nf m e):eW ds nf m (.mk 7 num kids):=by
 rw [eW]
 refine ⟨by omega,fun h=>by omega,fun h=>by omega,fun _=>hl,fun h=>by omega,fun h=>by omega,hn,by omega,IQ (m:=m) (fun k=>?_) hk⟩
 rw [QF,Z6 om,Z6 om]
theorem OF {ds:List Zf} {nf m:Nat} {num:Int} {a b:Z2} (hn:-2000<=num/\num<=2000) (ha:eW ds nf m a) (hb:eW ds nf (m+1) b):eW ds nf m (.mk 13 num [a,b]):=by
 rw [eW]
 exact ⟨by omega,fun h=>by omega,fun _=>rfl,fun h=>by omega,fun h=>by omega,fun h=>by omega,hn,by simp,ha,hb,True.intro⟩
theorem IP {ds:List Zf} {nf m:Nat} {num:Int} {a:Z2} {arms:List Z2} (hn:-2000<=num/\num<=2000) (h3:arms.length<=3) (hl:arms.length=(ZV ds num).length) (ha:eW ds nf m a) (hk:Kx ds nf (QF ds 8 num m) 1 arms):eW ds nf m (.mk 8 num (a::arms)):=by
 rw [eW]
 refine ⟨by omega,fun h=>by omega,fun h=>by omega,fun h=>by omega,fun _=>by rw [X5];omega,fun h=>by omega,hn,by rw [X5];omega,?_,hk⟩
 rw [QF,Z6 om,Zd rfl,Zd rfl]
 exact ha
def bS (b:Nat):Nat:=max 4 (10*b-10)
def bC (b:Nat):Nat:=max 40 (100*b-100)
def Xq:List Z5->Nat
 | []=>0
 | s::r=>(if YC s.op=true then 0 else 1)+Xq r
theorem AO:∀xs ys:List Z5,Xq (xs++ys)=Xq xs+Xq ys
 | [],ys=>by simp [Xq]
 | x::r,ys=>by rw [Q6,Xq,Xq,AO r];omega
theorem Bz:∀xs:List Z5,Xq xs<=xs.length
 | []=>X6 _
 | x::r=>by have:=Bz r;rw [Xq,X5];split<;>omega
def QE (ds:List Zf) (op num:Int) (m:Nat) (k:Nat):Nat:=if op=8 then m+(ZX ds (gI (ZV ds num) k)).length else m
mutual
def fS (ds:List Zf) (nf:Nat):Nat->Z5->Prop
 | m,.mk op num into args kids=>((0<=op/\op<=11)∨(14<=op/\op<=17))/\(∀a∈args,0<=a/\a<m)/\(14<=op->num=0/\into=0/\kids=[]/\∃a,args=[a])/\(op=7->kids.length=2)/\(op=8->kids.length=(ZV ds num).length)/\(op=7∨op=8->∃a,args=[a]) /\
  (op=9->0<=num/\num<nf)/\(-2000<=num/\num<=2000)/\(0<=into/\into<=m)/\args.length<=4/\(op≠7/\op≠8->kids=[])/\Qs ds nf (QE ds op num m) 0 kids
def Qs (ds:List Zf) (nf:Nat) (sc:Nat->Nat):Nat->List Z7->Prop
 | _,[]=>True
 | k,b::r=>fB ds nf (sc k) b/\Qs ds nf sc (k+1) r
def TY (ds:List Zf) (nf:Nat):Nat->List Z5->Prop
 | _,[]=>True
 | m,s::r=>fS ds nf m s/\TY ds nf (if YC s.op=true then m else m+1) r
def fB (ds:List Zf) (nf:Nat):Nat->Z7->Prop
 | m,.mk steps result=>TY ds nf m steps/\0<=result/\result<(m+Xq steps:Nat)
end
section
variable {ds:List Zf} {nf:Nat}
structure FS (ds:List Zf) (nf m:Nat) (s:Z5):Prop where
 op:(0<=s.op/\s.op<=11)∨(14<=s.op/\s.op<=17)
 args:∀a∈s.args,0<=a/\a<m
 cnt:14<=s.op->s.num=0/\s.into=0/\s.kids=[]/\∃a,s.args=[a]
 k7:s.op=7->s.kids.length=2
 k8:s.op=8->s.kids.length=(ZV ds s.num).length
 one:s.op=7∨s.op=8->∃a,s.args=[a]
 call:s.op=9->0<=s.num/\s.num<nf
 num:-2000<=s.num/\s.num<=2000
 into:0<=s.into/\s.into<=m
 alen:s.args.length<=4
 kn:s.op≠7/\s.op≠8->s.kids=[]
 kids:Qs ds nf (QE ds s.op s.num m) 0 s.kids
theorem IW {m:Nat} (s:Z5):fS ds nf m s↔FS ds nf m s:=by
 cases s
 rw [fS]
 exact ⟨fun ⟨h1,h2,h3,h4,h5,h6,h7,h8,h9,h10,h11,h12⟩=>⟨h1,h2,h3,h4,h5,h6,h7,h8,h9,h10,h11,h12⟩,fun h=>⟨h.op,h.args,h.cnt,h.k7,h.k8,h.one,h.call,h.num,h.into,h.alen,h.kn,h.kids⟩⟩
theorem Gc {m:Nat} (b:Z7):fB ds nf m b↔TY ds nf m b.steps/\0<=b.result/\b.result<(m+Xq b.steps:Nat):=by cases b;rw [fB];rfl
theorem Gd {sc:Nat->Nat}:∀{xs:List Z7} {j k:Nat} {b:Z7},Qs ds nf sc j xs->xs[k]? = some b->fB ds nf (sc (j+k)) b
 | [],j,k,b,_,h=>by simp at h
 | x::r,j,0,b,hw,h=>by simp at h;subst h;exact hw.1
 | x::r,j,k+1,b,hw,h=>by
  have:=Gd (xs:=r) (j:=j+1) (k:=k) hw.2 (by simpa using h)
  rw [show j+(k+1)=j+1+k by omega];exact this
theorem OQ {sc:Nat->Nat}:∀{xs ys:List Z7} {j:Nat},Qs ds nf sc j (xs++ys)↔Qs ds nf sc j xs/\Qs ds nf sc (j+xs.length) ys
 | [],ys,j=>by simp [Qs]
 | x::r,ys,j=>by
  rw [Q6,Qs,Qs,OQ (xs:=r),and_assoc,X5,show j+1+r.length=j+(r.length+1) by omega]
theorem OR {sc:Nat->Nat} {xs:List Z7} {b:Z7} (h:Qs ds nf sc 0 xs) (hb:fB ds nf (sc xs.length) b):Qs ds nf sc 0 (xs++[b]):=
 OQ.2 ⟨h,by rw [Vy];exact hb,True.intro⟩
theorem Em:∀{xs ys:List Z5} {m:Nat},TY ds nf m (xs++ys)↔TY ds nf m xs/\TY ds nf (m+Xq xs) ys
 | [],ys,m=>by simp [TY,Xq]
 | x::r,ys,m=>by
  rw [Q6,TY,TY,Em (xs:=r),and_assoc,Xq]
  by_cases h:YC x.op=true
  ·rw [Zd h,Zd h,Vy]
  ·rw [Z6 h,Z6 h,Bm]
theorem Gf {xs:List Z5} {s:Z5} {m:Nat} (h:TY ds nf m xs) (hs:fS ds nf (m+Xq xs) s):TY ds nf m (xs++[s]):=Em.2 ⟨h,hs,True.intro⟩
theorem Ge:∀{xs:List Z5} {k m:Nat} {s:Z5},TY ds nf m xs->xs[k]? = some s->fS ds nf (m+Xq (xs.take k)) s
 | [],k,m,s,_,h=>by simp at h
 | x::r,0,m,s,hw,h=>by simp at h;subst h;exact hw.1
 | x::r,k+1,m,s,hw,h=>by
  have:=Ge (xs:=r) (k:=k) hw.2 (by simpa using h)
  rw [C8,Xq]
  by_cases hc:YC x.op=true
  ·rw [Zd hc] at this ⊢;rw [Vy];exact this
  ·rw [Z6 hc] at this ⊢;rw [<-Bm];exact this
mutual
theorem Zg8:∀(s:Z5) {m:Nat},fS ds nf m s->s.rng
 | .mk op num into args kids,m,h=>by
  rw [fS] at h
  obtain ⟨h1,h2,h3,h4,h5,h6,h7,h8,h9,h10,h11,h12⟩:=h
  rw [Z5.rng]
  exact ⟨by omega,SZ kids h12⟩
theorem SZ:∀(bs:List Z7) {sc:Nat->Nat} {k:Nat},Qs ds nf sc k bs->Ks bs
 | [],_,_,_=>True.intro
 | b::r,sc,k,h=>⟨SY b h.1,SZ r h.2⟩
theorem Z00:∀(xs:List Z5) {m:Nat},TY ds nf m xs->TS xs
 | [],_,_=>True.intro
 | s::r,m,h=>⟨Zg8 s h.1,Z00 r h.2⟩
theorem SY:∀(b:Z7) {m:Nat},fB ds nf m b->b.rng
 | .mk steps result,m,h=>by rw [fB] at h;rw [Z7.rng];exact Z00 steps h.1
end
end
structure FN (n:Zl) (q:Nat):Prop where
 decls:GD n.decls
 len:1<=n.routines.length/\n.routines.length<=4
 sigs:∀r∈n.routines,(r.params,r.result)∈Ae
 lent:∀r∈n.routines,r.lent.length<=3/\∀i∈r.lent,0<=i/\i<r.params.length
 body:∀r∈n.routines,fB n.decls n.routines.length r.params.length r.body/\r.body.sz<=q
theorem FN.ok {n:Zl} {q:Nat} (h:FN n q):X3 n:=
 ⟨h.decls.ok,h.len.2,fun r hr=>(Qn.bd (f:=⟨r.params,r.result,default⟩) (h.sigs r hr)).1,fun r hr=>by have:=(h.lent r hr).1;omega⟩
def Pk (n k:Int):Prop:=0<=k/\(0<n->k<n)/\(n<=0->k=0)
theorem Pk.lt {n k:Int} (h:Pk n k) (hn:0<n):0<=k/\k<n:=⟨h.1,h.2.1 hn⟩
theorem Pk.zero {n:Int}:Pk n 0:=⟨Int.le_refl _,fun h=>h,fun _=>rfl⟩
theorem Pk.rem {n a:Int} (ha:0<=a) (hn:0<n):Pk n (a % n):=⟨Int.emod_nonneg _ om,fun _=>Int.emod_lt_of_pos _ hn,fun _=>by omega⟩
def AD (ds:List Zf):Prop:=ds.length<=8/\∀d∈ds,d.cons.length<=4/\∀c∈d.cons,c.fields.length<=4
theorem GD.ad {ds:List Zf} (h:GD ds):AD ds:=(by decide:∀ds∈AW,ds.length<=8/\∀d∈ds,d.cons.length<=4/\∀c∈d.cons,c.fields.length<=4) ds h
theorem AD.set {ds:List Zf} (h:AD ds) (k:Nat) {d:Zf} (hd:d.cons.length<=4/\∀c∈d.cons,c.fields.length<=4):AD (ds.set k d):=
 ⟨by rw [Tg];exact h.1,fun x hx=>(List.mem_or_eq_of_mem_set hx).elim (h.2 x) fun e=>by rw [e];exact hd⟩
theorem AD.app {ds es:List Zf} (h:AD ds) (hl:ds.length+es.length<=8) (hd:∀d∈es,d.cons.length<=4/\∀c∈d.cons,c.fields.length<=4):AD (ds++es):=
 ⟨by rw [Yq];exact hl,fun x hx=>(Xg.1 hx).elim (h.2 x) (hd x)⟩
theorem GD.three:GD [AM,⟨0,0,[]⟩,AN]:=List.Mem.head _
theorem GD.four:∀{k:Nat} {x:Zf},Oi[k]? = some x->GD ([AM,⟨0,0,[]⟩,AN]++[x])
 | 0,x,h=>by cases h;exact .tail _ (.head _)
 | 1,x,h=>by cases h;exact .tail _ (.tail _ (.head _))
 | 2,x,h=>by cases h;exact .tail _ (.tail _ (.tail _ (.head _)))
 | 3,x,h=>by cases h;exact .tail _ (.tail _ (.tail _ (.tail _ (.head _))))
 | k+4,x,h=>by simp [Oi] at h
theorem BN {l:LI} {z a b:Int} (h:z∈l) (hl:l.all (fun x=>decide (a<=x/\x<=b))=true):a<=z/\z<=b:=by
 have:=A9.1 hl z h
 exact of_decide_eq_true this
def rk (t:Int):Nat:=if JB t then 0 else 1
theorem Mp (t:Int):rk t<=1:=by rw [rk];split<;>omega
theorem SX {t:Int} (h:JB t):rk t=0:=Zd h
def SE (g:Wh) (q:Nat) (e:Z2):Prop:=(∀m,eW g.decls g.funcs.length m e)/\e.sz<=q
def GE (g:Wh) (m q:Nat) (e:Z2):Prop:=eW g.decls g.funcs.length m e/\e.sz<=q
theorem SE.ge {g:Wh} {q q' m:Nat} {e:Z2} (h:SE g q e) (hq:q<=q'):GE g m q' e:=⟨h.1 m,VL h.2 hq⟩
theorem GE.le {g:Wh} {m q q':Nat} {e:Z2} (h:GE g m q e) (hq:q<=q'):GE g m q' e:=⟨h.1,VL h.2 hq⟩
theorem Ga {m:Nat}:∀{xs:List Z2},(∀e∈xs,e.sz<=m)->XI xs<=xs.length*m
 | [],_=>Ac _
 | x::r,h=>by
  have h1:=h x (Xd ..)
  have h2:=Ga (xs:=r) fun e he=>h e (Xp _ he)
  rw [XI,X5,Kb];omega
theorem XW {α:Type} {p:α->Prop} {xs:List α} {a:α} (h:∀x∈xs,p x) (ha:p a):∀x∈xs++[a],p x:=fun x hx=>(Xg.1 hx).elim (h x) fun q=>by rw [XH.1 q];exact ha
theorem SE.int {g:Wh} {z:Int} {q:Nat} (hz:-2000<=z/\z<=2000) (hq:1<=q):SE g q (.mk 0 z []):=⟨fun _=>Z7q hz,by simpa [Z2.sz,XI] using hq⟩
theorem SE.node {g:Wh} {op num:Int} {ys:List Z2} {q k:Nat} (ho:op=6∨op=10) (hn:0<=num/\num<=2000) (hy:∀e∈ys,SE g 1 e) (hl:ys.length<=k) (hk:k<=3) (hq:1+k<=q):SE g q (.mk op num ys):=by
 refine ⟨fun m=>Cs om (fun h=>by omega) om om fun e he=>(hy e he).1 m,?_⟩
 have:=Ga (xs:=ys) (m:=1) fun e he=>(hy e he).2
 rw [Z2.sz];omega
def Br (ds:List Zf) (t c:Int):Prop:=(0<=c/\c<=9)/\(ZX ds c).length<=3*rk t/\∀u∈ZX ds c,JB u
instance (ds:List Zf) (t c:Int):Decidable (Br ds t c):=inferInstanceAs (Decidable (_/\_/\_))
theorem Z0m {ds:List Zf} (h:GD ds):∀t∈[(1:Int),2,3,4],∀c∈ZV ds t,(t∈ZX ds c->∀c0,(ZV ds t)[0]? = some c0->Br ds t c0)/\(¬t∈ZX ds c->Br ds t c):=by
 intro t ht c hc
 have k1:=(by decide:∀ds∈AW,∀t∈[(1:Int),2,3,4],∀c∈ZV ds t,(t∈ZX ds c->Br ds t (gI (ZV ds t) 0))/\(¬t∈ZX ds c->Br ds t c)) ds h t ht c hc
 refine ⟨fun q c0 h0=>?_,k1.2⟩
 have:=k1.1 q
 rwa [VQ (i:=0) h0] at this
theorem O8 {ds:List Zf} (h:GD ds) {t c:Int} (hc:c∈ZV ds t):t∈[(1:Int),2,3,4]:=by
 obtain ⟨_,h2,_⟩:=h.cons_cases hc
 rcases h2 with rfl|rfl|rfl<;>simp
theorem Zh4 {ds:List Zf} (h:GD ds) {t c c0:Int} (hc:c∈ZV ds t) (ht:t∈ZX ds c) (h0:(ZV ds t)[0]? = some c0):Br ds t c0:=(Z0m h t (O8 h hc) c hc).1 ht c0 h0
theorem Zh3 {ds:List Zf} (h:GD ds) {t c:Int} (hc:c∈ZV ds t) (ht:¬t∈ZX ds c):Br ds t c:=(Z0m h t (O8 h hc) c hc).2 ht
theorem Zg7 {ds:List Zf} (h:GD ds) {t:Int} (h0:(ZV ds t).length=0) (ht:0<t):rk t=1:=by
 rw [rk,Z6]
 rintro (q|q|q)
 ·omega
 ·rw [q,h.low.2.1] at h0;cases h0
 ·rw [q,h.low.2.2.2.1] at h0;cases h0
def AB (g:Wh) (t i:Int):Prop:=0<=i/\∃f,g.funcs[i.toNat]? = some f/\0<f.params.length/\UE g.decls (gI f.params ((f.params.length:Int)-1)) f.result=t
theorem AB.lt {g:Wh} {t i:Int} (h:AB g t i):0<=i/\i<g.funcs.length:=by
 obtain ⟨h1,f,h2,_⟩:=h
 have:=(Xs.1 h2).1
 omega
theorem AB.mk {g:Wh} {t x2:Int} {k:Nat} {f:Func} (hf:g.funcs[k]? = some f) (hl:0<f.params.length) (hx:f.params[f.params.length-1]? = some x2) (ha:UE g.decls x2 f.result=t):AB g t (k:Int):=by
 refine ⟨by omega,f,by simpa using hf,hl,?_⟩
 rw [VQ (i:=(f.params.length:Int)-1) (by rw [show ((f.params.length:Int)-1).toNat=f.params.length-1 by omega];exact hx)]
 exact ha
theorem AB.low {g:Wh} {t i u:Int} {f:Func} {j:Nat} (hg:GP g) (h:AB g t i) (ht:0<t) (hf:g.funcs[i.toNat]? = some f) (hj:j+1<f.params.length) (hu:f.params[j]? = some u):rk u=0:=by
 obtain ⟨_,f',h2,_,h4⟩:=h
 have e:f'=f:=UY (h2.symm.trans hf)
 subst e
 have h5:=(hg.sigs f' (Y4 hf)).clo hg.decls (by rw [h4];exact ht)
 refine SX (h5 u ?_)
 rw [List.dropLast_eq_take]
 exact Y4 (i:=j) (by rw [List.getElem?_take_of_lt om];exact hu)
end Go.Abs
section
namespace Go.Abs
theorem Ah (b:Nat):bS b=max 4 (10*b-10):=rfl
theorem Ag (b:Nat):bC b=max 40 (100*b-100):=rfl
theorem EK {L q b:Nat} (hL:L<=3) (hb:3<=b) (hq:L*q<=b-1):1+L*bS q<=bS b:=by
 rw [Ah,Ah]
 have:L=0∨L=1∨L=2∨L=3:=by omega
 rcases this with rfl|rfl|rfl|rfl<;>omega
theorem Ze5 {L q b:Nat} (hL:L<=3) (hb:3<=b) (hq:L*q<=b-2):5+L*bS q<=bS b:=by
 rw [Ah,Ah]
 have:L=0∨L=1∨L=2∨L=3:=by omega
 rcases this with rfl|rfl|rfl|rfl<;>omega
theorem Zdt {b:Nat} (hb:3<=b):1+(bS (b / 2)+bS (b / 2))<=bS b:=by rw [Ah,Ah];omega
theorem Z3x {b:Nat} (hb:3<=b):5+bS (b-2)<=bS b:=by rw [Ah,Ah];omega
theorem B6 {L q b:Nat} (hL:L<=3) (hb:3<=b) (hq:L*q<=b-1):10+L*bC q<=bC b:=by
 rw [Ag,Ag]
 have:L=0∨L=1∨L=2∨L=3:=by omega
 rcases this with rfl|rfl|rfl|rfl<;>omega
theorem Ze4 {L q b:Nat} (hL:L<=3) (hb:3<=b) (hq:L*q<=b-2):40+L*bC q<=bC b:=by
 rw [Ag,Ag]
 have:L=0∨L=1∨L=2∨L=3:=by omega
 rcases this with rfl|rfl|rfl|rfl<;>omega
theorem Zds {b:Nat} (hb:3<=b):10+(bC (b / 2)+bC (b / 2))<=bC b:=by rw [Ag,Ag];omega
theorem Z3w {b:Nat} (hb:3<=b):40+bC (b-2)<=bC b:=by rw [Ag,Ag];omega
theorem ND (b:Nat):4<=bS b:=by rw [Ah];omega
theorem NC (b:Nat):40<=bC b:=by rw [Ag];omega
theorem QL (L b:Nat):L*(b / L)<=b:=Nat.mul_div_le b L
theorem RX {k L C:Nat} (h:k<L):(k+1)*C=k*C+C/\(k+1)*C<=L*C:=⟨by rw [Kb,Nat.one_mul],Kq C h⟩
theorem DL {ds:List Zf} {d x:Int} {m k:Nat} (h:(ZV ds d)[k]? = some x):QF ds 8 d m (1+k)=m+(ZX ds x).length:=by
 rw [QF,Z6 om,Zd rfl,Z6 om,VQ (i:=((1+k:Nat):Int)-1) (by rw [show (((1+k:Nat):Int)-1).toNat=k by omega];exact h)]
section
variable {g:Wh} {m:Nat}
theorem GE.var {z:Int} {q:Nat} (hz:0<=z/\z<m) (hm:m<=2000) (hq:1<=q):GE g m q (.mk 12 z []):=⟨Z7r hz hm,by simpa [Z2.sz,XI] using hq⟩
theorem GE.list {ys:List Z2} {L s:Nat} (h:∀e∈ys,GE g m s e) (hl:ys.length=L):XI ys<=L*s:=by rw [<-hl];exact Ga fun e he=>(h e he).2
theorem GE.node {op num:Int} {ys:List Z2} {L s q:Nat} (ho:0<=op/\op<=11/\op≠7/\op≠8) (hc:op=9->0<=num/\num<g.funcs.length) (hn:-2000<=num/\num<=2000) (h:∀e∈ys,GE g m s e) (hl:ys.length=L) (hL:L<=3) (hq:1+L*s<=q):GE g m q (.mk op num ys):=by
 have:=GE.list h hl
 exact ⟨Cs ho hc hn om fun e he=>(h e he).1,by rw [Z2.sz];omega⟩
theorem GE.if_ {num:Int} {ys:List Z2} {s q:Nat} (hn:-2000<=num/\num<=2000) (h:∀e∈ys,GE g m s e) (hl:ys.length=3) (hq:1+3*s<=q):GE g m q (.mk 7 num ys):=by
 have:=GE.list h hl
 exact ⟨OE hn hl fun e he=>(h e he).1,by rw [Z2.sz];omega⟩
theorem GE.let_ {a b:Z2} {s q:Nat} (ha:GE g m s a) (hb:GE g (m+1) s b) (hq:1+(s+s)<=q):GE g m q (.mk 13 0 [a,b]):=by
 refine ⟨OF om ha.1 hb.1,?_⟩
 have h1:=ha.2
 have h2:=hb.2
 simp only [Z2.sz,XI];omega
theorem GE.two {op num:Int} {a b:Z2} {s1 s2 q:Nat} (ho:0<=op/\op<=11/\op≠7/\op≠8/\op≠9) (hn:-2000<=num/\num<=2000) (ha:GE g m s1 a) (hb:GE g m s2 b) (hq:1+(s1+s2)<=q):GE g m q (.mk op num [a,b]):=by
 refine ⟨Cs om (fun h=>by omega) hn (by simp) fun e he=>?_,?_⟩
 ·rcases YH.1 he with rfl|he
  ·exact ha.1
  ·rw [XH.1 he];exact hb.1
 ·have h1:=ha.2
  have h2:=hb.2
  simp only [Z2.sz,XI];omega
theorem GE.match_ {d:Int} {e:Z2} {ys:List Z2} {L s q:Nat} (hd:-2000<=d/\d<=2000) (he:GE g m 4 e) (hw:Kx g.decls g.funcs.length (QF g.decls 8 d m) 1 ys) (hs:∀e∈ys,e.sz<=s) (hl:ys.length=L) (hL:L=(ZV g.decls d).length) (h3:L<=3) (hq:5+L*s<=q):GE g m q (.mk 8 d (e::ys)):=by
 refine ⟨IP hd om om he.1 hw,?_⟩
 have h1:=Ga hs
 rw [hl] at h1
 have h2:=he.2
 rw [Z2.sz,XI];omega
end
def NL (s:Nat) (left w:Int):Prop:=((s:Int)<=left/\w=left-s)∨(left<s/\w=-1)
end Go.Abs
namespace Go.Abs
theorem CH {L b p pp M:Nat} (hL:L<=3) (hb:3<=b) (h:pp<=p+8) (hp:p+(bC b-1)<=M):pp+L*bC ((b-1) / L)<=M:=by
 have:=B6 hL hb (QL L (b-1))
 omega
end Go.Abs
end
namespace Go.Abs
theorem Z83 (a b:Z2):XI [a,b]=a.sz+b.sz:=by simp only [XI];omega
theorem G9 (a b c:Z2):XI [a,b,c]=a.sz+b.sz+c.sz:=by simp only [XI];omega
theorem E5:bS 3=20/\bS 4=30/\bS 12=110/\bS 16=150/\bS 18=170/\bC 3=200/\bC 4=300/\bC 16=1500:=by decide
theorem FI {b:Nat} (h:b<=20):bS b<=190/\bC b<=1900/\(b<=2->bS b<=10):=by rw [Ah,Ag];omega
section
variable {g:Wh} {m:Nat}
theorem SE.ofs {op num:Int} {ys:List Z2} {q:Nat} (ho:0<=op/\op<=11/\op≠7/\op≠8/\op≠9) (hn:-2000<=num/\num<=2000) (hl:ys.length<=4) (hy:∀e∈ys,∃s,SE g s e) (hq:1+XI ys<=q):SE g q (.mk op num ys):=
 ⟨fun m=>Cs om (fun h=>by omega) hn hl fun e he=>let ⟨_,h⟩:=hy e he;h.1 m,by rw [Z2.sz];exact hq⟩
theorem SE.nil {op num:Int} {q:Nat} (ho:0<=op/\op<=11/\op≠7/\op≠8/\op≠9) (hn:-2000<=num/\num<=2000) (hq:1<=q):SE g q (.mk op num []):=
 SE.ofs ho hn (by simp) (fun e he=>by cases he) (by simpa [XI] using hq)
theorem SE.two {op num:Int} {a b:Z2} {s1 s2 q:Nat} (ho:0<=op/\op<=11/\op≠7/\op≠8/\op≠9) (hn:-2000<=num/\num<=2000) (ha:SE g s1 a) (hb:SE g s2 b) (hq:1+(s1+s2)<=q):SE g q (.mk op num [a,b]):=by
 refine SE.ofs ho hn (by simp) (fun e he=>?_) ?_
 ·rcases YH.1 he with rfl|he
  ·exact ⟨_,ha⟩
  ·rw [XH.1 he];exact ⟨_,hb⟩
 ·have h1:=ha.2
  have h2:=hb.2
  rw [Z83];omega
theorem SE.three {op num:Int} {a b c:Z2} {s1 s2 s3 q:Nat} (ho:0<=op/\op<=11/\op≠7/\op≠8/\op≠9) (hn:-2000<=num/\num<=2000) (ha:SE g s1 a) (hb:SE g s2 b) (hc:SE g s3 c) (hq:1+(s1+s2+s3)<=q):SE g q (.mk op num [a,b,c]):=by
 refine SE.ofs ho hn (by simp) (fun e he=>?_) ?_
 ·rcases YH.1 he with rfl|he
  ·exact ⟨_,ha⟩
  ·rcases YH.1 he with rfl|he
   ·exact ⟨_,hb⟩
   ·rw [XH.1 he];exact ⟨_,hc⟩
 ·have h1:=ha.2
  have h2:=hb.2
  have h3:=hc.2
  rw [G9];omega
theorem GE.int {z:Int} {q:Nat} (hz:-2000<=z/\z<=2000) (hq:1<=q):GE g m q (.mk 0 z []):=(SE.int (g:=g) (q:=q) hz hq).ge (X6 _)
theorem GE.three {op num:Int} {a b c:Z2} {s1 s2 s3 q:Nat} (ho:0<=op/\op<=11/\op≠8/\op≠9) (hn:-2000<=num/\num<=2000) (ha:GE g m s1 a) (hb:GE g m s2 b) (hc:GE g m s3 c) (hq:1+(s1+s2+s3)<=q):GE g m q (.mk op num [a,b,c]):=by
 have hk:∀e∈[a,b,c],eW g.decls g.funcs.length m e:=fun e he=>by
  rcases YH.1 he with rfl|he
  ·exact ha.1
  ·rcases YH.1 he with rfl|he
   ·exact hb.1
   ·rw [XH.1 he];exact hc.1
 refine ⟨?_,?_⟩
 ·by_cases h7:op=7
  ·subst h7;exact OE hn rfl hk
  ·exact Cs om (fun h=>by omega) hn (by simp) hk
 ·have h1:=ha.2
  have h2:=hb.2
  have h3:=hc.2
  rw [Z2.sz,G9];omega
theorem GE.one {op num:Int} {a:Z2} {s1 q:Nat} (ho:0<=op/\op<=11/\op≠7/\op≠8/\op≠9) (hn:-2000<=num/\num<=2000) (ha:GE g m s1 a) (hq:1+s1<=q):GE g m q (.mk op num [a]):=by
 refine ⟨Cs om (fun h=>by omega) hn (by simp) fun e he=>?_,?_⟩
 ·rw [XH.1 he];exact ha.1
 ·have h1:=ha.2
  simp only [Z2.sz,XI];omega
theorem GE.letS {a b:Z2} {s1 s2 q:Nat} (ha:GE g m s1 a) (hb:GE g (m+1) s2 b) (hq:1+(s1+s2)<=q):GE g m q (.mk 13 0 [a,b]):=by
 refine ⟨OF om ha.1 hb.1,?_⟩
 have h1:=ha.2
 have h2:=hb.2
 simp only [Z2.sz,XI];omega
theorem GE.matchL (hg:GP g) {e a b:Z2} {s1 s2 s3 q:Nat} (he:GE g m s1 e) (ha:GE g m s2 a) (hb:GE g (m+2) s3 b) (hq:1+(s1+s2+s3)<=q):GE g m q (.mk 8 1 [e,a,b]):=by
 have hl:=hg.decls.low
 refine ⟨IP om (by simp) (by rw [hl.2.1];rfl) he.1 ⟨?_,?_,True.intro⟩,?_⟩
 ·rw [DL (k:=0) (x:=0) (by rw [hl.2.1];rfl),hl.2.2.2.2.1];exact ha.1
 ·rw [DL (k:=1) (x:=1) (by rw [hl.2.1];rfl),hl.2.2.2.2.2.1];exact hb.1
 ·have h1:=he.2
  have h2:=ha.2
  have h3:=hb.2
  rw [Z2.sz,G9];omega
theorem GE.matchT (hg:GP g) {e a b:Z2} {s1 s2 s3 q:Nat} (he:GE g m s1 e) (ha:GE g m s2 a) (hb:GE g (m+3) s3 b) (hq:1+(s1+s2+s3)<=q):GE g m q (.mk 8 3 [e,a,b]):=by
 have hl:=hg.decls.low
 refine ⟨IP om (by simp) (by rw [hl.2.2.2.1];rfl) he.1 ⟨?_,?_,True.intro⟩,?_⟩
 ·rw [DL (k:=0) (x:=2) (by rw [hl.2.2.2.1];rfl),hl.2.2.2.2.2.2.1];exact ha.1
 ·rw [DL (k:=1) (x:=3) (by rw [hl.2.2.2.1];rfl),hl.2.2.2.2.2.2.2];exact hb.1
 ·have h1:=he.2
  have h2:=ha.2
  have h3:=hb.2
  rw [Z2.sz,G9];omega
theorem I5 {α:Type} {p:α->Prop} {a:α} (h:p a):∀x∈[a],p x:=fun x hx=>by rw [XH.1 hx];exact h
end
structure HV (g:Wh):Prop where
 gp:GP g
 body:∀f∈g.funcs,eW g.decls g.funcs.length f.params.length f.body/\f.body.sz<=30
structure GL (ds:List Zf) (k j:Nat) (rq:List Func):Prop where
 len:rq.length=4
 sigs:∀f∈rq,Qn f
 zero:∀f,rq[0]? = some f->f.params.length=0
 body:∀i f,j<=i->i<k->rq[i]? = some f->eW ds k f.params.length f.body/\f.body.sz<=30
theorem GL.gp {ds:List Zf} {k j:Nat} {rq:List Func} (h:GL ds k j rq) (hd:GD ds) (hk:1<=k/\k<=4):GP ⟨ds,rq.take k⟩:=
 ⟨hd,by show 1<=(rq.take k).length/\_;rw [WY,h.len];omega,fun f hf=>h.sigs f (TB hf)⟩
theorem GL.len_take {ds:List Zf} {k j:Nat} {rq:List Func} (h:GL ds k j rq) (hk:k<=4):(rq.take k).length=k:=by rw [WY,h.len];omega
theorem GL.set {ds:List Zf} {k j:Nat} {rq:List Func} {f:Func} {e:Z2} (h:GL ds k j rq) (hj:1<=j) (hf:rq[j-1]? = some f) (he:eW ds k f.params.length e/\e.sz<=30):GL ds k (j-1) (rq.set (j-1) ⟨f.params,f.result,e⟩):=by
 have hl:=(Xs.1 hf).1
 refine ⟨by rw [Tg];exact h.len,fun x hx=>?_,fun x hx=>?_,fun i x h1 h2 hx=>?_⟩
 ·rcases List.mem_or_eq_of_mem_set hx with hx|rfl
  ·exact h.sigs x hx
  ·exact h.sigs f (Y4 hf)
 ·rw [List.getElem?_set] at hx
  split at hx
  ·rename_i h0
   cases hx
   exact h.zero f (by rw [<-h0];exact hf)
  ·exact h.zero x hx
 ·rw [List.getElem?_set] at hx
  split at hx
  ·cases hx
   exact he
  ·exact h.body i x om h2 hx
theorem GL.done {ds:List Zf} {k:Nat} {rq:List Func} (h:GL ds k 0 rq) (hd:GD ds) (hk:1<=k/\k<=4):HV ⟨ds,rq.take k⟩:=by
 refine ⟨h.gp hd hk,fun f hf=>?_⟩
 show eW ds (rq.take k).length _ _/\_
 rw [h.len_take hk.2]
 obtain ⟨i,hi⟩:=Fx hf
 have hi2:i<(rq.take k).length:=(Xs.1 hi).1
 rw [h.len_take hk.2] at hi2
 rw [List.getElem?_take_of_lt hi2] at hi
 exact h.body i f om hi2 hi
theorem ME {l:List Func} {f:Func} {k:Nat} (h:l[k]? = some f) (hl:l.all (fun f=>decide ((f.params,f.result)∈Ae))=true):Qn f:=show (f.params,f.result)∈Ae from of_decide_eq_true (A9.1 hl f (Y4 h))
theorem GL.start {ds:List Zf} {k:Nat} {e:Z2} {a b c:Func} (ha:Qn a) (hb:Qn b) (hc:Qn c):GL ds k k [⟨[],0,e⟩,a,b,c]:=by
 refine ⟨rfl,fun f hf=>?_,fun f hf=>?_,fun i f h1 h2=>by omega⟩
 ·rcases YH.1 hf with rfl|hf
  ·exact List.Mem.head _
  ·rcases YH.1 hf with rfl|hf
   ·exact ha
   ·rcases YH.1 hf with rfl|hf
    ·exact hb
    ·rw [XH.1 hf];exact hc
 ·cases hf;rfl
theorem Zel {l:LI} {k:Nat} {a b:Nat} (h:(k:Int)∈l) (hl:l.all (fun x=>decide ((a:Int)<=x/\x<=b))=true):a<=k/\k<=b:=by
 have:=of_decide_eq_true (A9.1 hl _ h)
 omega
mutual
def JC (p:Int->Prop):Z5->Prop
 | .mk op _ _ _ kids=>p op/\Jb p kids
def Jb (p:Int->Prop):List Z7->Prop
 | []=>True
 | b::r=>UA p b/\Jb p r
def K4 (p:Int->Prop):List Z5->Prop
 | []=>True
 | s::r=>JC p s/\K4 p r
def UA (p:Int->Prop):Z7->Prop
 | .mk steps _=>K4 p steps
end
section
variable {p q:Int->Prop}
theorem Hb (s:Z5):JC p s↔p s.op/\Jb p s.kids:=by cases s;rw [JC];rfl
theorem M3 (b:Z7):UA p b↔K4 p b.steps:=by cases b;rw [UA];rfl
theorem EP:∀{xs:List Z7},Jb p xs↔∀b∈xs,UA p b
 | []=>by simp [Jb]
 | b::r=>by rw [Jb,EP];simp
theorem DD:∀{xs:List Z5},K4 p xs↔∀b∈xs,JC p b
 | []=>by simp [K4]
 | b::r=>by rw [K4,DD];simp
theorem M4 {xs ys:List Z5}:K4 p (xs++ys)↔K4 p xs/\K4 p ys:=by simp only [DD,Xg];exact ⟨fun h=>⟨fun b hb=>h b (.inl hb),fun b hb=>h b (.inr hb)⟩,fun h b hb=>hb.elim (h.1 b) (h.2 b)⟩
theorem Sk {xs:List Z7} {b:Z7} (h:Jb p xs) (hb:UA p b):Jb p (xs++[b]):=EP.2 (XW (EP.1 h) hb)
theorem Hc {xs:List Z5} {b:Z5} (h:K4 p xs) (hb:JC p b):K4 p (xs++[b]):=DD.2 (XW (DD.1 h) hb)
end
def WZ (op:Int):Prop:=op<=11
def JT (op:Int):Prop:=op<=15
end Go.Abs
