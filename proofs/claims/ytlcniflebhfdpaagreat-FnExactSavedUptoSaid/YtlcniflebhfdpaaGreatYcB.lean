/-
  A part of the proofs of several laws (see the last file): no condition.
-/
import Derived.Test.YtlcniflebhfdpaaGreatYcA
import Derived.Test.YtlcniflebhfdpaaGreatRows
import Derived.Deep.Slices
import Derived.ChangeArms
import Derived.Test.YtlcniflebhfdpaaGreatProg
set_option linter.all false
set_option linter.unusedVariables false
set_option linter.unusedSimpArgs false
set_option linter.unusedSectionVars false
set_option maxRecDepth 10000
set_option maxHeartbeats 4000000
namespace Go.Abs
theorem KR.mono {w:World} {G G':ZE} {v:Value} {k:Nat} {ls:List AV} (hA:Vu G w w G') (h:KR w G v k ls):KR w G' v k ls:=by
 rcases h with ⟨rfl,h0⟩|⟨g,len,cap,cur,el,rfl,h1,h2,h3,h4,h5⟩
 ·exact .inl ⟨rfl,h0⟩
 ·exact .inr ⟨g,len,cap,cur,el,rfl,h1,h2,h3,h4,h5.mono hA⟩
theorem Ux.same {w:World} {G G':ZE} {r:Res} (hA:Vu G w w G') (h:Ux w G r):Ux w G' r:=by
 cases r with
 | obj b ls=>obtain ⟨cs,e,h1,h2⟩:=h;exact ⟨cs,e,h1,h2.mono hA⟩
 | tail v k=>exact h
 | ge s=>exact h
 | vec v ls=>
  rcases h with ⟨rfl,h0⟩|⟨g,cap,cur,el,rfl,h1,h2,h3,h4⟩
  ·exact .inl ⟨rfl,h0⟩
  ·exact .inr ⟨g,cap,cur,el,rfl,h1,h2,h3,h4.mono hA⟩
 | many ts=>exact h
 | own B m=>exact h
 | row v k ls=>exact h.mono hA
 | mp b Q=>exact h
theorem ZW.alloc_rrow {w:World} {G:ZE} {h:List Res} (hh:ZW w G h) (cs:Array Value) (t:TypeId) {ls:List AV} {len cap k:Nat} (hcap:len<=cap) (YD:cs.size=cap*k) (hl:ls.length=len*k)
  (hls:Y9 w G ls (cs.toList.take (len*k))) :
  ZW (w.alloc (.cells cs t)) G (.row (.slice (some ⟨w.heap.size,0,none⟩) len cap) k ls::h)/\Yr w G h (w.alloc (.cells cs t)) G (.row (.slice (some ⟨w.heap.size,0,none⟩) len cap) k ls::h):=by
 have hA:Vu G w (w.alloc (.cells cs t)) G:=⟨fun b j hg=>Cm w _ (hh.lt b j hg),fun _ _ h=>h⟩
 refine hh.alloc (.cells cs t) (h':=[.row (.slice (some ⟨w.heap.size,0,none⟩) len cap) k ls]) (fun _ _ h=>h) (fun _ _ h=>.inl h) ?_ ?_ (Kq _ _) ?_
 ·intro r hr
  rw [YH.1 hr]
  exact .inr ⟨_,len,cap,cs,t,rfl,Aa w _,hcap,YD,hl,hls.mono hA⟩
 ·intro r hr b j hf
  rw [YH.1 hr] at hf
  exact hf
 ·intro r hr b j hf hg
  rw [YH.1 hr] at hf
  have:=hh.lt b j hg
  have:b=w.heap.size:=hf
  omega
theorem ZW.rwrite {w:World} {G:ZE} {h2:List Res} {g len cap k:Nat} {ls ls':List AV} (hh:ZW w G (.row (.slice (some ⟨g,0,none⟩) len cap) k ls::h2)) {cs cs':Array Value} {e:TypeId}
  (hb:w.heap[g]? = some (.cells cs e (0,0))) (YD:cs'.size=cs.size) (hle:len<=cap) (hcap:cs.size=cap*k) (hl:ls'.length=len*k) (hls:Y9 w G ls' (cs'.toList.take (len*k))) :
  ZW (w.setRow g cs') G (.row (.slice (some ⟨g,0,none⟩) len cap) k ls'::h2) /\
   Yr w G (.row (.slice (some ⟨g,0,none⟩) len cap) k ls::h2) (w.setRow g cs') G (.row (.slice (some ⟨g,0,none⟩) len cap) k ls'::h2):=by
 have hmem:Res.row (.slice (some ⟨g,0,none⟩) len cap) k ls∈Res.row (.slice (some ⟨g,0,none⟩) len cap) k ls::h2:=YV ..
 have hA:Vu G w (w.setRow g cs') G:=⟨fun c j hg=>by
  have hne:c≠g:=fun he=>hh.prot _ hmem c j he hg
  simp [World.cell?,WZ w g c cs' hne],fun _ _ h=>h⟩
 have hpw:=Vm.1 hh.apart
 have hother:∀r∈h2,∀c j,r.fp c j->c≠g:=fun r hr c j hf hc=>hpw.1 r hr c j hc hf
 have e1:Yr w G [.row (.slice (some ⟨g,0,none⟩) len cap) k ls] (w.setRow g cs') G [.row (.slice (some ⟨g,0,none⟩) len cap) k ls']:=by
  refine ⟨rfl,rfl,rfl,by simp [World.setRow],fun _ _ h=>h,?_,fun _ _ _ h=>.inl h,?_⟩
  ·intro c hc
   by_cases hcb:c=g
   ·subst hcb
    exact .ce ⟨cs,cs',e,(0,0),hb,setRow_heap w c cs cs' e (0,0) hb,YD,fun j hj=>absurd ⟨_,YV ..,rfl⟩ hj⟩
   ·exact .inl (WZ w g c cs' hcb)
  ·rintro c j _ ⟨r,hr,hf⟩
   rw [YH.1 hr] at hf
   exact ⟨_,YV ..,hf⟩
 have e2:ZW (w.setRow g cs') G [.row (.slice (some ⟨g,0,none⟩) len cap) k ls']:=by
  refine ⟨fun r hr=>?_,Kq _ _,fun r hr c j hf hg=>?_,fun c j hg=>?_⟩
  ·rw [YH.1 hr]
   exact .inr ⟨g,len,cap,cs',e,rfl,setRow_heap w g cs cs' e (0,0) hb,hle,YD.trans hcap,hl,hls.mono hA⟩
  ·rw [YH.1 hr] at hf
   exact hh.prot _ hmem c j hf hg
  ·have:=hh.lt c j hg
   simpa [World.setRow] using this
 exact ZW.frame (h:=[.row (.slice (some ⟨g,0,none⟩) len cap) k ls]) (k:=h2) hh e1 e2
theorem Za4 {w:World} {G:ZE} {h:List Res} {k:Nat} (hh:ZW w G h):ZW w G (.row (.slice none 0 0) k []::h)/\Yr w G h w G (.row (.slice none 0 0) k []::h):=
 ⟨⟨fun r hr=>by
   rcases Yw.1 hr with rfl|hr
   ·exact .inl ⟨rfl,rfl⟩
   ·exact hh.ok r hr,Vm.2 ⟨fun _ _ _ _ hf=>hf.elim,hh.apart⟩,fun r hr b o hf hg=>by
   rcases Yw.1 hr with rfl|hr
   ·exact hf.elim
   ·exact hh.prot r hr b o hf hg,hh.lt⟩,
  ⟨rfl,rfl,rfl,YX _,fun _ _ h=>h,fun _ _=>.inl rfl,fun _ _ _ h=>.inl h,fun b o _ ⟨r,hr,hf⟩=>by
   rcases Yw.1 hr with rfl|hr
   ·exact hf.elim
   ·exact ⟨r,hr,hf⟩⟩⟩
theorem KR.form {w:World} {G:ZE} {v:Value} {k:Nat} {ls:List AV} (h:KR w G v k ls):∃a len cap,v=.slice a len cap/\ls.length=len*k:=by
 rcases h with ⟨rfl,rfl⟩|⟨g,len,cap,cur,e,rfl,_,_,_,h4,_⟩
 ·exact ⟨none,0,0,rfl,by simp⟩
 ·exact ⟨_,len,cap,rfl,h4⟩
theorem Ia {w:World} {G:ZE} {v:Value} {k:Nat} {es:List AV} {h2:List Res} (hh:ZW w G (.row v k (Zu es)::h2)) (hes:∀y∈es,y.leaves.length=k) (hk:0<k) :
  ∃G',ZW w G' (.tail v k::h2)/\Yr w G (.row v k (Zu es)::h2) w G' (.tail v k::h2)/\RV w G' (.sl es (some v)) v:=by
 have hpw:=Vm.1 hh.apart
 have hfl:=Tc es hes
 rcases hh.ok _ (YV ..) with ⟨rfl,h0⟩|⟨g,len,cap,cur,e,rfl,h1,h3,h4,h5,h6⟩
 ·have hes0:es=[]:=by
   cases es with
   | nil=>rfl
   | cons y r=>
    have h7:0<(r.length+1)*k:=Nat.mul_pos om hk
    rw [h0,XF] at hfl
    rw [<-hfl] at h7
    simp at h7
  subst hes0
  obtain ⟨k1,k2⟩:=Fj (sz:=k) (hh.sub (Dx _ _))
  refine ⟨G,k1,⟨rfl,rfl,rfl,YX _,fun _ _ h=>h,fun _ _=>.inl rfl,fun _ _ _ h=>.inl h,?_⟩,.nil (by simp)⟩
  rintro b o _ ⟨r,hr,hf⟩
  rcases Yw.1 hr with rfl|hr
  ·exact hf.elim
  ·exact ⟨r,Xv _ hr,hf⟩
 ·have hlen:len=es.length:=Lc hk (h5.symm.trans hfl)
  subst hlen
  let G':ZE:=fun b o=>G b o∨(b=g/\o<es.length*k)
  have hA:Vu G w w G':=⟨fun _ _ _=>rfl,fun _ _ h=>.inl h⟩
  have hmem:Res.row (.slice (some ⟨g,0,none⟩) es.length cap) k (Zu es)∈Res.row (.slice (some ⟨g,0,none⟩) es.length cap) k (Zu es)::h2:=YV ..
  refine ⟨G',⟨fun r hr=>?_,Vm.2 ⟨fun r hr b o f1 f2=>hpw.1 r hr b o f1.1 f2,hpw.2⟩,fun r hr b o hf hg=>?_,fun b o hg=>?_⟩,
   ⟨rfl,rfl,rfl,YX _,fun _ _ h=>.inl h,fun _ _=>.inl rfl,fun b o _ hg=>hg.imp id fun ⟨e1,_⟩=>⟨_,hmem,e1⟩,?_⟩,?_⟩
  ·rcases Yw.1 hr with rfl|hr
   ·exact .inr ⟨g,es.length,cap,cur,e,rfl,h1,h3,h4⟩
   ·exact (hh.ok r (Xv _ hr)).same hA
  ·rcases Yw.1 hr with rfl|hr2
   ·obtain ⟨hbg,hf2⟩:=hf
    rcases hg with hg|⟨_,hg⟩
    ·exact hh.prot _ hmem b o hbg hg
    ·omega
   ·rcases hg with hg|⟨hbg,_⟩
    ·exact hh.prot r (Xv _ hr2) b o hf hg
    ·exact hpw.1 r hr2 b o hbg hf
  ·rcases hg with hg|⟨rfl,_⟩
   ·exact hh.lt b o hg
   ·exact (VB.1 h1).1
  ·rintro b o _ ⟨r,hr,hf⟩
   rcases Yw.1 hr with rfl|hr
   ·exact ⟨_,hmem,hf.1⟩
   ·exact ⟨r,Xv _ hr,hf⟩
  ·refine .sl (k:=k) (fun x hx=>by cases hx;rfl) h3 (XN.of_flat es hes (Xi.of_cells (h6.mono hA) fun j u hj=>?_))
   have hjl:j<es.length*k:=by
    have:=(XZ.1 hj).1
    have h7:=h6.length
    omega
   rw [TN,Z6 hjl] at hj
   refine ⟨?_,.inr ⟨rfl,by omega⟩⟩
   rw [Vf,cell_of_row w g j cur e (0,0) h1]
   simpa using hj
section
variable {P:Program} {n:Nat} {ops:Array Oper} {B:Fr->List Res->Prop} {k:Nat} {F:Fr} {h h2:List Res}
theorem IT {k:Nat}:Q9 h (.row (.slice none 0 0) k []::h):=fun _ _ hh=>let ⟨a,b⟩:=Za4 hh;⟨_,a,b⟩
theorem Zcj (j:Nat) {v:Value} {kk m:Nat} {ls:List AV} (hl:JC P ops F k=some (.val v)) (hj:h[j]? = some (.row v kk ls)) (hm:ls.length=m*kk) (hk:0<kk):X8 P (Zj ops k) F h [] (.val (.int .i64 m)):=by
 unfold JC at hl
 generalize hoo:Zj ops k=o at hl
 obtain ⟨dst,op,type,pos,after,guard⟩:=o
 cases op<;>simp only at hl<;>try (cases hl)
 rename_i c
 obtain ⟨callee,args,tys⟩:=c
 simp only at hl
 split at hl
 ·rename_i x t hargs htys
  split at hl
  ·rename_i el hu
   simp only [Xo] at hl
   intro n w G a hF hh
   have hv:=hF.ev x
   rw [hl] at hv
   have hv:=hv.val_inv
   obtain ⟨ad,len,cap,rfl,hlen⟩:=KR.form (hh.ok _ (YA hj))
   have:len=m:=Lc hk (hlen.symm.trans hm)
   subst this
   have e1:args=#[x]:=by rw [<-VM (xs:=args),hargs]
   have e2:tys=#[t]:=by rw [<-VM (xs:=tys),htys]
   subst e1;subst e2
   exact ⟨_,.val,fun w' _ _=>by simp [execOp,resolve,invoke,builtin,hv,Builtin.len_,Vr hu,goInt]⟩
  ·cases hl
 ·cases hl
def HD (ops:Array Oper) (F:Fr) (k:Nat):Option (TypeId × AV):=
 match (Zj ops k).op with
 | .load t x=>some (t,F.ev x)
 | _=>none
theorem Zck (j:Nat) {g len cap kk o:Nat} {ls zs:List AV} {t:TypeId} {y:AV} (hl:HD ops F k=some (t,.val (.pointer (some ⟨g,o,none⟩)))) (hj:h[j]? = some (.row (.slice (some ⟨g,0,none⟩) len cap) kk ls))
  (hz:(ls.drop o).take zs.length=zs) (hy:JD P t zs=some y):X8 P (Zj ops k) F h [g] y:=by
 unfold HD at hl
 generalize hoo:Zj ops k=q at hl
 obtain ⟨dst,op,type,pos,after,guard⟩:=q
 cases op<;>simp only at hl<;>try (cases hl)
 rename_i t' x
 intro n w G a hF hh
 simp only [Xo,Prod.mk.injEq] at hl
 obtain ⟨rfl,hl⟩:=hl
 have hv:=hF.ev x
 rw [hl] at hv
 have hv:=hv.val_inv
 rcases hh.ok _ (YA hj) with ⟨h0,_⟩|⟨g',len',cap',cur,e,h0,h1,h2,h3,h4,h5⟩
 ·cases h0
 ·cases h0
  have hc:=(h5.drop o).take zs.length
  rw [hz] at hc
  obtain ⟨v,j1,j2⟩:=EZ (P:=P) (b:=g) (o:=o) hy hc
  refine ⟨v,j1,fun w' _ hw=>?_⟩
  have hrow:=hw g (by simp)
  rw [h1] at hrow
  simp only [execOp,hv]
  refine Vd ?_
  simp only [Instr.loadAt,Instr.sureAddr,Sem.run_bind,Sem.run_pure,Result.andThen_ok]
  refine j2 w' fun j u hj=>?_
  rw [cell_of_row w' g (o+j) cur e (0,0) hrow]
  rw [TN] at hj
  split at hj
  ·rw [Ca,TN] at hj
   split at hj
   ·simpa using hj
   ·cases hj
  ·cases hj
theorem P3 {K:Fr->List Res->Prop} {g len cap kk:Nat} {ls xs:List AV} {i:Nat} (hs:storeAt P ops F k=some (g,i,xs)) (hlt:i+xs.length<=ls.length)
  (hK:K F (.row (.slice (some ⟨g,0,none⟩) len cap) kk (ls.take i++xs++ls.drop (i+xs.length))::h2)):XU P n (Zj ops k) F (.row (.slice (some ⟨g,0,none⟩) len cap) kk ls::h2) K:=by
 unfold storeAt at hs
 generalize hoo:Zj ops k=q at hs
 obtain ⟨dst,op,type,pos,after,guard⟩:=q
 cases op<;>simp only at hs<;>try (cases hs)
 rename_i t x z
 split at hs
 ·rename_i b' o' inf hx hi
  split at hs
  ·rename_i hc
   simp only [Xs] at hc
   simp only [Xo,Prod.mk.injEq] at hs
   obtain ⟨rfl,rfl,hz⟩:=hs
   intro Q w G a hF hh
   have hvx:=hF.ev x
   rw [hx] at hvx
   have hvx:=hvx.val_inv
   have hvy:=hF.ev z
   have hcs:=hvy.cells hc.2.1
   rw [hz] at hcs hc
   have hone:=hcs.one_cells hc.2.2
   have YD:inf.size=xs.length:=U6 hc.1
   have hlen:(a.eval z).cells.size=xs.length:=by have:=hcs.length;simpa using this
   rcases hh.ok (.row (.slice (some ⟨b',0,none⟩) len cap) kk ls) (YV ..) with ⟨h0,_⟩|⟨g',len',cap',cur,e,h0,h1,h2',h3,h4,h5⟩
   ·cases h0
   ·cases h0
    have hlc:len*kk<=cap*kk:=Ce _ h2'
    have hst:=run_storeCells_at P b' o' e (a.eval z).cells.toList 0 cur w h1 (by simp [hlen];omega) hone
    simp only [Bi,KP] at hst
    have hr:(execOp a.eval { dst:=none,op:=.store t x z,type:=type,pos:=pos,after:=after,guard:=guard }).run P w =
      .ok .skip (w.setRow b' (cur.toList.take o'++(a.eval z).cells.toList++cur.toList.drop (o'+(a.eval z).cells.size)).toArray):=by
     simp only [execOp,hvx]
     simp [Instr.storeAt,Instr.sureAddr,storeVar,Q4 hi,hlen,YD,hst]
    unfold Oper.wp
    rw [hr]
    have hcl:(a.eval z).cells.toList.length=xs.length:=by simpa using hlen
    obtain ⟨j1,j2⟩:=hh.rwrite (ls':=ls.take o'++xs++ls.drop (o'+xs.length)) (cs':=(cur.toList.take o'++(a.eval z).cells.toList++cur.toList.drop (o'+(a.eval z).cells.size)).toArray) h1
     (by simp [hlen];omega) h2' h3 (by simp;omega) (by
      rw [Fy,hlen]
      have e1:(cur.toList.take o'++(a.eval z).cells.toList++cur.toList.drop (o'+xs.length)).take (len*kk) =
        (cur.toList.take (len*kk)).take o'++(a.eval z).cells.toList++(cur.toList.take (len*kk)).drop (o'+xs.length):=by
       have q1:(cur.toList.take o'++(a.eval z).cells.toList).length=o'+xs.length:=by simp [hlen];omega
       rw [List.take_append,q1,W2 om,List.take_take,AD om,List.drop_take]
      rw [e1]
      exact ((h5.take o').append hcs).append (h5.drop _))
    refine ⟨F,_,G,hK,?_,j1,j2⟩
    have:=hF.mono (j2.agree hh)
    simpa [Act.put] using this
  ·cases hs
 ·cases hs
theorem Z8v {K:Fr->List Res->Prop} {sz:Nat} (hd:V7 n (Zj ops k)=true) (ha:Q0 P ops F k=some ([],0,sz))
  (hK:∀g,K (F.put (Zj ops k).dst (.val (.slice (some ⟨g,0,none⟩) 0 0))) (.row (.slice (some ⟨g,0,none⟩) 0 0) sz []::h)):XU P n (Zj ops k) F h K:=by
 unfold Q0 at ha
 generalize hoo:Zj ops k=q at ha hd hK
 obtain ⟨dst,op,type,pos,after,guard⟩:=q
 cases op<;>simp only at ha<;>try (cases ha)
 rename_i t ln parts
 split at ha
 case h_2=>cases ha
 rename_i e ht
 split at ha
 case h_2=>cases ha
 rename_i i hi
 split at ha
 case h_2=>cases ha
 rename_i hc
 simp only [Xs] at hc
 split at ha
 case h_2=>cases ha
 rename_i ls' hf
 simp only [Xo,Prod.mk.injEq] at ha
 obtain ⟨rfl,rfl,YD⟩:=ha
 intro Q w G a hF hh
 obtain ⟨cs,h1,h2⟩:=Ig hF parts ht hi rfl hc.1 hc.2 hf
 have hr:(execOp a.eval { dst:=dst,op:=.buildSlice t 0 parts,type:=type,pos:=pos,after:=after,guard:=guard }).run P w =
   .ok (.value (.slice (some ⟨w.heap.size,0,none⟩) 0 0)) (w.alloc (.cells cs e)):=by
  simp only [execOp]
  exact Vd h2
 unfold Oper.wp
 rw [hr]
 have hlc:=h1.length
 simp only [KP] at hlc
 obtain ⟨j1,j2⟩:=hh.alloc_rrow cs e (ls:=[]) (len:=0) (cap:=0) (k:=sz) (YX _) (by simpa using hlc) (by simp) (by simpa using Y9.nil)
 exact ⟨_,_,G,hK _,(hF.mono (j2.agree hh)).put (UB hd) .val,j1,j2⟩
theorem Z8u {K:Fr->List Res->Prop} {g sz:Nat} {xs:List AV} {hx:Option Value} (hd:V7 n (Zj ops k)=true) (ha:QB P ops F k=some (.val (.slice (some ⟨g,0,none⟩) 0 0),.sl xs hx,sz))
  (hxs:∀y∈xs,y.leaves.length=sz) (hbound:xs.length<=1099511627776)
  (hK:∀v:Hd,K (F.put (Zj ops k).dst (.val v.v)) (.row v.v sz (Zu xs)::h2)):XU P n (Zj ops k) F (.row (.slice (some ⟨g,0,none⟩) 0 0) sz []::h2) K:=by
 unfold QB at ha
 generalize hoo:Zj ops k=o at ha hd hK
 obtain ⟨dst,op,type,pos,after,guard⟩:=o
 cases op<;>simp only at ha<;>try (cases ha)
 rename_i c
 obtain ⟨callee,args,tys⟩:=c
 simp only at ha
 split at ha
 case h_2=>cases ha
 rename_i s x t t' hargs htys
 split at ha
 case h_2=>cases ha
 rename_i e htt ht
 have:=U6 htt
 subst this
 split at ha
 case h_2=>cases ha
 rename_i i hinfo
 split at ha
 case h_2=>cases ha
 rename_i z hz
 split at ha
 case h_2=>cases ha
 rename_i hb
 simp only [Xs] at hb
 simp only [Xo,Prod.mk.injEq] at ha
 obtain ⟨h3,h4,hk1⟩:=ha
 have e1:args=#[s,x]:=by rw [<-VM (xs:=args),hargs]
 have e2:tys=#[t,t]:=by rw [<-VM (xs:=tys),htys]
 subst e1;subst e2
 have hzs:z.cells.size=sz:=by rw [U6 hb.1,hk1]
 have hby:=Ks hb.2
 intro Q w G a hF hh
 have v1:=hF.ev s
 have v2:=hF.ev x
 rw [h3] at v1
 rw [h4] at v2
 have v1:=v1.val_inv
 have v2:=v2.forget
 have finish:∀(v':Hd) w',(Builtin.append_ #[t,t] type #[.slice (some ⟨g,0,none⟩) 0 0,a.eval x]).run P w=.ok v'.v w'->ZW w' G (.row v'.v sz (Zu xs)::h2) ->
   Yr w G (.row (.slice (some ⟨g,0,none⟩) 0 0) sz []::h2) w' G (.row v'.v sz (Zu xs)::h2) ->
   ({ dst:=dst,op:=.call { callee:=.builtin .append,args:=#[s,x],argTypes:=#[t,t] },type:=type,pos:=pos,after:=after,guard:=guard }:Oper).wp P a w
    (fun a' w'=>∃F' h' G',K F' h'/\FR w' G' n F' a'/\ZW w' G' h'/\Yr w G (.row (.slice (some ⟨g,0,none⟩) 0 0) sz []::h2) w' G' h') Q:=by
  intro v' w' hr j1 j2
  have hrun:(execOp a.eval { dst:=dst,op:=.call { callee:=.builtin .append,args:=#[s,x],argTypes:=#[t,t] },type:=type,pos:=pos,after:=after,guard:=guard }).run P w=.ok (.value v'.v) w':=by
   simp only [execOp,resolve,invoke,builtin,Sem.run_bind,Sem.run_pure,Result.andThen_ok,Bg,Ww,QQ,v1,hr]
  unfold Oper.wp
  rw [hrun]
  exact ⟨_,_,G,hK v',(hF.mono (j2.agree hh)).put (UB hd) .val,j1,j2⟩
 by_cases hxe:xs=[]
 ·subst hxe
  cases v2q:a.eval x with
  | slice ad' l' c'=>
   rw [v2q] at v2
   cases v2<;>exact finish ⟨some ⟨g,0,none⟩,0,0⟩ _ (by rw [v2q];exact BZ ht hinfo (YX _) w) hh (Yr.refl w G _)
  | _=>rw [v2q] at v2;cases v2
 ·generalize hax:a.eval x=ax at v2 finish
  cases v2 with
  | nil _=>exact absurd rfl hxe
  | sl hq hcc hm=>
   rename_i b o' k' c
   have hpos:0<xs.length:=Fw.2 hxe
   have hfm:=hm.flat_mem
   obtain ⟨news,hn,hnc⟩:=hfm.cells
   have hfl:=Tc xs hxs
   have hnl:news.length=xs.length*i.size:=by rw [hn.length,hfl,hk1]
   have hnews:∀j u,news[j]? = some u->w.cell? ((⟨b,o',none⟩:Addr).add j)=some u:=fun j u hj=>by rw [Ji];exact (hnc j u hj).1
   have hbb:(0+xs.length)*i.bytes<=140737488355328:=by
    have:=Nat.mul_le_mul hbound hby
    rw [Vf]
    omega
   have hr:=run_append_grow (P:=P) w t type e i z ht hinfo hz ⟨g,0,none⟩ 0 0 [] (by simp) (fun j u hj=>by simp at hj) ⟨b,o',none⟩ xs.length c news hnl hnews om om (growslice_fits om hbb)
   simp only [Vf] at hr
   have hge:=grownCap_ge w xs.length 0 e
   obtain ⟨j1,j2⟩:=hh.drew.alloc_rrow ([].toArray++news.toArray++Builtin.zeroCells z.cells (grownCap w xs.length 0 e-xs.length)) e
    (ls:=Zu xs) (len:=xs.length) (cap:=grownCap w xs.length 0 e) (k:=sz) hge
    (by
     have q2:(grownCap w xs.length 0 e-xs.length)*sz=grownCap w xs.length 0 e*sz-xs.length*sz:=Nat.sub_mul ..
     have q3:xs.length*sz<=grownCap w xs.length 0 e*sz:=Ce _ hge
     simp only [Array.size_append,La,size_zeroCells,hzs,Vt,Vf,hnl,hk1]
     omega) hfl
    (by
     have q1:([].toArray++news.toArray++Builtin.zeroCells z.cells (grownCap w xs.length 0 e-xs.length)).toList.take (xs.length*sz)=news:=by
      simp only [Ds,Dw]
      rw [<-hk1,<-hnl]
      exact Cd
     rw [q1]
     exact hn.mono (AJ w G))
   have hs:List.Sublist (.row (.slice (some ⟨w.drew.heap.size,0,none⟩) xs.length (grownCap w xs.length 0 e)) sz (Zu xs)::h2)
     (.row (.slice (some ⟨w.drew.heap.size,0,none⟩) xs.length (grownCap w xs.length 0 e)) sz (Zu xs)::.row (.slice (some ⟨g,0,none⟩) 0 0) sz []::h2):=List.Sublist.cons_cons _ (Dx _ _)
   exact finish ⟨some ⟨w.heap.size,0,none⟩,xs.length,grownCap w xs.length 0 e⟩ _ hr (j1.sub hs) ((Yr.drew w G _).trans (j2.sub' hs))
def HI (P:Program) (ops:Array Oper) (F:Fr) (k:Nat):Option (Int × Int × List AV):=
 match (Zj ops k).op with
 | .makeSlice t l c=>match P.underlying t with
  | some (.slice e)=>match P.info? e with
   | some i=>match i.zero with
    | some z=>match Nat.beq i.size z.cells.toList.length&&Nat.ble i.bytes 32768,F.ev l,F.ev c with
     | true,.val (.int _ l),.val (.int _ c)=>some (l,c,z.cells.toList.map AV.ofVal)
     | _,_,_=>none
    | none=>none
   | none=>none
  | _=>none
 | _=>none
theorem Oy (zs:List Value) (hz:0<zs.length):∀n:Nat,(madeCells zs.toArray (n*zs.length)).toList=(List.replicate n zs).flatten
 | 0=>by simp [madeCells]
 | n+1=>by
  have ih:=Oy zs hz n
  have hlen:∀m,(madeCells zs.toArray m).toList.length=m:=fun m=>by simp [madeCells]
  have hget:∀m i,i<m->(madeCells zs.toArray m).toList[i]? = some (zs.toArray[i % zs.toArray.size]!):=fun m i hi=>by simp [madeCells,hi]
  rw [List.replicate_succ',List.flatten_append,<-ih]
  apply List.ext_getElem?
  intro i
  simp only [List.flatten_cons,List.flatten_nil,AA]
  by_cases h1:i<n*zs.length
  ·rw [Du (by rw [hlen];exact h1),hget _ i h1,hget _ i (by rw [Qw];omega)]
  ·rw [C9 (by rw [hlen];omega),hlen]
   by_cases h2:i<(n+1)*zs.length
   ·rw [hget _ i h2]
    rw [Qw] at h2
    have e:i=(i-n*zs.length)+zs.length*n:=by rw [Nat.mul_comm zs.length n];omega
    have e2:i % zs.length=i-n*zs.length:=by
     conv=>lhs;rw [e,Nat.add_mul_mod_self_left]
     exact Nat.mod_eq_of_lt om
    have h3:i-n*zs.length<zs.length:=by omega
    simp [e2,h3]
   ·rw [Fv (by rw [hlen];omega),Fv (by rw [Qw] at h2;omega)]
theorem Pj {w:World} {G:ZE} {xs:List AV} {vs:List Value} (h:Y9 w G xs vs):∀n,Y9 w G (List.replicate n xs).flatten (List.replicate n vs).flatten
 | 0=>by simpa using Y9.nil
 | n+1=>by simp only [Bh,List.flatten_cons];exact h.append (Pj h n)
theorem Pi {w:World} {G:ZE}:∀vs:List Value,Y9 w G (vs.map AV.ofVal) vs
 | []=>.nil
 | v::r=>.cons (RV.ofVal v) (Pi r)
theorem Z8w {K:Fr->List Res->Prop} {l:Nat} {zs:List AV} (hd:V7 n (Zj ops k)=true) (hm:HI P ops F k=some ((l:Int),(l:Int),zs)) (hl:l<=4294967296) (hz:0<zs.length)
  (hK:∀g,K (F.put (Zj ops k).dst (.val (.slice (some ⟨g,0,none⟩) l l))) (.row (.slice (some ⟨g,0,none⟩) l l) zs.length (List.replicate l zs).flatten::h)):XU P n (Zj ops k) F h K:=by
 unfold HI at hm
 generalize hoo:Zj ops k=o at hm hd hK
 obtain ⟨dst,op,type,pos,after,guard⟩:=o
 cases op<;>simp only at hm<;>try (cases hm)
 rename_i t lo co
 split at hm
 case h_2=>cases hm
 rename_i e ht
 split at hm
 case h_2=>cases hm
 rename_i i hi
 split at hm
 case h_2=>cases hm
 rename_i z hzz
 split at hm
 case h_2=>cases hm
 rename_i k1 l' k2 c' hb hlo hco
 simp only [Xs] at hb
 simp only [Xo,Prod.mk.injEq] at hm
 obtain ⟨rfl,rfl,rfl⟩:=hm
 intro Q w G a hF hh
 have v1:=hF.ev lo
 have v2:=hF.ev co
 rw [hlo] at v1
 rw [hco] at v2
 have v1:=v1.val_inv
 have v2:=v2.val_inv
 have hs:=U6 hb.1
 have hbytes:=Ks hb.2
 have hr:=run_make (P:=P) w t e i z ht hi hzz k1 k2 (l:Int) (l:Int) om om (by
  have h1:(i.bytes:Int)<=32768:=by omega
  have h2:(i.bytes:Int)*(l:Int)<=32768*(l:Int):=Int.mul_le_mul_of_nonneg_right h1 om
  omega) om
 have hzl:(z.cells.toList.map AV.ofVal).length=z.cells.toList.length:=by simp
 have hr2:(execOp a.eval { dst:=dst,op:=.makeSlice t lo co,type:=type,pos:=pos,after:=after,guard:=guard }).run P w =
   .ok (.value (.slice (some ⟨w.heap.size,0,none⟩) l l)) (w.alloc (.cells (madeCells z.cells (l*i.size)) e)):=by
  simp only [execOp,v1,v2]
  simpa using Vd hr
 unfold Oper.wp
 rw [hr2]
 have hmc:(madeCells z.cells (l*i.size)).toList=(List.replicate l z.cells.toList).flatten:=by
  rw [hs,<-Oy _ (by rw [hzl] at hz;exact hz) l]
 rw [hzl] at hK
 obtain ⟨j1,j2⟩:=hh.alloc_rrow (madeCells z.cells (l*i.size)) e (ls:=(List.replicate l (z.cells.toList.map AV.ofVal)).flatten) (len:=l) (cap:=l) (k:=z.cells.toList.length) (YX _)
  (by rw [size_madeCells,hs]) (by simp) (by
   rw [hmc,W2 (by simp)]
   exact Pj (Pi _) l)
 exact ⟨_,_,G,hK _,(hF.mono (j2.agree hh)).put (UB hd) .val,j1,j2⟩
theorem Za3 {w:World} {G:ZE} {v:Hd} {kk m:Nat} {ls:List AV} (h:KR w G v.v kk ls) (hm:ls.length=m*kk) (hk:0<kk) (h0:0<m):∃g c,v=⟨some ⟨g,0,none⟩,m,c⟩:=by
 obtain ⟨a,l,c⟩:=v
 rcases h with ⟨h1,h2⟩|⟨g,len,cap,cur,e,h1,h2,h3,h4,h5,h6⟩
 ·subst h2
  have:=Nat.mul_pos h0 hk
  rw [Vt] at hm
  omega
 ·cases h1
  have:l=m:=Lc hk (h5.symm.trans hm)
  subst this
  exact ⟨g,c,rfl⟩
theorem Sm (j m:Nat) {v:Hd} {kk:Nat} {ls:List AV} {c:Code} {A:Wz} (hj:h[j]? = some (.row v.v kk ls)) (hm:ls.length=m*kk) (hk:0<kk) (h0:0<m)
  (H:∀g c',v=⟨some ⟨g,0,none⟩,m,c'⟩->ZY P n c A F h):ZY P n c A F h:=by
 intro w G a hF hh
 obtain ⟨g,c',e⟩:=Za3 (hh.ok _ (YA hj)) hm hk h0
 exact H g c' e w G a hF hh
theorem Sl (t j:Nat) {v:Hd} {kk:Nat} {es:List AV} {c:Code} {A:Wz} (hF':F.get t=.h v) (hp:Wo [j] h=some [.row v.v kk (Zu es)]) (hes:∀y∈es,y.leaves.length=kk) (hk:0<kk)
  (H:ZY P n c A ((t,.sl es (some v.v))::F) (.tail v.v kk::XH [j] h)):ZY P n c A F h:=by
 intro w G a hF hh
 have hp':=Ue (Vp hp)
 obtain ⟨G',h1,h2',h3⟩:=Ia (hh.perm hp') hes hk
 have e:=h2'.perm hp'.symm (Km _)
 have hF2:=hF.mono (e.agree hh)
 have hv:=hF2.get t
 rw [hF'] at hv
 have hv:=hv.val_inv
 refine wp_mono (H w G' a ⟨hF2.defers,hF2.size,fun s=>?_⟩ h1) fun e' a' w' hc=>hc.trans e
 show RV w G' (match Nat.beq t s with|true=>_|false=>Fr.get F s) _
 cases hb:Nat.beq t s with
 | true=>
  have:=U6 hb
  subst this
  rw [hv]
  exact h3
 | false=>exact hF2.get s
theorem Zdn (j i p:Nat) {u v:Value} {kk kv:Nat} {es ls:List AV} (hp:Wo [j,i] h=some [.row u kk (Zu es),.row v kv ls]) (hes:∀y∈es,y.leaves.length=kk) (hk:0<kk) (hl:ls[p]? = some (.val u)) :
  Q9 h (.row v kv (ls.set p (.sl es (some u)))::.tail u kk::XH [j,i] h):=by
 intro w G hh
 have hp':=Ue (Vp hp)
 have hh':=hh.perm hp'
 obtain ⟨G',h1,h2',h3⟩:=Ia (h2:=.row v kv ls::XH [j,i] h) hh' hes hk
 have e:=h2'.perm hp'.symm (Km _)
 have h1:ZW w G' (.tail u kk::.row v kv ls::XH [j,i] h):=h1
 have perm:(Res.tail u kk::.row v kv ls::XH [j,i] h).Perm (.row v kv ls::.tail u kk::XH [j,i] h):=List.Perm.swap ..
 have h4:=h1.perm perm
 have e4:=e.perm (Km _) perm
 have hset:∀{w:World} {G:ZE},RV w G (.sl es (some u)) u->KR w G v kv ls->KR w G v kv (ls.set p (.sl es (some u))):=by
  intro w G hu hr
  rcases hr with ⟨rfl,h0⟩|⟨g,len,cap,cur,el,rfl,k1,k2,k3,k4,k5⟩
  ·exact .inl ⟨rfl,by rw [h0];rfl⟩
  ·refine .inr ⟨g,len,cap,cur,el,rfl,k1,k2,k3,by rw [Qv];exact k4,?_⟩
   obtain ⟨c,c1,c2⟩:=k5.get p _ hl
   have:=c2.val_inv
   subst this
   have h6:=k5.set p hu
   rwa [show (cur.toList.take (len*kv)).set p c=cur.toList.take (len*kv) from by
    apply List.ext_getElem?
    intro q
    rw [List.getElem?_set]
    split
    ·rename_i hq;subst hq;split
     ·exact c1.symm
     ·rename_i hq2;rw [Fv om]
    ·rfl] at h6
 refine ⟨G',⟨fun r hr=>?_,?_,fun r hr=>?_,h4.lt⟩,⟨e4.os,e4.tape,e4.output,e4.size,e4.sub,e4.same,e4.newG,fun b o hb ⟨r,hr,hf⟩=>e4.newfp b o hb ?_⟩⟩
 ·rcases Yw.1 hr with rfl|hr
  ·exact hset h3 (h4.ok _ (YV ..))
  ·exact h4.ok r (Xv _ hr)
 ·have:=Vm.1 h4.apart
  refine Vm.2 ⟨fun r hr b o f1 f2=>this.1 r hr b o ?_ f2,this.2⟩
  cases v with
  | slice a _ _=>cases a with
   | none=>exact f1.elim
   | some a=>exact f1
  | _=>exact f1.elim
 ·rcases Yw.1 hr with rfl|hr
  ·intro b o f1 hg
   refine h4.prot (.row v kv ls) (YV ..) b o ?_ hg
   cases v with
   | slice a _ _=>cases a with
    | none=>exact f1.elim
    | some a=>exact f1
   | _=>exact f1.elim
  ·exact h4.prot r (Xv _ hr)
 ·rcases Yw.1 hr with rfl|hr
  ·refine ⟨.row v kv ls,YV ..,?_⟩
   cases v with
   | slice a _ _=>cases a with
    | none=>exact hf.elim
    | some a=>exact hf
   | _=>exact hf.elim
  ·exact ⟨r,Xv _ hr,hf⟩
def Qd:List Res->Option (List (Value × Nat))
 | []=>some []
 | .tail v k::r=>(Qd r).map ((v,k)::·)
 | .many ts::r=>(Qd r).map (ts++·)
 | _=>none
theorem AL {b o:Nat}:∀{hs:List Res} {L:List (Value × Nat)},Qd hs=some L->((∃p∈L,B8 p.1 p.2 b o)↔Wb hs b o)
 | [],L,h=>by cases h;simp [Wb]
 | .tail v k::r,L,h=>by
  rw [Qd] at h
  cases hr:Qd r with
  | none=>rw [hr] at h;cases h
  | some L'=>
   rw [hr] at h
   cases h
   have ih:=AL (b:=b) (o:=o) hr
   have ht:Res.fp (.tail v k) b o↔B8 v k b o:=by
    cases v with
    | slice a _ _=>cases a<;>exact Iff.rfl
    | _=>exact Iff.rfl
   simp only [Wb,Yw,exists_eq_or_imp] at ih ⊢
   rw [ht,ih]
 | .many ts::r,L,h=>by
  rw [Qd] at h
  cases hr:Qd r with
  | none=>rw [hr] at h;cases h
  | some L'=>
   rw [hr] at h
   cases h
   have ih:=AL (b:=b) (o:=o) hr
   simp only [Wb,Yw,exists_eq_or_imp] at ih ⊢
   rw [<-ih]
   simp only [Yv,Res.fp]
   constructor
   ·rintro ⟨p,hp|hp,hf⟩
    ·exact .inl ⟨p,hp,hf⟩
    ·exact .inr ⟨p,hp,hf⟩
   ·rintro (⟨p,hp,hf⟩|⟨p,hp,hf⟩)
    ·exact ⟨p,.inl hp,hf⟩
    ·exact ⟨p,.inr hp,hf⟩
 | .obj _ _::_,_,h=>by cases h
 | .ge _::_,_,h=>by cases h
 | .vec _ _::_,_,h=>by cases h
 | .own _ _::_,_,h=>by cases h
 | .row _ _ _::_,_,h=>by cases h
 | .mp _ _::_,_,h=>by cases h
theorem G7 {w:World} {G:ZE}:∀{hs:List Res} {L:List (Value × Nat)},Qd hs=some L->(∀r∈hs,Ux w G r)->hs.Pairwise Je->Ux w G (.many L)
 | [],L,h,_,_=>by cases h;exact ⟨by simp,.nil⟩
 | .tail v k::r,L,h,h1,h2=>by
  rw [Qd] at h
  cases hr:Qd r with
  | none=>rw [hr] at h;cases h
  | some L'=>
   rw [hr] at h
   cases h
   have hpw:=Vm.1 h2
   obtain ⟨i1,i2⟩:=G7 (w:=w) (G:=G) hr (fun q hq=>h1 q (Xv _ hq)) hpw.2
   refine ⟨fun p hp=>?_,Vm.2 ⟨fun p hp b o f1 f2=>?_,i2⟩⟩
   ·rcases Yw.1 hp with rfl|hp
    ·exact h1 (.tail v k) (YV ..)
    ·exact i1 p hp
   ·obtain ⟨q,hq,hf⟩:=(AL hr).1 ⟨p,hp,f2⟩
    refine hpw.1 q hq b o ?_ hf
    cases v with
    | slice a _ _=>cases a<;>exact f1
    | _=>exact f1
 | .many ts::r,L,h,h1,h2=>by
  rw [Qd] at h
  cases hr:Qd r with
  | none=>rw [hr] at h;cases h
  | some L'=>
   rw [hr] at h
   cases h
   have hpw:=Vm.1 h2
   obtain ⟨i1,i2⟩:=G7 (w:=w) (G:=G) hr (fun q hq=>h1 q (Xv _ hq)) hpw.2
   obtain ⟨t1,t2⟩:=h1 (.many ts) (YV ..)
   refine ⟨fun p hp=>?_,KQ.2 ⟨t2,i2,fun p hp q hq b o f1 f2=>?_⟩⟩
   ·rcases Yv.1 hp with hp|hp
    ·exact t1 p hp
    ·exact i1 p hp
   ·obtain ⟨s,hs,hf⟩:=(AL hr).1 ⟨q,hq,f2⟩
    exact hpw.1 s hs b o ⟨p,hp,f1⟩ hf
 | .obj _ _::_,_,h,_,_=>by cases h
 | .ge _::_,_,h,_,_=>by cases h
 | .vec _ _::_,_,h,_,_=>by cases h
 | .own _ _::_,_,h,_,_=>by cases h
 | .row _ _ _::_,_,h,_,_=>by cases h
 | .mp _ _::_,_,h,_,_=>by cases h
theorem Zdm (is:List Nat) {L:List (Value × Nat)} {hs:List Res} (hp:Wo is h=some hs) (hb:Qd hs=some L):Q9 h (.many L::XH is h):=by
 intro w G hh
 have hp':=Ue (Vp hp)
 have hh':=hh.perm hp'
 have hpw:=KQ.1 hh'.apart
 have hmany:=G7 (w:=w) (G:=G) hb (fun r hr=>hh'.ok r (Yv.2 (.inl hr))) hpw.1
 refine ⟨G,⟨fun r hr=>?_,Vm.2 ⟨fun r hr b o f1 f2=>?_,hpw.2.1⟩,fun r hr b o hf hg=>?_,hh'.lt⟩,
  ⟨rfl,rfl,rfl,YX _,fun _ _ h=>h,fun _ _=>.inl rfl,fun _ _ _ h=>.inl h,fun b o _ ⟨r,hr,hf⟩=>?_⟩⟩
 ·rcases Yw.1 hr with rfl|hr
  ·exact hmany
  ·exact hh'.ok r (Yv.2 (.inr hr))
 ·exact hh'.cross ((AL hb).1 f1) ⟨r,hr,f2⟩
 ·rcases Yw.1 hr with rfl|hr
  ·obtain ⟨q,hq,hf⟩:=(AL hb).1 hf
   exact hh'.prot q (Yv.2 (.inl hq)) b o hf hg
  ·exact hh'.prot r (Yv.2 (.inr hr)) b o hf hg
 ·refine (A7 hp').2 ?_
  rcases Yw.1 hr with rfl|hr
  ·exact J0.2 (.inl ((AL hb).1 hf))
  ·exact J0.2 (.inr ⟨r,hr,hf⟩)
end
end Go.Abs
section
namespace Go.Abs
structure X0 where
 fields:LI
 fv:Value
structure YM where
 frm:Int
 to_:Int
 cons:List X0
 cv:Value
mutual
inductive ZU where
 | mk (op num into:Int) (args:LI) (av:Value) (kids:List ZS) (kv:Value)
inductive ZS where
 | mk (steps:List ZU) (sv:Value) (result:Int)
end
namespace ZU
def op:ZU->Int|.mk a _ _ _ _ _ _=>a
def num:ZU->Int|.mk _ a _ _ _ _ _=>a
def into:ZU->Int|.mk _ _ a _ _ _ _=>a
def args:ZU->LI|.mk _ _ _ a _ _ _=>a
def av:ZU->Value|.mk _ _ _ _ a _ _=>a
def kids:ZU->List ZS|.mk _ _ _ _ _ a _=>a
def kv:ZU->Value|.mk _ _ _ _ _ _ a=>a
end ZU
namespace ZS
def steps:ZS->List ZU|.mk a _ _=>a
def sv:ZS->Value|.mk _ a _=>a
def result:ZS->Int|.mk _ _ a=>a
end ZS
structure YN where
 params:LI
 pv:Value
 lent:LI
 lv:Value
 result:Int
 body:ZS
structure X4 where
 decls:List YM
 dv:Value
 routines:List YN
 rv:Value
abbrev Ad (c:X0):List AV:=[ZV c.fields c.fv]
abbrev FA (c:X0):AV:=.agg (Ad c)
def Wn (cs:List X0):List AV:=cs.map FA
abbrev JG (xs:List X0) (v:Value):AV:=.sl (Wn xs) (some v)
abbrev Ae (d:YM):List AV:=[.i d.frm,.i d.to_,JG d.cons d.cv]
abbrev FB (d:YM):AV:=.agg (Ae d)
def XR (ds:List YM):List AV:=ds.map FB
abbrev Kb (xs:List YM) (v:Value):AV:=.sl (XR xs) (some v)
mutual
def GJ:ZU->AV
 | .mk op num into args av kids kv=>.agg [.i op,.i num,.i into,ZV args av,.sl (V2 kids) (some kv)]
def GF:ZS->AV
 | .mk steps sv result=>.agg [.sl (WA steps) (some sv),.i result]
def WA:List ZU->List AV
 | []=>[]
 | s::ss=>GJ s::WA ss
def V2:List ZS->List AV
 | []=>[]
 | b::bs=>GF b::V2 bs
end
abbrev U3 (xs:List ZU) (v:Value):AV:=.sl (WA xs) (some v)
abbrev TJ (xs:List ZS) (v:Value):AV:=.sl (V2 xs) (some v)
abbrev Ag (s:ZU):List AV:=[.i s.op,.i s.num,.i s.into,ZV s.args s.av,TJ s.kids s.kv]
abbrev Tw (s:ZU):AV:=.agg (Ag s)
abbrev JB (b:ZS):List AV:=[U3 b.steps b.sv,.i b.result]
abbrev Tk (b:ZS):AV:=.agg (JB b)
abbrev Af (r:YN):List AV:=[ZV r.params r.pv,ZV r.lent r.lv,.i r.result,U3 r.body.steps r.body.sv,.i r.body.result]
abbrev FC (r:YN):AV:=.agg (Af r)
def V3 (rs:List YN):List AV:=rs.map FC
abbrev Z85 (xs:List YN):AV:=.sl (V3 xs) none
abbrev JH (xs:List YN) (v:Value):AV:=.sl (V3 xs) (some v)
abbrev BR (n:X4):List AV:=[Kb n.decls n.dv,JH n.routines n.rv]
abbrev VE (n:X4):AV:=.agg (BR n)
theorem E5 (s:ZU):GJ s=Tw s:=by cases s;rw [GJ];rfl
theorem E3 (b:ZS):GF b=Tk b:=by cases b;rw [GF];rfl
theorem A6:∀xs:List ZU,WA xs=xs.map Tw
 | []=>by rw [WA];rfl
 | s::ss=>by rw [WA,A6 ss,E5];rfl
theorem BB:∀xs:List ZS,V2 xs=xs.map Tk
 | []=>by rw [V2];rfl
 | b::bs=>by rw [V2,BB bs,E3];rfl
@[simp] theorem Z2o (xs:List X0):(Wn xs).length=xs.length:=by simp [Wn]
theorem ML (xs ys:List X0):Wn (xs++ys)=Wn xs++Wn ys:=by simp [Wn]
theorem GH (xs:List X0):∀y∈Wn xs,y.leaves.length=1:=by intro y hy;simp only [Wn,Xb] at hy;obtain ⟨x,_,rfl⟩:=hy;rfl
@[simp] theorem Z2p (xs:List YM):(XR xs).length=xs.length:=by simp [XR]
theorem MM (xs ys:List YM):XR (xs++ys)=XR xs++XR ys:=by simp [XR]
theorem GI (xs:List YM):∀y∈XR xs,y.leaves.length=3:=by intro y hy;simp only [XR,Xb] at hy;obtain ⟨x,_,rfl⟩:=hy;rfl
@[simp] theorem MO (xs:List ZU):(WA xs).length=xs.length:=by simp [A6]
theorem E6 (xs ys:List ZU):WA (xs++ys)=WA xs++WA ys:=by simp [A6]
theorem Cu (xs:List ZU):∀y∈WA xs,y.leaves.length=5:=by intro y hy;simp only [A6,Xb] at hy;obtain ⟨x,_,rfl⟩:=hy;rfl
@[simp] theorem Z2n (xs:List ZS):(V2 xs).length=xs.length:=by simp [BB]
theorem MK (xs ys:List ZS):V2 (xs++ys)=V2 xs++V2 ys:=by simp [BB]
theorem GG (xs:List ZS):∀y∈V2 xs,y.leaves.length=2:=by intro y hy;simp only [BB,Xb] at hy;obtain ⟨x,_,rfl⟩:=hy;rfl
@[simp] theorem Z2q (xs:List YN):(V3 xs).length=xs.length:=by simp [V3]
theorem MN (xs ys:List YN):V3 (xs++ys)=V3 xs++V3 ys:=by simp [V3]
theorem E4 (xs:List YN):∀y∈V3 xs,y.leaves.length=5:=by intro y hy;simp only [V3,Xb] at hy;obtain ⟨x,_,rfl⟩:=hy;rfl
theorem Z2r (xs:List YN):(Zu (V3 xs)).all AV.one=true:=KB fun y hy=>by simp only [V3,Xb] at hy;obtain ⟨x,_,rfl⟩:=hy;rfl
def Wd (c:X0):List (Value × Nat):=[(c.fv,1)]
def X5 (cs:List X0):List (Value × Nat):=cs.flatMap Wd
def We (d:YM):List (Value × Nat):=X5 d.cons++[(d.cv,1)]
def YZ (ds:List YM):List (Value × Nat):=ds.flatMap We
mutual
def Xt:ZU->List (Value × Nat)
 | .mk _ _ _ _ av kids kv=>(av,1)::(YP kids++[(kv,2)])
def YS:ZS->List (Value × Nat)
 | .mk steps sv _=>Yx steps++[(sv,5)]
def Yx:List ZU->List (Value × Nat)
 | []=>[]
 | s::r=>Xt s++Yx r
def YP:List ZS->List (Value × Nat)
 | []=>[]
 | b::r=>YS b++YP r
end
def Wf (r:YN):List (Value × Nat):=(r.pv,1)::(r.lv,1)::YS r.body
def X2 (rs:List YN):List (Value × Nat):=rs.flatMap Wf
def Xe (n:X4):List (Value × Nat):=YZ n.decls++((n.dv,3)::(X2 n.routines++[(n.rv,5)]))
theorem Ei (b:ZS):YS b=Yx b.steps++[(b.sv,5)]:=by cases b;rw [YS];rfl
theorem WN:∀(xs:List ZU) (ys:List ZU),Yx (xs++ys)=Yx xs++Yx ys
 | [],ys=>by simp [Yx]
 | x::r,ys=>by rw [Kn,Yx,Yx,WN r ys,VW]
theorem WM:∀(xs:List ZS) (ys:List ZS),YP (xs++ys)=YP xs++YP ys
 | [],ys=>by simp [YP]
 | x::r,ys=>by rw [Kn,YP,YP,WM r ys,VW]
theorem WY:Yx []=[]:=by rw [Yx]
theorem WU:YP []=[]:=by rw [YP]
theorem WV (xs ys:List X0):X5 (xs++ys)=X5 xs++X5 ys:=by simp [X5]
theorem WW (xs ys:List YM):YZ (xs++ys)=YZ xs++YZ ys:=by simp [YZ]
theorem WX (xs ys:List YN):X2 (xs++ys)=X2 xs++X2 ys:=by simp [X2]
def X0.er (c:X0):Xp:=⟨c.fields⟩
def YM.er (d:YM):Zs:=⟨d.frm,d.to_,d.cons.map X0.er⟩
mutual
def ZU.er:ZU->Z8
 | .mk op num into args _ kids _=>.mk op num into args (TB kids)
def ZS.er:ZS->Zh
 | .mk steps _ result=>.mk (WB steps) result
def WB:List ZU->List Z8
 | []=>[]
 | s::r=>s.er::WB r
def TB:List ZS->List Zh
 | []=>[]
 | b::r=>b.er::TB r
end
def YN.er (r:YN):YB:=⟨r.params,r.lent,r.result,r.body.er⟩
def X4.er (n:X4):Zl:=⟨n.decls.map YM.er,n.routines.map YN.er⟩
theorem Cz:∀xs:List ZU,WB xs=xs.map ZU.er
 | []=>by rw [WB];rfl
 | x::r=>by rw [WB,Cz r];rfl
theorem Ea:∀xs:List ZS,TB xs=xs.map ZS.er
 | []=>by rw [TB];rfl
 | x::r=>by rw [TB,Ea r];rfl
inductive UX:List AV->List AV->Prop
 | nil:UX [] []
 | cons {x y:AV} {xs ys:List AV} (hl:x.leaves.length=y.leaves.length) (h:VD x.leaves y.leaves) (t:UX xs ys):UX (x::xs) (y::ys)
theorem UX.length:∀{xs ys:List AV},UX xs ys->xs.length=ys.length
 | _,_,.nil=>rfl
 | _,_,.cons _ _ t=>by simp [t.length]
theorem UX.els {w:World} {G:ZE} {k b:Nat}:∀{o:Nat} {xs ys:List AV},UX xs ys->XN w G k b o xs->XN w G k b o ys
 | _,_,_,.nil,_=>.nil
 | _,_,_,.cons hl h t,.cons hk hm r=>.cons (hl▸hk) (h.mem hm) (t.els r)
theorem Zk.els {es es':List AV} (hv:Option Value) (h:UX es es'):Zk (.sl es hv) (.sl es' none):=by
 intro w G v hr
 cases hr with
 | nil _=>cases h;exact .nil (by simp)
 | sl _ hc hm=>rw [h.length] at hc ⊢;exact .sl (by simp) hc (h.els hm)
theorem UX.map {α β:Type} {f:α->AV} {g:β->AV} {e:α->β} (h:∀x,(f x).leaves.length=(g (e x)).leaves.length/\VD (f x).leaves (g (e x)).leaves):∀xs:List α,UX (xs.map f) ((xs.map e).map g)
 | []=>.nil
 | x::r=>.cons (h x).1 (h x).2 (UX.map h r)
theorem Z7n (c:X0):VD (Ad c) (KH c.er):=.cons (Zk.forget _ _) .nil
theorem Z3f (cs:List X0):UX (Wn cs) (Wa (cs.map X0.er)):=UX.map (f:=FA) (g:=KS) (e:=X0.er) (fun c=>⟨rfl,Z7n c⟩) cs
theorem Z7o (d:YM):VD (Ae d) (Uc d.er):=.cons (Zk.refl _) (.cons (Zk.refl _) (.cons (Zk.els _ (Z3f _)) .nil))
theorem Z3g (ds:List YM):UX (XR ds) (X1 (ds.map YM.er)):=UX.map (f:=FB) (g:=QT) (e:=YM.er) (fun c=>⟨rfl,Z7o c⟩) ds
mutual
theorem Z7r:∀s:ZU,VD (Ag s) (WO s.er)
 | .mk op num into args av kids kv=>by
  rw [ZU.er]
  exact .cons (Zk.refl _) (.cons (Zk.refl _) (.cons (Zk.refl _) (.cons (Zk.forget _ _) (.cons (Zk.els _ (N4 kids)) .nil))))
theorem Ow:∀b:ZS,VD (JB b) (Vz b.er)
 | .mk steps sv result=>by
  rw [ZS.er]
  exact .cons (Zk.els _ (N5 steps)) (.cons (Zk.refl _) .nil)
theorem N5:∀xs:List ZU,UX (WA xs) (Xj (WB xs))
 | []=>by rw [WA,WB,Xj];exact .nil
 | s::r=>by
  rw [WA,WB,Xj,E5,MW]
  exact .cons rfl (Z7r s) (N5 r)
theorem N4:∀xs:List ZS,UX (V2 xs) (VG (TB xs))
 | []=>by rw [V2,TB,VG];exact .nil
 | s::r=>by
  rw [V2,TB,VG,E3,MI]
  exact .cons rfl (Ow s) (N4 r)
end
theorem Z7q (r:YN):VD (Af r) (TH r.er):=by
 have h:=Ow r.body
 cases h with
 | cons h1 t=>cases t with
  | cons h2 _=>exact .cons (Zk.forget _ _) (.cons (Zk.forget _ _) (.cons (Zk.refl _) (.cons h1 (.cons h2 .nil))))
theorem Z3h (rs:List YN):UX (V3 rs) (UP (rs.map YN.er)):=UX.map (f:=FC) (g:=QU) (e:=YN.er) (fun c=>⟨rfl,Z7q c⟩) rs
theorem Z7p (n:X4):VD (BR n) (W8 n.er):=.cons (Zk.els _ (Z3g _)) (.cons (Zk.els _ (Z3h _)) .nil)
theorem KV (n:X4):Zk (VE n) (X3 n.er):=Zk.agg (Z7p n)
theorem Wg.args_le {P:Program} {f:FuncId} {as1 xs:List AV} {h:List Res} {R:AV->List Res->Prop} (H:Wg P f xs h R) (hle:VD as1 xs):Wg P f as1 h R:=
 fun w G vs hvs hh=>H w G vs (hle.cs hvs) hh
theorem CP {es:List AV} {k:Nat} (h:es.all (fun y=>Nat.beq y.leaves.length k)=true):∀y∈es,y.leaves.length=k:=fun y hy=>U6 (Be.1 h y hy)
abbrev rK (g:Hd) (k:Nat) (ls:List AV):Res:=.row g.v k ls
section
variable {P:Program} {n:Nat} {c:Code} {A:Wz} {F:Fr} {h:List Res} {ops:Array Oper} {B:Fr->List Res->Prop} {k:Nat}
variable {T:List (Nat × List Nat)} {fuel:Nat} {done:List Nat}
theorem tB (is:List Nat) (hs:List Res) (L' L:List (Value × Nat)) (e:L'=L) (hp:Wo is h=some hs:=by kernel_rfl) (hb:Qd hs=some L':=by kernel_rfl):Q9 h (.many L::XH is h):=e▸Zdm is hp hb
theorem rr {v:Value} {q:Nat} {ls ls':List AV} {t t':List Res} (h:ls=ls') (e:t=t'):Res.row v q ls::t=.row v q ls'::t':=h▸e▸rfl
theorem Z6h (j m:Nat) (v:Hd) (kk:Nat) (ls:List AV) (hm:ls.length=m*kk) (hk:0<kk:=by omega) (hl:JC P ops F k=some (.h v):=by kernel_rfl) (hj:h[j]? = some (rK v kk ls):=by kernel_rfl):X8 P (Zj ops k) F h [] (.i m):=
 Zcj j hl hj hm hk
theorem J3 (b l c' q sz:Nat) (j:Int) (hq:j=(q:Int)/\q<l:=by omega) (hi:Jz P ops F k=some (.val (.slice (some ⟨b,0,none⟩) l c'),j,sz):=by kernel_rfl):X8 P (Zj ops k) F h [] (.val (.pointer (some ⟨b,q*sz,none⟩))):=by
 have:=IK (P:=P) (F:=F) (h:=h) hi om om
 rw [hq.1,Qt,Vf] at this
 exact this
theorem O3 (j g len cap kk o:Nat) (ls zs:List AV) (t:TypeId) (y:AV) (hz:(ls.drop o).take zs.length=zs) (hl:HD ops F k=some (t,.val (.pointer (some ⟨g,o,none⟩))):=by kernel_rfl) (hj:h[j]? = some (.row (.slice (some ⟨g,0,none⟩) len cap) kk ls):=by kernel_rfl)
  (hy:JD P t zs=some y:=by kernel_rfl):X8 P (Zj ops k) F h [g] y:=Zck j hl hj hz hy
theorem AU (j g len cap kk o:Nat) (xs ls:List AV) (ls':List AV) (hlt:o+xs.length<=ls.length) (he:ls.take o++xs++ls.drop (o+xs.length)=ls') (H:SI P n ops B (k+1) F (.row (.slice (some ⟨g,0,none⟩) len cap) kk ls'::XH [j] h)) (hk:YE n ops F k=true:=by kernel_rfl)
  (hs:storeAt P ops F k=some (g,o,xs):=by kernel_rfl) (hp:Wo [j] h=some [.row (.slice (some ⟨g,0,none⟩) len cap) kk ls]:=by kernel_rfl):SI P n ops B k F h:=
 Uq hk (XU.perm (Ue (Vp hp)) (P3 hs hlt (by rw [he];exact H)))
theorem dKS (i j:Nat) (js bs:List Nat) (g len cap kk o:Nat) (xs ls:List AV) (ls':List AV) (hlt:o+xs.length<=ls.length) (he:ls.take o++xs++ls.drop (o+xs.length)=ls')
  (H:Yu P n ops B (T.filter fun t=>!V6 ops i t.1) fuel (done++[i]) F (.row (.slice (some ⟨g,0,none⟩) len cap) kk ls'::XH [j] h)) (hk:YE n ops F i=true:=by kernel_rfl)
  (hs:storeAt P ops F i=some (g,o,xs):=by kernel_rfl) (hp:Wo [j] h=some [.row (.slice (some ⟨g,0,none⟩) len cap) kk ls]:=by kernel_rfl) (ho:Us ops i T=bs:=by kernel_rfl)
  (hj:js.map (fun q=>(WD (XH [j] h))[q]?)=bs.map some:=by kernel_rfl):VC P n ops B T fuel done F h i:=
 KX [j] js bs hk (Vp hp) ho hj (P3 (h2:=[]) hs hlt (by rw [he];exact H))
theorem Hc (sz:Nat) (hK:∀g,SI P n ops B (k+1) (F.put (Zj ops k).dst (.val (.slice (some ⟨g,0,none⟩) 0 0))) (.row (.slice (some ⟨g,0,none⟩) 0 0) sz []::h)) (hk:YE n ops F k=true:=by kernel_rfl)
  (ha:Q0 P ops F k=some ([],0,sz):=by kernel_rfl):SI P n ops B k F h:=Uq hk (Z8v (VL hk).2.1 ha hK)
theorem Hb (j g sz:Nat) (xs:List AV) (hx:Option Value) (hxs:∀y∈xs,y.leaves.length=sz) (hbound:xs.length<=1099511627776) (hK:∀v:Hd,SI P n ops B (k+1) (F.put (Zj ops k).dst (.h v)) (rK v sz (Zu xs)::XH [j] h))
  (hk:YE n ops F k=true:=by kernel_rfl) (ha:QB P ops F k=some (.val (.slice (some ⟨g,0,none⟩) 0 0),.sl xs hx,sz):=by kernel_rfl) (hp:Wo [j] h=some [.row (.slice (some ⟨g,0,none⟩) 0 0) sz []]:=by kernel_rfl):SI P n ops B k F h:=
 Uq hk (XU.perm (Ue (Vp hp)) (Z8u (VL hk).2.1 ha hxs hbound hK))
theorem BK (l:Nat) (zs:List AV) (kk:Nat) (hK:∀g,SI P n ops B (k+1) (F.put (Zj ops k).dst (.val (.slice (some ⟨g,0,none⟩) l l))) (.row (.slice (some ⟨g,0,none⟩) l l) kk (List.replicate l zs).flatten::h)) (hl:l<=4294967296:=by omega)
  (hk:YE n ops F k=true:=by kernel_rfl) (hm:HI P ops F k=some ((l:Int),(l:Int),zs):=by kernel_rfl) (hz:zs.length=kk:=by rfl) (hk0:0<kk:=by omega):SI P n ops B k F h:=by
 subst hz
 exact Uq hk (Z8w (VL hk).2.1 hm hl hk0 hK)
theorem O2 (j m:Nat) {v:Hd} {kk:Nat} {ls:List AV} (hm:ls.length=m*kk) (h0:0<m) (H:∀g c',v=⟨some ⟨g,0,none⟩,m,c'⟩->ZY P n c A F h) (hk:0<kk:=by omega) (hj:h[j]? = some (rK v kk ls):=by kernel_rfl):ZY P n c A F h:=
 Sm j m hj hm hk h0 H
theorem AY (t j:Nat) {v:Hd} {kk:Nat} (es:List AV) (hes:∀y∈es,y.leaves.length=kk) (H:ZY P n c A ((t,.sl es (some v.v))::F) (.tail v.v kk::XH [j] h)) (hk:0<kk:=by omega) (hF':F.get t=.h v:=by kernel_rfl)
  (hp:Wo [j] h=some [rK v kk (Zu es)]:=by kernel_rfl):ZY P n c A F h:=Sl t j hF' hp hes hk H
theorem Zd5 (j i p:Nat) (u v:Value) (kk kv:Nat) (es ls:List AV) (hes:∀y∈es,y.leaves.length=kk) (hl:ls[p]? = some (.val u)) (hk:0<kk:=by omega) (hp:Wo [j,i] h=some [.row u kk (Zu es),.row v kv ls]:=by kernel_rfl) :
  Q9 h (.row v kv (ls.set p (.sl es (some u)))::.tail u kk::XH [j,i] h):=Zdn j i p hp hes hk hl
theorem Ap {A xs ys B:List AV} {o:Nat} (hA:A.length=o) (hl:xs.length=ys.length):(A++(xs++B)).take o++ys++(A++(xs++B)).drop (o+ys.length)=A++(ys++B):=by
 subst hA
 rw [Cd,<-hl,<-List.drop_drop,List.drop_left,List.drop_left,VW]
theorem Py {A xs B:List AV} {o:Nat} (hA:A.length=o):((A++(xs++B)).drop o).take xs.length=xs:=by
 subst hA
 rw [List.drop_left,Cd]
theorem Qi (xs ys:List AV):Zu (xs++ys)=Zu xs++Zu ys:=by simp [Zu]
theorem JN (j:Nat) (v:Value) (q:Nat) (ls ls':List AV) (e:ls=ls') (hp:Wo [j] h=some [.row v q ls]:=by kernel_rfl):Q9 h (.row v q ls'::XH [j] h):=by
 subst e
 intro w G hh
 have hp':=Ue (Vp hp)
 exact ⟨G,hh.perm hp',(Yr.refl w G h).perm (Km _) hp'⟩
end
end Go.Abs
end
namespace Go.Abs
abbrev Yl:=Nat->Nat->Option Value
abbrev V1:=Nat × Nat
def upd (m:Yl) (a:V1) (z:Int):Yl:=fun g o=>if g=a.1/\o=a.2 then some (.int .i64 z) else m g o
def wr (m:Yl):List V1->Int->Yl
 | [],_=>m
 | a::r,k=>wr (upd m a k) r (k+1)
def X6 (m:Yl):List V1->Int->Prop
 | [],_=>True
 | a::r,k=>m a.1 a.2=some (.int .i64 k)/\X6 m r (k+1)
theorem Az:∀(as1 bs:List V1) (m:Yl) (k:Int),wr m (as1++bs) k=wr (wr m as1 k) bs (k+as1.length)
 | [],bs,m,k=>by simp [wr]
 | a::r,bs,m,k=>by
  rw [Kn,wr,wr,Az r bs,XF]
  congr 1
  omega
theorem K7:∀(as1 bs:List V1) (m:Yl) (k:Int),X6 m (as1++bs) k↔X6 m as1 k/\X6 m bs (k+as1.length)
 | [],bs,m,k=>by simp [X6]
 | a::r,bs,m,k=>by
  rw [Kn,X6,X6,K7 r bs,XF,and_assoc,show k+1+(r.length:Int)=k+((r.length+1:Nat):Int) by omega]
theorem S3:∀(as1:List V1) (m:Yl) (k:Int) (b:V1),b∉as1->wr m as1 k b.1 b.2=m b.1 b.2
 | [],m,k,b,_=>rfl
 | a::r,m,k,b,h=>by
  rw [wr,S3 r _ _ b fun q=>h (Xv _ q),upd,Z4]
  rintro ⟨h1,h2⟩
  exact h (by rw [show b=a from Prod.ext h1 h2];exact YV ..)
theorem Ha:∀(as1:List V1) (m:Yl) (k:Int),as1.Nodup->X6 (wr m as1 k) as1 k
 | [],m,k,_=>trivial
 | a::r,m,k,h=>by
  have hn:=List.nodup_cons.1 h
  refine ⟨?_,Ha r _ _ hn.2⟩
  rw [wr,S3 r _ _ a hn.1,upd,Z6 ⟨rfl,rfl⟩]
def Va (m:Yl) (a:V1):Prop:=∃z,m a.1 a.2=some (.int .i64 z)
structure Kp (m m':Yl):Prop where
 i:∀{a:V1},Va m a->Va m' a
 h:∀{g o:Nat} {v:Value},m g o=some v->(∀z,v≠.int .i64 z)->m' g o=some v
theorem Kp.refl (m:Yl):Kp m m:=⟨id,fun h _=>h⟩
theorem Kp.upd {m m':Yl} (k:Kp m m') {b:V1} (hb:Va m b) (z:Int):Kp m (upd m' b z):=by
 refine ⟨fun {a} h=>?_,fun {g o v} h hv=>?_⟩
 ·by_cases e:a=b
  ·subst e;exact ⟨z,Z6 ⟨rfl,rfl⟩⟩
  ·obtain ⟨y,hy⟩:=k.i h
   exact ⟨y,(Z4 fun q=>e (Prod.ext q.1 q.2)).trans hy⟩
 ·show (if g=b.1/\o=b.2 then some (Value.int .i64 z) else m' g o)=some v
  rw [Z4]
  ·exact k.h h hv
  ·rintro ⟨rfl,rfl⟩
   obtain ⟨y,hy⟩:=hb
   rw [h] at hy
   exact hv y (Ti hy)
theorem Kp.wr:∀{as1:List V1} {m m':Yl},Kp m m'->(∀a∈as1,Va m a)->∀z:Int,Kp m (wr m' as1 z)
 | [],_,_,k,_,_=>k
 | a::_,_,_,k,h,z=>Kp.wr (k.upd (h a (YV ..)) z) (fun b hb=>h b (Xv _ hb)) (z+1)
def Wh (B:List Nat) (v:Value) (n:Nat):Prop:=(v=OL/\n=0)∨∃g cap,v=.slice (some ⟨g,0,none⟩) n cap/\g∈B
theorem Wh.ni {B:List Nat} {v:Value} {n:Nat} (h:Wh B v n):∀z,v≠.int .i64 z:=by
 intro z e
 rcases h with ⟨rfl,_⟩|⟨g,cap,rfl,_⟩<;>cases e
theorem Wh.blk {B:List Nat} {v:Value} {n i:Nat} (h:Wh B v n) (hi:i<n):Z3 v∈B/\∃cap,v=.slice (some ⟨Z3 v,0,none⟩) n cap:=by
 rcases h with ⟨rfl,rfl⟩|⟨g,cap,rfl,hg⟩
 ·omega
 ·exact ⟨hg,cap,rfl⟩
section
variable {P:Program} {n:Nat} {ops:Array Oper} {B:Fr->List Res->Prop} {k:Nat} {F:Fr} {h h2:List Res}
theorem Zch {S:List Nat} {v:Value} {m:Nat} (hh:Wh S v m) (hl:JC P ops F k=some (.val v)):X8 P (Zj ops k) F h [] (.val (.int .i64 m)):=by
 unfold JC at hl
 generalize hoo:Zj ops k=o at hl
 obtain ⟨dst,op,type,pos,after,guard⟩:=o
 cases op<;>simp only at hl<;>try (cases hl)
 rename_i c
 obtain ⟨callee,args,tys⟩:=c
 simp only at hl
 split at hl
 ·rename_i x t hargs htys
  split at hl
  ·rename_i el hu
   simp only [Xo] at hl
   intro n w G a hF hh'
   have hv:=hF.ev x
   rw [hl] at hv
   have hv:=hv.val_inv
   obtain ⟨ad,cap,rfl⟩:∃ad cap,v=.slice ad m cap:=by
    rcases hh with ⟨rfl,rfl⟩|⟨g,cap,rfl,_⟩
    ·exact ⟨none,0,rfl⟩
    ·exact ⟨_,cap,rfl⟩
   have e1:args=#[x]:=by rw [<-VM (xs:=args),hargs]
   have e2:tys=#[t]:=by rw [<-VM (xs:=tys),htys]
   subst e1;subst e2
   exact ⟨_,.val,fun w' _ _=>by simp [execOp,resolve,invoke,builtin,hv,Builtin.len_,Vr hu,goInt]⟩
  ·cases hl
 ·cases hl
theorem Kc (S:List Nat) (v:Value) (m:Nat) (hh:Wh S v m) (hl:JC P ops F k=some (.val v):=by kernel_rfl):X8 P (Zj ops k) F h [] (.i m):=Zch hh hl
theorem WG (S:List Nat) (v:Value) (m q sz:Nat) (j:Int) (hh:Wh S v m) (hq:j=(q:Int)/\q<m:=by omega) (hi:Jz P ops F k=some (.val v,j,sz):=by kernel_rfl) :
  X8 P (Zj ops k) F h [] (.val (.pointer (some ⟨Z3 v,q*sz,none⟩))):=by
 obtain ⟨_,cap,e⟩:=hh.blk hq.2
 rw [e] at hi
 have:=IK (P:=P) (F:=F) (h:=h) hi om om
 rw [hq.1,Qt,Vf] at this
 exact this
theorem VS (j:Nat) (S:List Nat) (m:Yl) (g o:Nat) (y:Value) (hg:g∈S) (hm:m g o=some y) (hl:CQ P ops F k=some (.val (.pointer (some ⟨g,o,none⟩))):=by kernel_rfl) (hj:h[j]? = some (.own S m):=by kernel_rfl) :
  X8 P (Zj ops k) F h [g] (.val y):=by
 unfold CQ at hl
 generalize hoo:Zj ops k=q at hl
 obtain ⟨dst,op,type,pos,after,guard⟩:=q
 cases op<;>simp only at hl<;>try (cases hl)
 rename_i t x
 split at hl
 ·rename_i hagg
  simp only [Xo] at hl
  intro n w G a hF hh
  have hv:=hF.ev x
  rw [hl] at hv
  have hv:=hv.val_inv
  obtain ⟨cs,e,h1,h2⟩:=hh.ok _ (YA hj) g hg
  refine ⟨y,.val,fun w' _ hw=>?_⟩
  have hrow:=hw g (by simp)
  rw [h1] at hrow
  simp only [execOp,hv]
  refine Vd ?_
  simp only [Instr.loadAt,Instr.sureAddr,Sem.run_bind,Sem.run_pure,Result.andThen_ok,loadVar,C0 hagg]
  have:=cell_of_row w' g o cs e (0,0) hrow
  rw [h2,hm] at this
  simp [load,Sem.run,this]
 ·cases hl
theorem Z8t {K:Fr->List Res->Prop} {S:List Nat} {m:Yl} {g o:Nat} {z:Int} (hs:storeAt P ops F k=some (g,o,[.i z])) (hg:g∈S) (hi:Va m (g,o))
  (hK:K F (.own S (upd m (g,o) z)::h2)):XU P n (Zj ops k) F (.own S m::h2) K:=by
 unfold storeAt at hs
 generalize hoo:Zj ops k=q at hs
 obtain ⟨dst,op,type,pos,after,guard⟩:=q
 cases op<;>simp only at hs<;>try (cases hs)
 rename_i t x y
 split at hs
 ·rename_i b' o' inf hx hi'
  split at hs
  ·rename_i hc
   simp only [Xs] at hc
   simp only [Xo,Prod.mk.injEq] at hs
   obtain ⟨rfl,rfl,hz⟩:=hs
   intro Q w G a hF hh
   have hvx:=hF.ev x
   rw [hx] at hvx
   have hvx:=hvx.val_inv
   have hvy:=hF.ev y
   have hcs:=hvy.cells hc.2.1
   rw [hz] at hcs hc
   have hone:=hcs.one_cells hc.2.2
   have YD:inf.size=1:=U6 hc.1
   obtain ⟨c,Z5⟩:∃c,(a.eval y).cells.toList=[c]:=by
    have:=hcs.length
    cases hq:(a.eval y).cells.toList with
    | nil=>rw [hq] at this;simp at this
    | cons c r=>cases r with
     | nil=>exact ⟨c,rfl⟩
     | cons _ _=>rw [hq] at this;simp at this
   have hlen:(a.eval y).cells.size=1:=by rw [<-KP,Z5];rfl
   rw [Z5] at hcs
   have hcz:c=.int .i64 z:=by
    cases hcs with
    | cons h _=>exact h.val_inv
   subst hcz
   have hmem:Res.own S m∈Res.own S m::h2:=YV ..
   obtain ⟨cs,e,h1,hcell⟩:=hh.ok _ hmem b' hg
   obtain ⟨old,X6⟩:=hi
   have hlt:o'<cs.size:=by
    have:=hcell o'
    have hq:cs[o']? = some (.int .i64 old):=this.trans X6
    exact (VB.1 hq).1
   have hst:=run_storeCells_at P b' o' e (a.eval y).cells.toList 0 cs w h1 (by simp [hlen];omega) hone
   simp only [Bi,KP] at hst
   have hr:(execOp a.eval { dst:=none,op:=.store t x y,type:=type,pos:=pos,after:=after,guard:=guard }).run P w =
     .ok .skip (w.setRow b' (cs.toList.take o'++(a.eval y).cells.toList++cs.toList.drop (o'+(a.eval y).cells.size)).toArray):=by
    simp only [execOp,hvx]
    simp [Instr.storeAt,Instr.sureAddr,storeVar,Q4 hi',hlen,YD,hst]
   unfold Oper.wp
   rw [hr]
   have hset:(cs.toList.take o'++(a.eval y).cells.toList++cs.toList.drop (o'+(a.eval y).cells.size))=cs.toList.set o' (.int .i64 z):=by
    rw [Z5,hlen]
    exact Im cs.toList o' _ (by simpa using hlt)
   rw [hset]
   have hA:Vu G w (w.setRow b' (cs.toList.set o' (.int .i64 z)).toArray) G:=⟨fun c j hg'=>by
    have hne:c≠b':=fun he=>hh.prot _ hmem c j (by rw [he];exact hg) hg'
    simp [World.cell?,WZ w b' c _ hne],fun _ _ h=>h⟩
   have e1:Yr w G [.own S m] (w.setRow b' (cs.toList.set o' (.int .i64 z)).toArray) G [.own S (upd m (b',o') z)]:=by
    refine ⟨rfl,rfl,rfl,by simp [World.setRow],fun _ _ h=>h,?_,fun _ _ _ h=>.inl h,?_⟩
    ·intro c hc'
     by_cases hcb:c=b'
     ·subst hcb
      exact .ce ⟨cs,_,e,(0,0),h1,setRow_heap w c cs _ e (0,0) h1,by simp,fun j hj=>absurd ⟨_,YV ..,hg⟩ hj⟩
     ·exact .inl (WZ w b' c _ hcb)
    ·rintro c j _ ⟨r,hr,hf⟩
     rw [YH.1 hr] at hf
     exact ⟨_,YV ..,hf⟩
   have e2:ZW (w.setRow b' (cs.toList.set o' (.int .i64 z)).toArray) G [.own S (upd m (b',o') z)]:=by
    refine ⟨fun r hr=>?_,Kq _ _,fun r hr c j hf hg'=>?_,fun c j hg'=>?_⟩
    ·rw [YH.1 hr]
     intro c hc'
     by_cases hcb:c=b'
     ·subst hcb
      refine ⟨_,e,setRow_heap w c cs _ e (0,0) h1,fun j=>?_⟩
      show (cs.toList.set o' (.int .i64 z)).toArray[j]? = if c=c/\j=o' then some (.int .i64 z) else m c j
      simp only [List.getElem?_toArray,List.getElem?_set]
      by_cases hj:o'=j
      ·subst hj;simp [hlt]
      ·rw [Z4 hj,Z4 (by intro q;exact hj q.2.symm)]
       simpa using hcell j
     ·obtain ⟨ds,e',k1,k2⟩:=hh.ok _ hmem c hc'
      refine ⟨ds,e',(WZ w b' c _ hcb).trans k1,fun j=>(k2 j).trans ?_⟩
      show m c j=if c=b'/\j=o' then _ else m c j
      rw [Z4 fun q=>hcb q.1]
    ·rw [YH.1 hr] at hf
     exact hh.prot _ hmem c j hf hg'
    ·have:=hh.lt c j hg'
     simpa [World.setRow] using this
   obtain ⟨j1,j2⟩:=ZW.frame (h:=[.own S m]) (k:=h2) hh e1 e2
   refine ⟨F,_,G,hK,?_,j1,j2⟩
   have:=hF.mono (j2.agree hh)
   simpa [Act.put] using this
  ·cases hs
 ·cases hs
theorem Jy (j:Nat) (S:List Nat) (m:Yl) (g o:Nat) (z:Int) (hg:g∈S) (hi:Va m (g,o)) (H:SI P n ops B (k+1) F (.own S (upd m (g,o) z)::XH [j] h)) (hk:YE n ops F k=true:=by kernel_rfl)
  (hs:storeAt P ops F k=some (g,o,[.i z]):=by kernel_rfl) (hp:Wo [j] h=some [.own S m]:=by kernel_rfl):SI P n ops B k F h:=
 Uq hk (XU.perm (Ue (Vp hp)) (Z8t hs hg hi H))
theorem B3 {S:List Nat} {m m':Yl} {t t':List Res} (h:m=m') (e:t=t'):Res.own S m::t=.own S m'::t':=h▸e▸rfl
end
def Xw (ts:List (Value × Nat)):List Nat:=ts.filterMap (·.1.ownBlock)
theorem TQ (a b:List (Value × Nat)):Xw (a++b)=Xw a++Xw b:=by simp [Xw]
theorem Wh.own {B:List Nat} {v:Value} {n:Nat} (h:Wh B v n) (h0:0<n) (k:Nat):Z3 v∈Xw [(v,k)]:=by
 rcases h with ⟨rfl,rfl⟩|⟨g,cap,rfl,hg⟩
 ·omega
 ·simp [Xw,Z3,Value.ownBlock]
def ZA (g:Nat):Nat->Nat->List V1
 | _,0=>[]
 | o,n+1=>(g,o)::ZA g (o+1) n
def DE (c:X0):List V1:=ZA (Z3 c.fv) 0 c.fields.length
def WR:List X0->List V1
 | []=>[]
 | c::r=>DE c++WR r
def AH (g o:Nat) (d:YM):List V1:=(g,o)::(g,o+1)::WR d.cons
def Wi (g:Nat):Nat->List YM->List V1
 | _,[]=>[]
 | o,d::r=>AH g o d++Wi g (o+3) r
mutual
def QA (g o:Nat):ZU->List V1
 | .mk _ _ _ args av kids kv=>(g,o)::(g,o+1)::(g,o+2)::(ZA (Z3 av) 0 args.length++Xg (Z3 kv) 0 kids)
def Qz (g o:Nat):ZS->List V1
 | .mk steps sv _=>Yf (Z3 sv) 0 steps++[(g,o+1)]
def Yf (g:Nat):Nat->List ZU->List V1
 | _,[]=>[]
 | o,s::r=>QA g o s++Yf g (o+5) r
def Xg (g:Nat):Nat->List ZS->List V1
 | _,[]=>[]
 | o,b::r=>Qz g o b++Xg g (o+2) r
end
def Jh (g o:Nat) (r:YN):List V1:=
 ZA (Z3 r.pv) 0 r.params.length++(ZA (Z3 r.lv) 0 r.lent.length++((g,o+2)::(Yf (Z3 r.body.sv) 0 r.body.steps++[(g,o+4)])))
def WK (g:Nat):Nat->List YN->List V1
 | _,[]=>[]
 | o,r::rs=>Jh g o r++WK g (o+5) rs
def W5 (y:X4):List V1:=Wi (Z3 y.dv) 0 y.decls++WK (Z3 y.rv) 0 y.routines
def TL (m:Yl) (g n:Nat):Prop:=∀i,i<n->Va m (g,i)
def Q5 (m:Yl) (B:List Nat) (g o:Nat) (v:Value) (n:Nat):Prop:=m g o=some v/\Wh B v n
def Ir (m:Yl) (B:List Nat) (g o:Nat) (c:X0):Prop:=Q5 m B g o c.fv c.fields.length/\TL m (Z3 c.fv) c.fields.length
def KK (m:Yl) (B:List Nat) (g:Nat):Nat->List X0->Prop
 | _,[]=>True
 | o,c::r=>Ir m B g o c/\KK m B g (o+1) r
def Iu (m:Yl) (B:List Nat) (g o:Nat) (d:YM):Prop:=Va m (g,o)/\Va m (g,o+1)/\Q5 m B g (o+2) d.cv d.cons.length/\KK m B (Z3 d.cv) 0 d.cons
def J6 (m:Yl) (B:List Nat) (g:Nat):Nat->List YM->Prop
 | _,[]=>True
 | o,d::r=>Iu m B g o d/\J6 m B g (o+3) r
mutual
def QO (m:Yl) (B:List Nat) (g o:Nat):ZU->Prop
 | .mk _ _ _ args av kids kv=>(Va m (g,o)/\Va m (g,o+1)/\Va m (g,o+2))/\(Q5 m B g (o+3) av args.length/\TL m (Z3 av) args.length)/\(Q5 m B g (o+4) kv kids.length/\U5 m B (Z3 kv) 0 kids)
def QN (m:Yl) (B:List Nat) (g o:Nat):ZS->Prop
 | .mk steps sv _=>(Q5 m B g o sv steps.length/\Vs m B (Z3 sv) 0 steps)/\Va m (g,o+1)
def Vs (m:Yl) (B:List Nat) (g:Nat):Nat->List ZU->Prop
 | _,[]=>True
 | o,s::r=>QO m B g o s/\Vs m B g (o+5) r
def U5 (m:Yl) (B:List Nat) (g:Nat):Nat->List ZS->Prop
 | _,[]=>True
 | o,b::r=>QN m B g o b/\U5 m B g (o+2) r
end
def Fb (m:Yl) (B:List Nat) (g o:Nat) (r:YN):Prop:=
 (Q5 m B g o r.pv r.params.length/\TL m (Z3 r.pv) r.params.length)/\(Q5 m B g (o+1) r.lv r.lent.length/\TL m (Z3 r.lv) r.lent.length)/\Va m (g,o+2) /\
  (Q5 m B g (o+3) r.body.sv r.body.steps.length/\Vs m B (Z3 r.body.sv) 0 r.body.steps)/\Va m (g,o+4)
def J7 (m:Yl) (B:List Nat) (g:Nat):Nat->List YN->Prop
 | _,[]=>True
 | o,r::rs=>Fb m B g o r/\J7 m B g (o+5) rs
def Q6 (m:Yl) (B:List Nat) (y:X4):Prop:=(Wh B y.dv y.decls.length/\J6 m B (Z3 y.dv) 0 y.decls)/\(Wh B y.rv y.routines.length/\J7 m B (Z3 y.rv) 0 y.routines)
theorem FM (g o:Nat) (s:ZU):QA g o s=(g,o)::(g,o+1)::(g,o+2)::(ZA (Z3 s.av) 0 s.args.length++Xg (Z3 s.kv) 0 s.kids):=by cases s;rw [QA];rfl
theorem FF (g o:Nat) (b:ZS):Qz g o b=Yf (Z3 b.sv) 0 b.steps++[(g,o+1)]:=by cases b;rw [Qz];rfl
theorem PZ (m:Yl) (B:List Nat) (g o:Nat) (s:ZU):QO m B g o s=((Va m (g,o)/\Va m (g,o+1)/\Va m (g,o+2))/\(Q5 m B g (o+3) s.av s.args.length/\TL m (Z3 s.av) s.args.length)/\(Q5 m B g (o+4) s.kv s.kids.length/\U5 m B (Z3 s.kv) 0 s.kids)):=by cases s;rw [QO];rfl
theorem PW (m:Yl) (B:List Nat) (g o:Nat) (b:ZS):QN m B g o b=((Q5 m B g o b.sv b.steps.length/\Vs m B (Z3 b.sv) 0 b.steps)/\Va m (g,o+1)):=by cases b;rw [QN];rfl
section
variable {m m':Yl} {B:List Nat}
theorem Fa (kq:Kp m m') {g n:Nat} (h:TL m g n):TL m' g n:=fun i hi=>kq.i (h i hi)
theorem As (kq:Kp m m') {g o n:Nat} {v:Value} (h:Q5 m B g o v n):Q5 m' B g o v n:=⟨kq.h h.1 h.2.ni,h.2⟩
theorem It (kq:Kp m m') {g:Nat}:∀{o:Nat} {cs:List X0},KK m B g o cs->KK m' B g o cs
 | _,[],_=>trivial
 | _,_::_,h=>⟨⟨As kq h.1.1,Fa kq h.1.2⟩,It kq h.2⟩
theorem PX (kq:Kp m m') {g:Nat}:∀{o:Nat} {ds:List YM},J6 m B g o ds->J6 m' B g o ds
 | _,[],_=>trivial
 | _,_::_,h=>⟨⟨kq.i h.1.1,kq.i h.1.2.1,As kq h.1.2.2.1,It kq h.1.2.2.2⟩,PX kq h.2⟩
mutual
theorem Zap (kq:Kp m m') {g o:Nat}:∀{s:ZU},QO m B g o s->QO m' B g o s
 | .mk _ _ _ _ _ _ _,h=>by rw [QO] at h ⊢;exact ⟨⟨kq.i h.1.1,kq.i h.1.2.1,kq.i h.1.2.2⟩,⟨As kq h.2.1.1,Fa kq h.2.1.2⟩,⟨As kq h.2.2.1,Iq kq h.2.2.2⟩⟩
theorem Zao (kq:Kp m m') {g o:Nat}:∀{s:ZS},QN m B g o s->QN m' B g o s
 | .mk _ _ _,h=>by rw [QN] at h ⊢;exact ⟨⟨As kq h.1.1,Dc kq h.1.2⟩,kq.i h.2⟩
theorem Dc (kq:Kp m m') {g:Nat}:∀{o:Nat} {xs:List ZU},Vs m B g o xs->Vs m' B g o xs
 | _,[],_=>by rw [Vs];trivial
 | _,_::_,h=>by rw [Vs] at h ⊢;exact ⟨Zap kq h.1,Dc kq h.2⟩
theorem Iq (kq:Kp m m') {g:Nat}:∀{o:Nat} {xs:List ZS},U5 m B g o xs->U5 m' B g o xs
 | _,[],_=>by rw [U5];trivial
 | _,_::_,h=>by rw [U5] at h ⊢;exact ⟨Zao kq h.1,Iq kq h.2⟩
end
theorem Ix (kq:Kp m m') {g:Nat}:∀{o:Nat} {rs:List YN},J7 m B g o rs->J7 m' B g o rs
 | _,[],_=>trivial
 | _,_::_,h=>⟨⟨⟨As kq h.1.1.1,Fa kq h.1.1.2⟩,⟨As kq h.1.2.1.1,Fa kq h.1.2.1.2⟩,kq.i h.1.2.2.1,⟨As kq h.1.2.2.2.1.1,Dc kq h.1.2.2.2.1.2⟩,kq.i h.1.2.2.2.2⟩,Ix kq h.2⟩
end
section
variable {m:Yl} {B:List Nat} {g:Nat}
theorem Is:∀{o i:Nat} {cs:List X0} {c:X0},KK m B g o cs->cs[i]? = some c->Ir m B g (o+i) c
 | _,_,[],_,_,h=>by simp at h
 | _,0,_::_,_,h,hc=>by simp at hc;subst hc;exact h.1
 | o,i+1,_::_,_,h,hc=>by rw [show o+(i+1)=o+1+i by omega];exact Is h.2 (by simpa using hc)
theorem Iv:∀{o i:Nat} {cs:List YM} {c:YM},J6 m B g o cs->cs[i]? = some c->Iu m B g (o+i*3) c
 | _,_,[],_,_,h=>by simp at h
 | _,0,_::_,_,h,hc=>by simp at hc;subst hc;simpa using h.1
 | o,i+1,_::_,_,h,hc=>by rw [show o+(i+1)*3=o+3+i*3 by omega];exact Iv h.2 (by simpa using hc)
theorem Iy:∀{o i:Nat} {cs:List ZU} {c:ZU},Vs m B g o cs->cs[i]? = some c->QO m B g (o+i*5) c
 | _,_,[],_,_,h=>by simp at h
 | _,0,_::_,_,h,hc=>by rw [Vs] at h;simp at hc;subst hc;simpa using h.1
 | o,i+1,_::_,_,h,hc=>by rw [Vs] at h;rw [show o+(i+1)*5=o+5+i*5 by omega];exact Iy h.2 (by simpa using hc)
theorem Ip:∀{o i:Nat} {cs:List ZS} {c:ZS},U5 m B g o cs->cs[i]? = some c->QN m B g (o+i*2) c
 | _,_,[],_,_,h=>by simp at h
 | _,0,_::_,_,h,hc=>by rw [U5] at h;simp at hc;subst hc;simpa using h.1
 | o,i+1,_::_,_,h,hc=>by rw [U5] at h;rw [show o+(i+1)*2=o+2+i*2 by omega];exact Ip h.2 (by simpa using hc)
theorem Iw:∀{o i:Nat} {cs:List YN} {c:YN},J7 m B g o cs->cs[i]? = some c->Fb m B g (o+i*5) c
 | _,_,[],_,_,h=>by simp at h
 | _,0,_::_,_,h,hc=>by simp at hc;subst hc;simpa using h.1
 | o,i+1,_::_,_,h,hc=>by rw [show o+(i+1)*5=o+5+i*5 by omega];exact Iw h.2 (by simpa using hc)
end
section
variable {m:Yl} {B:List Nat}
theorem Lu {g:Nat}:∀{n o:Nat} {a:V1},a∈ZA g o n->a.1=g/\o<=a.2/\a.2<o+n
 | 0,_,_,h=>by simp [ZA] at h
 | n+1,o,a,h=>by
  rcases Yw.1 h with rfl|h
  ·exact ⟨rfl,YX _,by show o<o+(n+1);omega⟩
  ·have:=Lu h;omega
theorem JZ {g n:Nat} (h:TL m g n):∀a∈ZA g 0 n,Va m a:=by
 intro a ha
 obtain ⟨h1,h2,h3⟩:=Lu ha
 have:=h a.2 om
 rw [<-h1] at this
 exact this
theorem FI {g:Nat}:∀{o:Nat} {cs:List X0},KK m B g o cs->∀a∈WR cs,Va m a
 | _,[],_,a,ha=>by cases ha
 | _,_::_,h,a,ha=>(Yv.1 ha).elim (JZ h.1.2 a) (FI h.2 a)
theorem FK {g:Nat}:∀{o:Nat} {ds:List YM},J6 m B g o ds->∀a∈Wi g o ds,Va m a
 | _,[],_,a,ha=>by cases ha
 | _,_::_,h,a,ha=>by
  rcases Yv.1 ha with ha|ha
  ·rcases Yw.1 ha with rfl|ha
   ·exact h.1.1
   ·rcases Yw.1 ha with rfl|ha
    ·exact h.1.2.1
    ·exact FI h.1.2.2.2 a ha
  ·exact FK h.2 a ha
mutual
theorem Su {g o:Nat}:∀{s:ZU},QO m B g o s->∀a∈QA g o s,Va m a
 | .mk _ _ _ _ _ _ _,h,a,ha=>by
  rw [QO] at h
  rw [QA] at ha
  rcases Yw.1 ha with rfl|ha
  ·exact h.1.1
  rcases Yw.1 ha with rfl|ha
  ·exact h.1.2.1
  rcases Yw.1 ha with rfl|ha
  ·exact h.1.2.2
  exact (Yv.1 ha).elim (JZ h.2.1.2 a) (FH h.2.2.2 a)
theorem Sp {g o:Nat}:∀{s:ZS},QN m B g o s->∀a∈Qz g o s,Va m a
 | .mk _ _ _,h,a,ha=>by
  rw [QN] at h
  rw [Qz] at ha
  rcases Yv.1 ha with ha|ha
  ·exact Ci h.1.2 a ha
  ·rw [YH.1 ha];exact h.2
theorem Ci {g:Nat}:∀{o:Nat} {xs:List ZU},Vs m B g o xs->∀a∈Yf g o xs,Va m a
 | _,[],_,a,ha=>by rw [Yf] at ha;cases ha
 | _,_::_,h,a,ha=>by
  rw [Vs] at h
  rw [Yf] at ha
  exact (Yv.1 ha).elim (Su h.1 a) (Ci h.2 a)
theorem FH {g:Nat}:∀{o:Nat} {xs:List ZS},U5 m B g o xs->∀a∈Xg g o xs,Va m a
 | _,[],_,a,ha=>by rw [Xg] at ha;cases ha
 | _,_::_,h,a,ha=>by
  rw [U5] at h
  rw [Xg] at ha
  exact (Yv.1 ha).elim (Sp h.1 a) (FH h.2 a)
end
theorem Ss {g o:Nat} {r:YN} (h:Fb m B g o r):∀a∈Jh g o r,Va m a:=by
 intro a ha
 rcases Yv.1 ha with ha|ha
 ·exact JZ h.1.2 a ha
 rcases Yv.1 ha with ha|ha
 ·exact JZ h.2.1.2 a ha
 rcases Yw.1 ha with rfl|ha
 ·exact h.2.2.1
 rcases Yv.1 ha with ha|ha
 ·exact Ci h.2.2.2.1.2 a ha
 ·rw [YH.1 ha];exact h.2.2.2.2
theorem LA {g:Nat}:∀{o:Nat} {rs:List YN},J7 m B g o rs->∀a∈WK g o rs,Va m a
 | _,[],_,a,ha=>by cases ha
 | _,_::_,h,a,ha=>(Yv.1 ha).elim (Ss h.1 a) (LA h.2 a)
end
def Zn (g lo hi:Nat) (X:List Nat) (a:V1):Prop:=(a.1=g/\lo<=a.2/\a.2<hi)∨a.1∈X
structure Nd (g lo hi:Nat) (X:List Nat) (as1:List V1):Prop where
 nd:(X.Nodup/\g∉X)->as1.Nodup
 zn:∀a∈as1,Zn g lo hi X a
theorem Nd.nil (g lo:Nat):Nd g lo lo [] []:=⟨fun _=>.nil,fun a ha=>by cases ha⟩
theorem Nd.app {g l1 h1 l2 h2:Nat} {X Y:List Nat} {as1 bs:List V1} (ha:Nd g l1 h1 X as1) (hb:Nd g l2 h2 Y bs) (hlt:h1<=l2) (hl:l1<=l2) (hh:h1<=h2):Nd g l1 h2 (X++Y) (as1++bs):=by
 refine ⟨fun ⟨hd,hg⟩=>?_,fun a hm=>?_⟩
 ·have hdd:=List.nodup_append.1 hd
  have hg1:g∉X:=fun q=>hg (Yv.2 (.inl q))
  have hg2:g∉Y:=fun q=>hg (Yv.2 (.inr q))
  refine List.nodup_append.2 ⟨ha.nd ⟨hdd.1,hg1⟩,hb.nd ⟨hdd.2.1,hg2⟩,fun a h1 b h2 e=>?_⟩
  subst e
  rcases ha.zn a h1 with q1|q1<;>rcases hb.zn a h2 with q2|q2
  ·omega
  ·exact hg2 (q1.1▸q2)
  ·exact hg1 (q2.1▸q1)
  ·exact hdd.2.2 _ q1 _ q2 rfl
 ·rcases Yv.1 hm with h|h
  ·rcases ha.zn a h with q|q
   ·exact .inl ⟨q.1,q.2.1,by omega⟩
   ·exact .inr (Yv.2 (.inl q))
  ·rcases hb.zn a h with q|q
   ·exact .inl ⟨q.1,by omega,q.2.2⟩
   ·exact .inr (Yv.2 (.inr q))
theorem Nd.one (g o:Nat):Nd g o (o+1) [] [(g,o)]:=⟨fun _=>by simp,fun a ha=>by rw [YH.1 ha];exact .inl ⟨rfl,YX _,Nat.lt_succ_self _⟩⟩
theorem Nd.sub {g lo c hi:Nat} {v:Value} {k:Nat} {X:List Nat} {as1:List V1} {B:List Nat} {n:Nat} (h:Nd (Z3 v) lo hi X as1) (hd:Wh B v n) (he:n=0->as1=[]):Nd g c c (X++Xw [(v,k)]) as1:=by
 rcases Nat.eq_zero_or_pos n with h0|h0
 ·rw [he h0];exact ⟨fun _=>.nil,fun a ha=>by cases ha⟩
 ·have hm:=hd.own h0 k
  have e:Xw [(v,k)]=[Z3 v]:=by
   obtain ⟨_,cap,e⟩:=hd.blk h0
   rw [e];rfl
  refine ⟨fun ⟨hx,_⟩=>h.nd ?_,fun a ha=>.inr ?_⟩
  ·have hdd:=List.nodup_append.1 hx
   exact ⟨hdd.1,fun q=>hdd.2.2 _ q _ hm rfl⟩
  ·rcases h.zn a ha with q|q
   ·rw [q.1];exact Yv.2 (.inr hm)
   ·exact Yv.2 (.inl q)
theorem Lv (g:Nat):∀(n o:Nat),Nd g o (o+n) [] (ZA g o n)
 | 0,o=>Nd.nil g o
 | n+1,o=>by
  have h:=(Nd.one g o).app (Lv g n (o+1)) (YX _) om om
  rw [show o+1+n=o+(n+1) by omega] at h
  exact h
section
variable {m:Yl} {B:List Nat}
theorem Fi {g c n:Nat} {v:Value} (h:Wh B v n):Nd g c c (Xw [(v,1)]) (ZA (Z3 v) 0 n):=by
 have:=(Lv (Z3 v) n 0).sub (g:=g) (c:=c) (k:=1) h (fun e=>by rw [e];rfl)
 simpa using this
theorem Lo {g c:Nat}:∀{o:Nat} {cs:List X0} {b:Nat},KK m B b o cs->Nd g c c (Xw (X5 cs)) (WR cs)
 | _,[],_,_=>Nd.nil g c
 | _,x::r,_,h=>by
  have e:X5 (x::r)=[(x.fv,1)]++X5 r:=rfl
  rw [e,TQ]
  exact (Fi h.1.1.2).app (Lo h.2) (YX _) (YX _) (YX _)
theorem Lr {g:Nat}:∀{o:Nat} {ds:List YM},J6 m B g o ds->Nd g o (o+3*ds.length) (Xw (YZ ds)) (Wi g o ds)
 | o,[],_=>Nd.nil g o
 | o,x::r,h=>by
  have e:YZ (x::r)=(X5 x.cons++[(x.cv,3-2)])++YZ r:=rfl
  rw [e,TQ,TQ]
  have h1:Nd g (o+2) (o+2) (Xw (X5 x.cons)++Xw [(x.cv,3-2)]) (WR x.cons):=by
   refine Nd.sub (lo:=0) (hi:=0) (v:=x.cv) (Lo h.1.2.2.2) h.1.2.2.1.2 fun q=>?_
   rw [Bf.1 q];rfl
  have h2:=(Nd.one g o).app ((Nd.one g (o+1)).app h1 om om om) om om om
  have h3:=h2.app (Lr (o:=o+3) h.2) om om om
  rw [show o+3+3*r.length=o+3*(x::r).length by simp;omega] at h3
  exact h3
mutual
theorem Sv {g:Nat} {o:Nat}:∀{s:ZU},QO m B g o s->Nd g o (o+5) (Xw (Xt s)) (QA g o s)
 | .mk op num into args av kids kv,h=>by
  rw [QO] at h
  rw [Xt,QA]
  have e:(av,1)::(YP kids++[(kv,2)])=[(av,1)]++(YP kids++[(kv,2)]):=rfl
  rw [e,TQ,TQ]
  have h1:Nd g (o+5) (o+5) (Xw (YP kids)++Xw [(kv,2)]) (Xg (Z3 kv) 0 kids):=by
   refine Nd.sub (v:=kv) (Ll h.2.2.2) h.2.2.1.2 fun q=>?_
   rw [Bf.1 q,Xg]
  have h0:Nd g (o+3) (o+3) (Xw [(av,1)]) (ZA (Z3 av) 0 args.length):=Fi h.2.1.1.2
  exact (Nd.one g o).app ((Nd.one g (o+1)).app ((Nd.one g (o+2)).app (h0.app h1 om om om) om om om) om om om) om om om
theorem Sq {g:Nat} {o:Nat}:∀{s:ZS},QN m B g o s->Nd g o (o+2) (Xw (YS s)) (Qz g o s)
 | .mk steps sv result,h=>by
  rw [QN] at h
  rw [YS,Qz,TQ]
  have h1:Nd g o o (Xw (Yx steps)++Xw [(sv,5)]) (Yf (Z3 sv) 0 steps):=by
   refine Nd.sub (v:=sv) (FP h.1.2) h.1.1.2 fun q=>?_
   rw [Bf.1 q,Yf]
  have h2:=h1.app (Nd.one g (o+1)) om om om
  rw [AA] at h2
  exact h2
theorem FP {g:Nat}:∀{o:Nat} {xs:List ZU},Vs m B g o xs->Nd g o (o+5*xs.length) (Xw (Yx xs)) (Yf g o xs)
 | o,[],_=>by rw [Yx,Yf];exact Nd.nil g o
 | o,x::r,h=>by
  rw [Vs] at h
  rw [Yx,Yf,TQ]
  have h3:=(Sv h.1).app (FP (o:=o+5) h.2) om om om
  rw [show o+5+5*r.length=o+5*(x::r).length by simp;omega] at h3
  exact h3
theorem Ll {g:Nat}:∀{o:Nat} {xs:List ZS},U5 m B g o xs->Nd g o (o+2*xs.length) (Xw (YP xs)) (Xg g o xs)
 | o,[],_=>by rw [YP,Xg];exact Nd.nil g o
 | o,x::r,h=>by
  rw [U5] at h
  rw [YP,Xg,TQ]
  have h3:=(Sq h.1).app (Ll (o:=o+2) h.2) om om om
  rw [show o+2+2*r.length=o+2*(x::r).length by simp;omega] at h3
  exact h3
end
theorem LB {g:Nat}:∀{o:Nat} {rs:List YN},J7 m B g o rs->Nd g o (o+5*rs.length) (Xw (X2 rs)) (WK g o rs)
 | o,[],_=>Nd.nil g o
 | o,x::r,h=>by
  have e:X2 (x::r)=([(x.pv,1)]++([(x.lv,1)]++YS x.body))++X2 r:=rfl
  rw [e,TQ,TQ,TQ,Ei,TQ]
  have h1:Nd g (o+3) (o+3) (Xw (Yx x.body.steps)++Xw [(x.body.sv,5)]) (Yf (Z3 x.body.sv) 0 x.body.steps):=by
   refine Nd.sub (v:=x.body.sv) (FP h.1.2.2.2.1.2) h.1.2.2.2.1.1.2 fun q=>?_
   rw [Bf.1 q,Yf]
  have h2:=h1.app (Nd.one g (o+4)) om om om
  rw [AA] at h2
  have h3:=(Nd.one g (o+2)).app h2 om om om
  have h4:Nd g (o+1) (o+1) (Xw [(x.lv,1)]) (ZA (Z3 x.lv) 0 x.lent.length):=Fi h.1.2.1.1.2
  have h5:Nd g o o (Xw [(x.pv,1)]) (ZA (Z3 x.pv) 0 x.params.length):=Fi h.1.1.1.2
  have h6:=(h5.app (h4.app h3 om om om) om om om).app (LB (o:=o+5) h.2) om om om
  rw [show o+5+5*r.length=o+5*(x::r).length by simp;omega] at h6
  exact h6
theorem Sr {y:X4} (h:Q6 m B y) (hn:(Xw (Xe y)).Nodup):(W5 y).Nodup:=by
 have e:Xe y=(YZ y.decls++[(y.dv,3)])++(X2 y.routines++[(y.rv,5)]):=by simp [Xe]
 rw [e,TQ,TQ,TQ] at hn
 obtain ⟨g,hg⟩:∃g,g∉(Xw (YZ y.decls)++Xw [(y.dv,3)])++(Xw (X2 y.routines)++Xw [(y.rv,5)]):=by
  generalize (Xw (YZ y.decls)++Xw [(y.dv,3)])++(Xw (X2 y.routines)++Xw [(y.rv,5)])=l
  refine ⟨l.sum+1,fun q=>?_⟩
  have:∀(l:List Nat) (x:Nat),x∈l->x<=l.sum:=by
   intro l
   induction l with
   | nil=>intro x hx;cases hx
   | cons a r ih=>
    intro x hx
    rw [AB]
    rcases Yw.1 hx with rfl|hx
    ·omega
    ·have:=ih x hx;omega
  have:=this l _ q
  omega
 have h1:Nd g 0 0 (Xw (YZ y.decls)++Xw [(y.dv,3)]) (Wi (Z3 y.dv) 0 y.decls):=by
  refine Nd.sub (v:=y.dv) (Lr h.1.2) h.1.1 fun q=>?_
  rw [Bf.1 q];rfl
 have h2:Nd g 0 0 (Xw (X2 y.routines)++Xw [(y.rv,5)]) (WK (Z3 y.rv) 0 y.routines):=by
  refine Nd.sub (v:=y.rv) (LB h.2.2) h.2.1 fun q=>?_
  rw [Bf.1 q];rfl
 exact (h1.app h2 om om om).nd ⟨hn,hg⟩
end
theorem ZH {α:Type} {xs:List α} {k:Nat} {x:α} (h:xs[k]? = some x):xs.drop k=x::xs.drop (k+1):=by
 have hk:=(XZ.1 h).1
 rw [S7 hk]
 congr 1
 rw [Qu hk] at h
 exact Ti h
theorem YR {α:Type} {xs:List α} {k:Nat} (h:xs.length<=k):xs.drop k=[]:=QP h
theorem WP {α:Type} {xs:List α} {k:Nat} {x:α} (h:xs[k]? = some x):xs.take (k+1)=xs.take k++[x]:=by
 rw [List.take_add_one,h];rfl
def Yh:List Zs->Nat
 | []=>0
 | d::ds=>d.cons.length+Yh ds
theorem Cr (xs ys:List Zs):Yh (xs++ys)=Yh xs+Yh ys:=by
 induction xs with
 | nil=>simp [Yh]
 | cons d ds ih=>simp [Yh,ih];omega
structure Wy (ds:List Zs):Prop where
 len:ds.length<=4
 cons:∀d∈ds,d.cons.length<=3
 fields:∀d∈ds,∀c∈d.cons,c.fields.length<=3
theorem Z1h {ds:List Zs} {m:Nat} (h:∀d∈ds,d.cons.length<=m):Yh ds<=ds.length*m:=by
 induction ds with
 | nil=>simp [Yh]
 | cons d ds ih=>
  have h1:=h d (by simp)
  have h2:=ih (fun x hx=>h x (by simp [hx]))
  simp only [Yh,XF,Qw];omega
theorem Wy.sum {ds:List Zs} (h:Wy ds):Yh ds<=12:=by
 have:=Z1h h.cons
 have:=h.len
 have:ds.length*3<=4*3:=Ce 3 h.len
 omega
theorem Wy.take {ds:List Zs} (h:Wy ds) (k:Nat):Wy (ds.take k):=
 ⟨by have:=h.len;simp;omega,fun d hd=>h.cons d (Cc hd),fun d hd=>h.fields d (Cc hd)⟩
theorem Wy.cons_at {ds:List Zs} (h:Wy ds) {k:Nat} {d:Zs} (hd:ds[k]? = some d):d.cons.length<=3:=h.cons d (YA hd)
theorem Wy.fields_at {ds:List Zs} (h:Wy ds) {k j:Nat} {d:Zs} {c:Xp} (hd:ds[k]? = some d) (hc:d.cons[j]? = some c):c.fields.length<=3:=
 h.fields d (YA hd) c (YA hc)
def UM (c:Int):List Zs->Nat->Nat->Int × LI
 | [],_,_=>(-1,[])
 | d::ds,i,first=>
  if (first:Int)<=c/\c<=((first+d.cons.length:Nat):Int)-1 then ((i:Int)+1,(d.cons[(c-first).toNat]?.map (·.fields)).getD []) else UM c ds (i+1) (first+d.cons.length)
def XJ (ds:List Zs) (c:Int):Int:=(UM c ds 0 0).1
def Y2 (ds:List Zs) (c:Int):LI:=(UM c ds 0 0).2
theorem Gn {c:Int}:∀{ds:List Zs} {i first:Nat},(UM c ds i first=(-1,[]) ∨
  ∃k d x,ds[k]? = some d/\(first+Yh (ds.take k):Int)<=c/\c<first+Yh (ds.take k)+d.cons.length/\d.cons[(c-(first+Yh (ds.take k))).toNat]? = some x/\UM c ds i first=((i:Int)+k+1,x.fields))
 | [],_,_=>.inl rfl
 | d::ds,i,first=>by
  rw [UM]
  split
  ·rename_i h
   have hlt:(c-first).toNat<d.cons.length:=by omega
   refine .inr ⟨0,d,d.cons[(c-first).toNat],rfl,by simp [Yh];omega,by simp [Yh];omega,?_,?_⟩
   ·simp [Yh]
   ·rw [Qu hlt];simp
  ·rcases Gn (c:=c) (ds:=ds) (i:=i+1) (first:=first+d.cons.length) with h|⟨k,e,x,h1,h2,h3,h4,h5⟩
   ·exact .inl h
   ·refine .inr ⟨k+1,e,x,by simpa using h1,by simp [Yh];omega,by simp [Yh];omega,?_,?_⟩
    ·rw [<-h4];congr 3;simp [Yh];omega
    ·rw [h5];congr 1;omega
theorem Gp {ds:List Zs} {c:Int} (h:¬XJ ds c<1) :
  ∃k d x,ds[k]? = some d/\(Yh (ds.take k):Int)<=c/\d.cons[(c-Yh (ds.take k)).toNat]? = some x/\XJ ds c=(k:Int)+1/\Y2 ds c=x.fields:=by
 rcases Gn (c:=c) (ds:=ds) (i:=0) (first:=0) with h1|⟨k,d,x,h1,h2,_,h4,h5⟩
 ·simp [XJ,h1] at h
 ·exact ⟨k,d,x,h1,by simpa using h2,by simpa using h4,by simp [XJ,h5],by simp [Y2,h5]⟩
theorem DU {ds:List Zs} {c:Int} (h:XJ ds c<1):Y2 ds c=[]/\XJ ds c=-1:=by
 rcases Gn (c:=c) (ds:=ds) (i:=0) (first:=0) with h1|⟨k,d,x,h1,h2,_,h4,h5⟩
 ·simp [Y2,XJ,h1]
 ·simp [XJ,h5] at h;omega
def Vc (first:Int):Nat->LI
 | 0=>[]
 | n+1=>first::Vc (first+1) n
theorem OR (first:Int) (n:Nat):Vc first (n+1)=Vc first n++[first+n]:=by
 induction n generalizing first with
 | zero=>simp [Vc]
 | succ n ih=>rw [Vc,ih (first+1),Vc];simp;omega
@[simp] theorem Z8d (first:Int) (n:Nat):(Vc first n).length=n:=by
 induction n generalizing first with
 | zero=>rfl
 | succ n ih=>simp [Vc,ih]
def YG (ds:List Zs) (t:Int):LI:=
 if 1<=t/\t<=ds.length then Vc (Yh (ds.take (t-1).toNat)) (((ds[(t-1).toNat]?).map (·.cons.length)).getD 0) else []
def QC (frm to_:Int):List Zs->Nat->Int
 | [],_=>-1
 | d::ds,i=>if d.cons.length=0/\d.frm=frm/\d.to_=to_ then (i:Int)+1 else QC frm to_ ds (i+1)
def T9 (ds:List Zs) (frm to_:Int):Int:=QC frm to_ ds 0
def XK (ds:List Zs) (t:Int):Bool:=decide (1<=t/\t<=ds.length)&&((ds[(t-1).toNat]?).map fun d=>decide (d.cons.length=0)).getD false
theorem Ex {ds:List Zs} {t:Int} {x:Zs} (h:1<=t/\t<=ds.length) (hx:ds[(t-1).toNat]? = some x):((x.cons.length:Int)==0)=XK ds t:=by
 rw [XK,hx,Wk];simp [h]
theorem Hk {ds:List Zs} {t:Int} (h:¬(1<=t/\t<=ds.length)):false=XK ds t:=by
 rw [XK,Wk];simp only [Bool.false_eq_true,Xs,decide_eq_true_eq,h,false_and]
def XP (m:Nat) (xs:LI):Bool:=xs.all fun t=>decide (0<=t/\t<=m)
structure Sg where
 params:LI
 result:Int
abbrev Lf (f:Sg):AV:=.agg [.sl (Zi f.params) none,.i f.result,.i 0,.i 0,.sl [] none]
def U1 (fs:List Sg):List AV:=fs.map Lf
theorem GL {xs:List Sg} {j:Nat} {x:Sg} (h:xs[j]? = some x):(U1 xs)[j]? = some (Lf x):=by simp [U1,h]
@[simp] theorem MV (xs:List Sg):(U1 xs).length=xs.length:=by simp [U1]
theorem MU (xs:List Sg):∀y∈U1 xs,y.leaves.length=5:=by intro y hy;simp only [U1,Xb] at hy;obtain ⟨x,_,rfl⟩:=hy;rfl
theorem Z2w (xs:List Sg):(Zu (U1 xs)).all AV.one=true:=KB fun y hy=>by simp only [U1,Xb] at hy;obtain ⟨x,_,rfl⟩:=hy;rfl
mutual
def Z8.sz:Z8->Nat
 | .mk _ _ _ args kids=>1+args.length+Xl kids
def Zh.sz:Zh->Nat
 | .mk steps _=>1+Y6 steps
def Y6:List Z8->Nat
 | []=>0
 | s::r=>s.sz+Y6 r
def Xl:List Zh->Nat
 | []=>0
 | b::r=>b.sz+Xl r
end
theorem Z8.sz_pos (s:Z8):1<=s.sz:=by cases s;rw [Z8.sz];omega
theorem Zh.sz_pos (b:Zh):1<=b.sz:=by cases b;rw [Zh.sz];omega
theorem Ri (l:List Z8):l.length<=Y6 l:=by
 induction l with
 | nil=>simp
 | cons s r ih=>have:=s.sz_pos;simp only [XF,Y6];omega
theorem M0 (l:List Zh):l.length<=Xl l:=by
 induction l with
 | nil=>simp
 | cons s r ih=>have:=s.sz_pos;simp only [XF,Xl];omega
theorem Dd {l:List Z8} {k:Nat} {s:Z8} (h:l[k]? = some s):s.sz<=Y6 l:=by
 induction l generalizing k with
 | nil=>simp at h
 | cons t r ih=>
  cases k with
  | zero=>simp at h;subst h;simp only [Y6];omega
  | succ k=>have:=ih (k:=k) (by simpa using h);simp only [Y6];omega
theorem Bq {l:List Zh} {k:Nat} {s:Zh} (h:l[k]? = some s):s.sz<=Xl l:=by
 induction l generalizing k with
 | nil=>simp at h
 | cons t r ih=>
  cases k with
  | zero=>simp at h;subst h;simp only [Xl];omega
  | succ k=>have:=ih (k:=k) (by simpa using h);simp only [Xl];omega
theorem Z8.sz_eq (s:Z8):s.sz=1+s.args.length+Xl s.kids:=by cases s;rw [Z8.sz];rfl
theorem Zh.sz_eq (b:Zh):b.sz=1+Y6 b.steps:=by cases b;rw [Zh.sz];rfl
theorem Df {b:Zh} {k:Nat} {s:Z8} (h:b.steps[k]? = some s):s.sz<b.sz:=by have:=Dd h;have:=b.sz_eq;omega
theorem Ka {s:Z8} {k:Nat} {b:Zh} (h:s.kids[k]? = some b):b.sz<s.sz:=by have:=Bq h;have:=s.sz_eq;omega
theorem A1 (s:Z8):s.args.length<s.sz:=by have:=s.sz_eq;omega
theorem Ql (s:Z8):s.kids.length<s.sz:=by have:=s.sz_eq;have:=M0 s.kids;omega
theorem JL (b:Zh):b.steps.length<b.sz:=by have:=b.sz_eq;have:=Ri b.steps;omega
structure Jd (ds:List Zs):Prop where
 len:ds.length<=1100000000
 cons:∀d∈ds,d.cons.length<=1100000000
 fields:∀d∈ds,∀c∈d.cons,c.fields.length<=1100000000
theorem Jd.cons_at {ds:List Zs} (h:Jd ds) {k:Nat} {d:Zs} (hd:ds[k]? = some d):d.cons.length<=1100000000:=h.cons d (YA hd)
def Kx (m:Nat) (c:Xp):Bool:=decide (c.fields.length<=3)&&XP m c.fields
def Qg (d:Zs):List Zs->Bool
 | []=>false
 | e::r=>if e.cons.length=0/\e.frm=d.frm/\e.to_=d.to_ then true else Qg d r
def Tb (m:Nat):List Xp->Bool
 | []=>true
 | c::r=>if Kx m c=true then Tb m r else false
def Ul (ds:List Zs) (d:Zs) (i:Nat):Bool:=
 if 0<d.cons.length then (if d.cons.length<=3/\d.frm=0/\d.to_=0 then Tb ds.length d.cons else false)
 else if Qg d (ds.take i)=true then false else decide (0<=d.frm/\d.frm<=ds.length)&&decide (0<=d.to_/\d.to_<=ds.length)
def AN (ds:List Zs) (i:Nat):Bool:=(ds[i]?.map fun d=>Ul ds d i).getD false
theorem Ct {ds:List Zs} {i:Nat} {d:Zs} (h:ds[i]? = some d):AN ds i=Ul ds d i:=by rw [AN,h];rfl
def UO (ds:List Zs):List Zs->Nat->Bool
 | [],_=>true
 | _::r,i=>if AN ds i=true then UO ds r (i+1) else false
def Wv (ds:List Zs):Bool:=decide (ds.length<=4)&&UO ds ds 0
theorem Mw {m:Nat} {cs:List Xp}:Tb m cs=true↔∀c∈cs,Kx m c=true:=by
 induction cs with
 | nil=>simp [Tb]
 | cons c r ih=>
  rw [Tb]
  split
  ·rename_i h;simp [ih,h]
  ·rename_i h;simp [h]
theorem Gw {ds:List Zs}:∀{l:List Zs} {i:Nat},UO ds l i=true↔∀j<l.length,AN ds (i+j)=true
 | [],i=>by simp [UO]
 | d::r,i=>by
  rw [UO]
  split
  ·rename_i h
   rw [Gw (l:=r)]
   constructor
   ·intro hq j hj
    cases j with
    | zero=>exact h
    | succ j=>have:=hq j (by simpa using hj);rwa [show i+(j+1)=i+1+j by omega]
   ·intro hq j hj
    have:=hq (j+1) (by simpa using hj)
    rwa [show i+(j+1)=i+1+j by omega] at this
  ·rename_i h
   simp only [Bool.false_eq_true,false_iff]
   intro hq
   exact h (hq 0 (by simp))
theorem Zdu {ds:List Zs} (h:Wv ds=true):Wy ds:=by
 simp only [Wv,Xs,decide_eq_true_eq] at h
 obtain ⟨h1,h2⟩:=h
 rw [Gw] at h2
 have key:∀d∈ds,∃i,Ul ds d i=true:=fun d hd=>by
  obtain ⟨i,hi⟩:=List.mem_iff_getElem?.1 hd
  have:=h2 i (XZ.1 hi).1
  rw [Vf,Ct hi] at this
  exact ⟨i,this⟩
 have hc:∀d∈ds,0<d.cons.length->d.cons.length<=3/\Tb ds.length d.cons=true:=fun d hd hp=>by
  obtain ⟨i,hi⟩:=key d hd
  rw [Ul,Z6 hp] at hi
  split at hi
  ·rename_i h;exact ⟨h.1,hi⟩
  ·cases hi
 refine ⟨h1,fun d hd=>?_,fun d hd c hc'=>?_⟩
 ·by_cases hp:0<d.cons.length
  ·exact (hc d hd hp).1
  ·omega
 ·have:=Mw.1 (hc d hd (List.length_pos_of_mem hc')).2 c hc'
  simp only [Kx,Xs,decide_eq_true_eq] at this
  exact this.1
def Ke (m:Nat) (f:Sg):Bool:=decide (f.params.length<=3)&&(XP m f.params&&decide (0<=f.result/\f.result<=m))
def Kf (m:Nat):List Sg->Bool
 | []=>true
 | f::r=>if Ke m f=true then Kf m r else false
def Eb:List Sg->Bool
 | []=>false
 | f::_=>decide (f.params.length=0)&&decide (f.result=0)
theorem Z3k {fs:List Sg} {x:Sg} (h:fs[0]? = some x):Eb fs=(decide (x.params.length=0)&&decide (x.result=0)):=by
 cases fs with
 | nil=>simp at h
 | cons f r=>simp at h;subst h;rfl
def Qs (ds:List Zs) (fs:List Sg):Bool:=
 Wv ds&&(decide (1<=fs.length/\fs.length<=4)&&(Kf ds.length fs&&Eb fs))
def TZ (ps:LI):LI->Option Int->Bool
 | [],_=>true
 | v::r,prev=>if (0<=v/\v<=(ps.length:Int)-1)/\ps[v.toNat]?≠some 0/\(∀p,prev=some p->p<v) then TZ ps r (some v) else false
theorem Hy {ps r:LI} {v:Int} {prev:Option Int} (h:(0<=v/\v<=(ps.length:Int)-1)/\ps[v.toNat]?≠some 0/\(∀p,prev=some p->p<v)):TZ ps (v::r) prev=TZ ps r (some v):=by
 rw [TZ,Z6 h]
theorem EH {ps r:LI} {v:Int} {prev:Option Int} (h:¬((0<=v/\v<=(ps.length:Int)-1)/\ps[v.toNat]?≠some 0/\(∀p,prev=some p->p<v))):TZ ps (v::r) prev=false:=by
 rw [TZ,Z4 h]
def Kj (ps ls:LI):Bool:=TZ ps ls none
def TI:List YB->Bool
 | []=>true
 | r::rs=>if Kj r.params r.lent=true then TI rs else false
def VU (r:YB):Sg:=⟨r.params,r.result⟩
def V5 (n:Zl):Bool:=decide (n.routines.length<=4)&&(Qs n.decls (n.routines.map VU)&&TI n.routines)
end Go.Abs
section
namespace Go.Abs
def YJ {α:Type} (xs:List α) (i:Int):Option α:=if 0<=i/\i<=(xs.length:Int)-1 then xs[i.toNat]? else none
theorem Tx {α:Type} {xs:List α} {i:Int} {x:α} (h:0<=i/\i<=(xs.length:Int)-1) (hx:xs[i.toNat]? = some x):YJ xs i=some x:=by rw [YJ,Z6 h,hx]
theorem QD {α:Type} {xs:List α} {i:Int} (h:¬(0<=i/\i<=(xs.length:Int)-1)):YJ xs i=none:=by rw [YJ,Z4 h]
theorem QX {α:Type} {xs:List α} {i:Int} {x:α} (h:YJ xs i=some x):(0<=i/\i<=(xs.length:Int)-1)/\xs[i.toNat]? = some x:=by
 rw [YJ] at h
 split at h
 ·rename_i h1;exact ⟨h1,h⟩
 ·cases h
def UH (vars:LI):LI->LI->Bool
 | [],[]=>true
 | a::as1,t::ts=>if YJ vars a=some t then UH vars as1 ts else false
 | _,_=>false
def XA (vars args types:LI):Bool:=UH vars args types
theorem RN {vars:LI}:∀{args types:LI},args.length≠types.length->UH vars args types=false
 | [],[],h=>absurd rfl h
 | [],_::_,_=>rfl
 | _::_,[],_=>rfl
 | a::as1,t::ts,h=>by
  rw [UH]
  split
  ·exact RN (by simpa using h)
  ·rfl
theorem Zdt {vars args types:LI} {k:Nat} {a t:Int} (ha:args[k]? = some a) (ht:types[k]? = some t) (h:YJ vars a=some t) :
  UH vars (args.drop k) (types.drop k)=UH vars (args.drop (k+1)) (types.drop (k+1)):=by
 rw [ZH ha,ZH ht,UH,Z6 h]
theorem RM {vars args types:LI} {k:Nat} {a t:Int} (ha:args[k]? = some a) (ht:types[k]? = some t) (h:YJ vars a≠some t) :
  UH vars (args.drop k) (types.drop k)=false:=by
 rw [ZH ha,ZH ht,UH,Z4 h]
theorem Zds {vars args types:LI} {k:Nat} (ha:args.length<=k) (ht:types.length<=k):UH vars (args.drop k) (types.drop k)=true:=by
 rw [YR ha,YR ht];rfl
def V8 (op:Int):Bool:=op==0||(op==6||(op==8||(op==9||op==10)))
def Xx (op:Int):Bool:=decide (0<=op/\op<=11)
def YU (op:Int):Bool:=decide (14<=op/\op<=17)
def Vl (vars:LI) (op into:Int):Bool:=
 if into=0 then true else if op=6 then ((YJ vars (into-1)).map fun t=>decide (0<t)).getD false else false
def QW (ds:List Zs) (ps:LI) (res:Int):Int:=T9 ds (ps.getLast?.getD 0) res
def QL (ds:List Zs) (vars:LI) (op:Int) (args:LI) (r:YB):Int:=
 if op=9 then (if XA vars args r.params=true then r.result else -1)
 else if r.params.length=0∨0<r.lent.length∨¬XA vars args (r.params.take (r.params.length-1))=true then -1
 else QW ds r.params r.result
def Tf (n:Zl) (vars:LI) (op num:Int) (args:LI):Int:=
 match YJ n.routines num with
 | none=>-1
 | some r=>QL n.decls vars op args r
def Ty (ds:List Zs) (vars:LI) (op:Int) (args:LI):Int:=
 match args with
 | [a]=>match YJ vars a with
  | some t=>if t=0 then -1 else if (op≠14/\op≠15)/\XK ds t=true then -1 else 0
  | none=>-1
 | _=>-1
def Qb (ds:List Zs) (vars:LI) (args:LI):Int:=
 match args with
 | [a,b]=>match YJ vars a with
  | some t=>if XK ds t=true then
    (match ds[(t-1).toNat]? with
     | some d=>if XA vars [b] [d.frm]=true then d.to_ else -1
     | none=>-1) else -1
  | none=>-1
 | _=>-1
def YF (ds:List Zs) (op num:Int):List LI:=if op=7 then [[],[]] else (YG ds num).map (Y2 ds)
mutual
def ZQ (n:Zl) (vars:LI):Z8->Int
 | .mk op num into args kids=>
  if (num≠0/\¬V8 op=true)∨¬Vl vars op into=true∨(0<kids.length/\op≠7/\op≠8) then -1
  else if op=0 then (if args.length=0/\(-999<=num/\num<=999) then 0 else -1)
  else if op=1∨op=2∨op=3∨op=4 then (if XA vars args [0,0]=true then 0 else -1)
  else if op=5 then (if XA vars args [0]=true then 0 else -1)
  else if op=6 then (if 0<XJ n.decls num/\XA vars args (Y2 n.decls num)=true then XJ n.decls num else -1)
  else if op=7 then (if XA vars args [0]=true then (if (YF n.decls op num).length=0∨kids.length≠(YF n.decls op num).length then -1 else XL n vars kids (YF n.decls op num) true 0) else -1)
  else if op=8 then (if XA vars args [num]=true then (if (YF n.decls op num).length=0∨kids.length≠(YF n.decls op num).length then -1 else XL n vars kids (YF n.decls op num) true 0) else -1)
  else if op=9∨op=10 then Tf n vars op num args
  else if op=11 then Qb n.decls vars args
  else if op=14∨op=15∨op=16∨op=17 then Ty n.decls vars op args
  else -1
def XL (n:Zl) (vars:LI):List Zh->List LI->Bool->Int->Int
 | [],_,_,t=>t
 | b::bs,more,first,t=>
  match more with
  | []=>-1
  | m::ms=>if Ys n (vars++m) b<0∨(first=false/\Ys n (vars++m) b≠t) then -1 else XL n vars bs ms false (Ys n (vars++m) b)
def Xr (n:Zl):List Z8->LI->Option LI
 | [],vars=>some vars
 | s::r,vars=>if ZQ n vars s<0 then none else Xr n r (if Xx s.op=true then vars++[ZQ n vars s] else vars)
def Ys (n:Zl) (vars:LI):Zh->Int
 | .mk steps result=>match Xr n steps vars with
  | none=>-1
  | some vs=>(YJ vs result).getD (-1)
end
def T6 (n:Zl) (vars:LI) (op num:Int) (kids:List Zh):Int:=
 if (YF n.decls op num).length=0∨kids.length≠(YF n.decls op num).length then -1 else XL n vars kids (YF n.decls op num) true 0
mutual
def Tt:Z8->Int->Int
 | .mk _ _ _ _ kids,left=>VJ kids left
def XS:Zh->Int->Int
 | .mk steps _,left=>V4 steps left
def V4:List Z8->Int->Int
 | [],left=>left
 | s::r,left=>if left<1 then -1 else if Tt s (left-1)<0 then -1 else V4 r (Tt s (left-1))
def VJ:List Zh->Int->Int
 | [],left=>left
 | b::r,left=>if XS b left<0 then -1 else VJ r (XS b left)
end
def UG (b:Zh):Int:=if XS b 600<0 then -1 else 600-XS b 600
def Tu (n:Zl):List YB->Bool
 | []=>true
 | r::rs=>if ¬UG r.body<0/\Ys n r.params r.body=r.result then Tu n rs else false
def XT (n:Zl):Bool:=V5 n&&Tu n n.routines
theorem CO:(∀(s:Z8) (l:Int),0<=l->Tt s l<=l)/\(∀(b:Zh) (l:Int),0<=l->XS b l<=l):=by
 have key:∀m:Nat,(∀s:Z8,s.sz<=m->∀l:Int,0<=l->Tt s l<=l)/\(∀b:Zh,b.sz<=m->∀l:Int,0<=l->XS b l<=l):=by
  intro m
  induction m with
  | zero=>exact ⟨fun s h=>by have:=s.sz_pos;omega,fun s h=>by have:=s.sz_pos;omega⟩
  | succ m ih=>
   refine ⟨fun s hs l hl=>?_,fun b hb l hl=>?_⟩
   ·cases s with
    | mk op num into args kids=>
     rw [Tt]
     have hk:Xl kids<=m:=by rw [Z8.sz] at hs;omega
     clear hs
     induction kids generalizing l with
     | nil=>rw [VJ];exact Int.le_refl _
     | cons b r ihr=>
      rw [Xl] at hk
      have:=ih.2 b om l hl
      rw [VJ]
      split
      ·omega
      ·have:=ihr (XS b l) om om;omega
   ·cases b with
    | mk steps res=>
     rw [XS]
     have hk:Y6 steps<=m:=by rw [Zh.sz] at hb;omega
     clear hb
     induction steps generalizing l with
     | nil=>rw [V4];exact Int.le_refl _
     | cons s r ihr=>
      rw [Y6] at hk
      rw [V4]
      split
      ·omega
      ·have:=ih.1 s om (l-1) om
       split
       ·omega
       ·have:=ihr (Tt s (l-1)) om om;omega
 exact ⟨fun s l hl=>(key s.sz).1 s (YX _) l hl,fun b l hl=>(key b.sz).2 b (YX _) l hl⟩
end Go.Abs
namespace Go.Abs
theorem Zc4 {l:List Z8} {k:Nat} {s:Z8} (h:l[k]? = some s):k+s.sz<=Y6 l:=by
 induction l generalizing k with
 | nil=>simp at h
 | cons t r ih=>
  cases k with
  | zero=>simp at h;subst h;simp only [Y6];omega
  | succ k=>have:=ih (k:=k) (by simpa using h);have:=t.sz_pos;simp only [Y6];omega
theorem Ff {b:Zh} {k:Nat} {s:Z8} (h:b.steps[k]? = some s):k+s.sz<b.sz:=by have:=Zc4 h;have:=b.sz_eq;omega
structure YY (n:Zl):Prop where
 decls:Wy n.decls
 len:n.routines.length<=4
 params:∀r∈n.routines,r.params.length<=3
 lent:∀r∈n.routines,r.lent.length<=4194304
theorem YY.params_at {n:Zl} (h:YY n) {k:Nat} {r:YB} (hr:n.routines[k]? = some r):r.params.length<=3:=h.params r (YA hr)
theorem YY.lent_at {n:Zl} (h:YY n) {k:Nat} {r:YB} (hr:n.routines[k]? = some r):r.lent.length<=4194304:=h.lent r (YA hr)
theorem SN {ds:List Zs} {num:Int} {k:Nat} {x:Int} (h:(YG ds num)[k]? = some x):(YF ds 8 num)[k]? = some (Y2 ds x):=by
 rw [YF,Z4 om,Th,h];rfl
end Go.Abs
namespace Go.Abs
theorem Z8c {ds:List Zs} (hd:Wy ds) (t:Int):(YG ds t).length<=3:=by
 rw [YG]
 split
 ·rename_i h
  obtain ⟨d,hd1⟩:=QH (xs:=ds) (j:=(t-1).toNat) om
  rw [hd1,Z8d]
  exact hd.cons_at hd1
 ·simp
theorem TU {ds:List Zs} (hd:Wy ds) (c:Int):(Y2 ds c).length<=3:=by
 by_cases h:XJ ds c<1
 ·rw [(DU h).1];simp
 ·obtain ⟨k,d,x,h1,_,h3,_,h5⟩:=Gp h
  rw [h5];exact hd.fields_at h1 h3
theorem Bm {ds:List Zs} (hd:Wy ds) {op num:Int} {k:Nat} {m:LI} (h:(YF ds op num)[k]? = some m):m.length<=3:=by
 have hm:=YA h
 rw [YF] at hm
 split at hm
 ·simp at hm;subst hm;simp
 ·obtain ⟨c,_,rfl⟩:=Xb.1 hm;exact TU hd c
theorem QV {α:Type} {xs:List α} {x:α} (h:xs.length=1) (hx:xs[0]? = some x):xs=[x]:=by
 cases xs with
 | nil=>simp at h
 | cons a r=>
  cases r with
  | nil=>simp at hx;rw [hx]
  | cons b r=>simp at h
theorem Bu {ds:List Zs} {us args:LI} {op:Int} (h:args.length≠1):Ty ds us op args=-1:=by
 cases args with
 | nil=>rfl
 | cons a r=>
  cases r with
  | nil=>simp at h
  | cons b r=>rfl
theorem Bv {ds:List Zs} {us args:LI} {op a:Int} (h:args=[a]) (hi:¬(0<=a/\a<=(us.length:Int)-1)):Ty ds us op args=-1:=by
 subst h;rw [Ty];simp only [QD hi]
theorem Bt {ds:List Zs} {us args:LI} {op a t:Int} (h:args=[a]) (hi:0<=a/\a<=(us.length:Int)-1) (ht:us[a.toNat]? = some t) :
  Ty ds us op args=if t=0 then -1 else if (op≠14/\op≠15)/\XK ds t=true then -1 else 0:=by
 subst h;rw [Ty];simp only [Tx hi ht]
theorem Z9m {n:Zl} {us args:LI} {op num:Int} {r:YB} (hi:0<=num/\num<=(n.routines.length:Int)-1) (hr:n.routines[num.toNat]? = some r) :
  Tf n us op num args=QL n.decls us op args r:=by
 rw [Tf];simp only [Tx hi hr]
theorem Z9o {n:Zl} {us args:LI} {op num:Int} (hi:¬(0<=num/\num<=(n.routines.length:Int)-1)):Tf n us op num args=-1:=by
 rw [Tf];simp only [QD hi]
theorem Np {xs:LI} {x:Int} (h:xs[xs.length-1]? = some x):xs.getLast?.getD 0=x:=by
 rw [List.getLast?_eq_getElem?,h];rfl
theorem Ob {n:Zl} {us:LI} {bs:List Zh} {ms:List LI} {b:Zh} {m:LI} {k:Nat} {t:Int} (hb:bs[k]? = some b) (hm:ms[k]? = some m)
  (h:¬(Ys n (us++m) b<0∨(k:Int)>0/\Ys n (us++m) b≠t)) :
  XL n us (bs.drop k) (ms.drop k) (decide (k=0)) t=XL n us (bs.drop (k+1)) (ms.drop (k+1)) (decide (k+1=0)) (Ys n (us++m) b):=by
 rw [ZH hb,ZH hm,XL,Z4]
 ·simp
 ·rintro (q|⟨q1,q2⟩)
  ·exact h (.inl q)
  ·exact h (.inr ⟨by simp at q1;omega,q2⟩)
theorem O8 {n:Zl} {us:LI} {bs:List Zh} {ms:List LI} {b:Zh} {m:LI} {k:Nat} {t:Int} (hb:bs[k]? = some b) (hm:ms[k]? = some m)
  (h:Ys n (us++m) b<0∨(k:Int)>0/\Ys n (us++m) b≠t) :
  XL n us (bs.drop k) (ms.drop k) (decide (k=0)) t=-1:=by
 rw [ZH hb,ZH hm,XL,Z6]
 rcases h with q|⟨q1,q2⟩
 ·exact .inl q
 ·exact .inr ⟨by simp;omega,q2⟩
theorem O9 {n:Zl} {us:LI} {bs:List Zh} {ms:List LI} {k:Nat} {f:Bool} {t:Int} (hb:bs.length<=k):XL n us (bs.drop k) (ms.drop k) f t=t:=by
 rw [YR hb,XL]
end Go.Abs
end
namespace Go.Abs
theorem KM (n:Zl) (us:LI) (s:Z8):ZQ n us s =
  if (s.num≠0/\¬V8 s.op=true)∨¬Vl us s.op s.into=true∨(0<s.kids.length/\s.op≠7/\s.op≠8) then -1
  else if s.op=0 then (if s.args.length=0/\(-999<=s.num/\s.num<=999) then 0 else -1)
  else if s.op=1∨s.op=2∨s.op=3∨s.op=4 then (if XA us s.args [0,0]=true then 0 else -1)
  else if s.op=5 then (if XA us s.args [0]=true then 0 else -1)
  else if s.op=6 then (if 0<XJ n.decls s.num/\XA us s.args (Y2 n.decls s.num)=true then XJ n.decls s.num else -1)
  else if s.op=7 then (if XA us s.args [0]=true then T6 n us s.op s.num s.kids else -1)
  else if s.op=8 then (if XA us s.args [s.num]=true then T6 n us s.op s.num s.kids else -1)
  else if s.op=9∨s.op=10 then Tf n us s.op s.num s.args
  else if s.op=11 then Qb n.decls us s.args
  else if s.op=14∨s.op=15∨s.op=16∨s.op=17 then Ty n.decls us s.op s.args
  else -1:=by
 cases s with
 | mk op num into args kids=>rw [ZQ];rfl
theorem DI (n:Zl) (us:LI) (b:Zh):Ys n us b=match Xr n b.steps us with
  | none=>-1
  | some vs=>(YJ vs b.result).getD (-1):=by
 cases b with
 | mk st r=>rw [Ys];rfl
theorem LM {α:Type} {xs:List α} {x:α} (h:xs.length=2) (hx:xs[0]? = some x):∃y,xs=[x,y]:=by
 match xs,h with
 | [a,b],_=>simp at hx;subst hx;exact ⟨b,rfl⟩
theorem Uy {ds:List Zs} {us args:LI} (h:args.length≠2):Qb ds us args=-1:=by
 match args,h with
 | [],_=>rfl
 | [_],_=>rfl
 | [_,_],h=>simp at h
 | _::_::_::_,_=>rfl
theorem Uz {ds:List Zs} {us args:LI} {a:Int} (hl:args.length=2) (h:args[0]? = some a) (hi:¬(0<=a/\a<=(us.length:Int)-1)):Qb ds us args=-1:=by
 obtain ⟨y,rfl⟩:=LM hl h;rw [Qb];simp only [QD hi]
theorem Uj {ds:List Zs} {us args:LI} {a t:Int} (hl:args.length=2) (h:args[0]? = some a) (hi:0<=a/\a<=(us.length:Int)-1) (ht:us[a.toNat]? = some t) :
  Qb ds us args=if XK ds t=true then
    (match ds[(t-1).toNat]? with
     | some d=>if XA us (args.drop 1) [d.frm]=true then d.to_ else -1
     | none=>-1) else -1:=by
 obtain ⟨y,rfl⟩:=LM hl h;rw [Qb];simp only [Tx hi ht];rfl
theorem SG {ds:List Zs} {us args:LI} {a t:Int} {d:Zs} (hl:args.length=2) (h:args[0]? = some a) (hi:0<=a/\a<=(us.length:Int)-1) (ht:us[a.toNat]? = some t)
  (hA:XK ds t=true) (hd:ds[(t-1).toNat]? = some d):Qb ds us args=if XA us (args.drop 1) [d.frm]=true then d.to_ else -1:=by
 rw [Uj hl h hi ht,Z6 hA];simp only [hd]
theorem Hl {ds:List Zs} {t:Int} (h:XK ds t=true):1<=t/\t<=ds.length:=by
 simp only [XK,Xs,decide_eq_true_eq] at h;exact h.1
theorem Oh (b:Zh) (l:Int):XS b l=V4 b.steps l:=by cases b;rw [XS];rfl
theorem EE (s:Z8) (l:Int):Tt s l=VJ s.kids l:=by cases s;rw [Tt];rfl
structure WI (n:Zl):Prop where
 decls:Jd n.decls
 len:n.routines.length<=4194304
 params:∀r∈n.routines,r.params.length<=4194304
 lent:∀r∈n.routines,r.lent.length<=4194304
 body:∀r∈n.routines,r.body.sz<=10000000
theorem Io {m:Nat} {fs:List Sg} (h:Kf m fs=true):∀f∈fs,Ke m f=true:=by
 induction fs with
 | nil=>simp
 | cons f r ih=>
  rw [Kf] at h
  split at h
  ·rename_i h1
   intro g hg
   rcases Yw.1 hg with rfl|hg
   ·exact h1
   ·exact ih h g hg
  ·cases h
theorem HP {n:Zl} (hz:WI n) (h:V5 n=true):YY n:=by
 simp only [V5,Qs,Xs,decide_eq_true_eq] at h
 obtain ⟨h1,⟨h2,h3,h4,h5⟩,h6⟩:=h
 refine ⟨Zdu h2,h1,fun r hr=>?_,hz.lent⟩
 have:=Io h4 (VU r) (Xb.2 ⟨r,hr,rfl⟩)
 simp only [Ke,Xs,decide_eq_true_eq] at this
 exact this.1
def gI (xs:LI) (i:Int):Int:=xs[i.toNat]?.getD 0
theorem Vo {xs:LI} {i:Int} {x:Int} (h:xs[i.toNat]? = some x):gI xs i=x:=by rw [gI,h];rfl
structure Zc where
 vars:LI
 own:LI
 par:LI
 con:LI
 fst:LI
 tok:LI
def Zc.grow (L:Zc) (t own par:Int):Zc:=⟨L.vars++[t],L.own++[own],L.par++[par],L.con++[-1],L.fst++[-1],L.tok++[-1]⟩
def Ug (L:Zc) (v:Int):Option Zc:=if gI L.own v<1 then none else some { L with own:=L.own.set v.toNat (gI L.own v-1) }
def Qa (own par ln:LI):Nat->Int->Bool
 | 0,_=>false
 | k+1,v=>if gI own v<1/\¬v∈ln then (if gI par v<0 then false else Qa own par ln k (gI par v)) else true
def XV (L:Zc) (ln:LI) (v:Int):Bool:=Qa L.own L.par ln (v.toNat+1) v
def UJ:LI->Int->LI->LI
 | own,_,[]=>own
 | own,p,f::r=>UJ (if f≠0 then own.set p.toNat (gI own p+1) else own) (p+1) r
def TK (ds:List Zs) (L:Zc) (op x:Int):Option Zc:=
 if gI L.con x<0∨(op=17/\0<=gI L.tok x) then none
 else match Ug L x with
  | none=>none
  | some L1=>some { L1 with
    own:=UJ L1.own (gI L.fst x) (Y2 ds (gI L.con x))
    tok:=if op=17 then L.tok.set x.toNat (Y2 ds (gI L.con x)).length else L.tok }
def Qf (op:Int):Bool:=op==6||(op==9||(op==10||op==11))
def AZ (n:Zl) (op num:Int):LI:=if op=9 then ((n.routines[num.toNat]?).map (·.lent)).getD [] else []
def VK (n:Zl) (op num:Int) (i:Nat):Bool:=decide ((i:Int)∈AZ n op num)
def TV (n:Zl) (vars:LI) (op num a:Int) (i:Nat):Bool:=Qf op&&(gI vars a != 0&&!VK n op num i)
def TE (n:Zl) (op num:Int):LI->Nat->Zc->Option Zc
 | [],_,L=>some L
 | a::r,i,L=>if TV n L.vars op num a i=true then (match Ug L a with
   | none=>none
   | some L1=>TE n op num r (i+1) L1) else TE n op num r (i+1) L
def K4 (n:Zl) (op num:Int) (ln:LI) (L:Zc):LI->Nat->Bool
 | [],_=>true
 | a::r,i=>if VK n op num i=true/\¬XV L ln a=true then false else K4 n op num ln L r (i+1)
def K5 (L:Zc) (into:Int) (m:Nat):Option Zc:=
 if 0<into then (if gI L.tok (into-1)≠m then none else some { L with tok:=L.tok.set (into-1).toNat (-1) }) else some L
def Uo (n:Zl) (ln:LI) (L:Zc) (op num into:Int) (args:LI):Option Zc:=
 match TE n op num args 0 L with
 | none=>none
 | some L1=>if K4 n op num ln L1 args 0=true then K5 L1 into args.length else none
def WF:LI->LI->Bool
 | o::os,t::ts=>if o≠0∨0<=t then false else WF os ts
 | _,_=>true
def Zc.take (L:Zc) (m:Nat):Zc:=⟨L.vars.take m,L.own.take m,L.par.take m,L.con.take m,L.fst.take m,L.tok.take m⟩
def U8 (L:Zc) (m:Nat):Option Zc:=if WF (L.own.drop m) (L.tok.drop m)=true then some (L.take m) else none
def K2 (L:Zc) (par:Int):LI->Zc
 | []=>L
 | t::r=>K2 (L.grow t 0 par) par r
def KU (ds:List Zs) (L:Zc) (x c:Int):Zc:=
 K2 { L with con:=L.con.set x.toNat c,fst:=L.fst.set x.toNat L.vars.length } x (Y2 ds c)
def Vb (ds:List Zs) (L:Zc) (op num:Int) (args:LI) (i:Nat):Zc:=
 if op=8 then KU ds L (gI args 0) (gI (YG ds num) i) else L
def Qm (lent:LI):LI->Nat->Zc->Zc
 | [],_,L=>L
 | t::r,i,L=>Qm lent r (i+1) (L.grow t (if t≠0/\¬(i:Int)∈lent then 1 else 0) (-1))
def Ur (r:YB):Zc:=Qm r.lent r.params 0 ⟨[],[],[],[],[],[]⟩
def KY (L:Zc) (ln:LI) (v:Int):Option Zc:=if XV L ln v=true then some { L with own:=L.own.set v.toNat (gI L.own v+1) } else none
def Q1 (n:Zl) (ln:LI) (L:Zc) (op num into:Int) (args:LI) (ch:Option Zc):Option Zc:=
 if op=14 then KY L ln (gI args 0)
 else if op=15 then Ug L (gI args 0)
 else if op=16∨op=17 then TK n.decls L op (gI args 0)
 else if op=7∨op=8 then (if op=8/\¬XV L ln (gI args 0)=true then none else ch)
 else Uo n ln L op num into args
def K1 (L:Zc) (op t:Int) (r:Option Zc):Option Zc:=
 match r with
 | none=>none
 | some L1=>if Xx op=true then some (L1.grow t (if t≠0 then 1 else 0) (-1)) else some L1
def Ai (L:Zc) (first:Option Zc) (rest:Zc->Bool):Option Zc:=
 match first with
 | none=>none
 | some one=>if rest one=true then some { L with own:=one.own,tok:=one.tok } else none
def F5 (one:Zc) (two:Option Zc) (rest:Bool):Bool:=
 match two with
 | none=>false
 | some two=>if one.own=two.own/\one.tok=two.tok then rest else false
def C6 (r:Option Zc) (f:Zc->Option Zc):Option Zc:=match r with|none=>none|some L=>f L
def VH (m:Nat) (res:Int) (L:Zc):Option Zc:=C6 (if gI L.vars res≠0 then Ug L res else some L) fun L2=>U8 L2 m
mutual
def UW (n:Zl) (ln:LI) (L:Zc):Z8->Option Zc
 | .mk op num into args kids=>K1 L op (ZQ n L.vars (.mk op num into args kids)) (Q1 n ln L op num into args (TG n ln L op num args kids))
def TG (n:Zl) (ln:LI) (L:Zc) (op num:Int) (args:LI):List Zh->Option Zc
 | []=>none
 | b::bs=>Ai L (WL n ln (Vb n.decls L op num args 0) L.vars.length b) fun one=>QI n ln L op num args one bs 1
def QI (n:Zl) (ln:LI) (L:Zc) (op num:Int) (args:LI) (one:Zc):List Zh->Nat->Bool
 | [],_=>true
 | b::bs,i=>F5 one (WL n ln (Vb n.decls L op num args i) L.vars.length b) (QI n ln L op num args one bs (i+1))
def V0 (n:Zl) (ln:LI) (L:Zc):List Z8->Option Zc
 | []=>some L
 | s::r=>C6 (UW n ln L s) fun L1=>V0 n ln L1 r
def WL (n:Zl) (ln:LI) (L:Zc) (m:Nat):Zh->Option Zc
 | .mk steps result=>C6 (V0 n ln L steps) (VH m result)
end
theorem IL (n:Zl) (ln:LI) (L:Zc) (s:Z8):UW n ln L s=K1 L s.op (ZQ n L.vars s) (Q1 n ln L s.op s.num s.into s.args (TG n ln L s.op s.num s.args s.kids)):=by
 cases s with
 | mk op num into args kids=>rw [UW];rfl
theorem Ku (n:Zl) (ln:LI) (L:Zc) (m:Nat) (b:Zh):WL n ln L m b=C6 (V0 n ln L b.steps) (VH m b.result):=by
 cases b with
 | mk st r=>rw [WL];rfl
def Qc (n:Zl) (r:YB):Bool:=
 match WL n r.lent (Ur r) r.params.length r.body with
 | none=>false
 | some L=>(U8 L 0).isSome
def QY (n:Zl):List YB->Bool
 | []=>true
 | r::rs=>if Qc n r=true then QY n rs else false
def VX (n:Zl):Bool:=XT n&&QY n n.routines
structure W9 (L:Zc):Prop where
 own:L.own.length=L.vars.length
 par:L.par.length=L.vars.length
 con:L.con.length=L.vars.length
 fst:L.fst.length=L.vars.length
 tok:L.tok.length=L.vars.length
structure YI (ds:List Zs) (L:Zc) (q:Int):Prop where
 len:W9 L
 down:∀j:Int,0<=j->j<L.vars.length->gI L.par j<j
 arm:∀x:Int,0<=x->x<L.vars.length->0<=gI L.con x->0<=gI L.fst x/\gI L.fst x+(Y2 ds (gI L.con x)).length<=L.vars.length
 nn:∀x∈L.own,0<=x
 bd:∀x∈L.own,x<=q
end Go.Abs
section
namespace Go.Abs
end Go.Abs
namespace Go.Abs
theorem Z7k {n:Zl} {op num:Int} {r:YB} (h:op=9) (hr:n.routines[num.toNat]? = some r):AZ n op num=r.lent:=by
 rw [AZ,Z6 h,hr];rfl
end Go.Abs
namespace Go.Abs
theorem Sw {own par ln:LI} {N:Int} (hd:∀j:Int,0<=j->j<N->gI par j<j):∀(k:Nat) (v:Int),0<=v->v<N->v.toNat+1<=k->Qa own par ln k v=Qa own par ln (v.toNat+1) v:=by
 intro k
 induction k using Nat.strongRecOn with
 | ind k ih=>
  intro v h0 hN hk
  cases k with
  | zero=>omega
  | succ k=>
   rw [Qa,Qa]
   split
   ·split
    ·rfl
    ·have hdv:=hd v h0 hN
     rw [ih k om (gI par v) om om om]
     rw [ih v.toNat om (gI par v) om om om]
   ·rfl
theorem LE {own par ln:LI} {N j x1 x2:Int} {r:Bool} (h1:gI own j=x1) (h2:gI par j=x2) (hj:0<=j/\j<N) (hx:x1<1/\¬j∈ln) (h0:¬x2<0) (hd:∀i:Int,0<=i->i<N->gI par i<i)
  (h:Qa own par ln (j.toNat+1) j=r):Qa own par ln (x2.toNat+1) x2=r:=by
 rw [Qa,h1,h2,Z6 hx,Z4 h0] at h
 have hdv:=hd j hj.1 hj.2
 rw [<-h,Sw hd j.toNat x2 om om om]
theorem LD {own par ln:LI} {j x1 x2:Int} {r:Bool} (h1:gI own j=x1) (h2:gI par j=x2) (hx:x1<1/\¬j∈ln) (h0:x2<0) (h:Qa own par ln (j.toNat+1) j=r):false=r:=by
 rw [Qa,h1,h2,Z6 hx,Z6 h0] at h;exact h
theorem LF {own par ln:LI} {j x1:Int} {r:Bool} (h1:gI own j=x1) (hx:¬(x1<1/\¬j∈ln)) (h:Qa own par ln (j.toNat+1) j=r):true=r:=by
 rw [Qa,h1,Z4 hx] at h;exact h
end Go.Abs
namespace Go.Abs
theorem Qp {L L':Zc} {v:Int} (h:Ug L v=some L'):1<=gI L.own v/\L'.vars=L.vars/\L'.par=L.par/\L'.con=L.con/\L'.fst=L.fst/\L'.tok=L.tok/\L'.own=L.own.set v.toNat (gI L.own v-1):=by
 rw [Ug] at h
 split at h
 ·cases h
 ·cases h;exact ⟨by omega,rfl,rfl,rfl,rfl,rfl,rfl⟩
theorem H1 {xs:LI} {v:Int} (h:gI xs v≠0):gI xs v∈xs:=by
 rw [gI] at h ⊢
 cases hx:xs[v.toNat]? with
 | none=>rw [hx] at h;exact absurd rfl h
 | some y=>exact YA hx
theorem QK {xs:LI} {i:Nat} {a x:Int} (h:x∈xs.set i a):x∈xs∨x=a:=List.mem_or_eq_of_mem_set h
theorem YI.take {ds:List Zs} {L L':Zc} {q v:Int} (hk:YI ds L q) (h:Ug L v=some L'):YI ds L' q:=by
 obtain ⟨t1,t2,t3,t4,t5,t6,t7⟩:=Qp h
 obtain ⟨f1,f2,f3,f4,f5⟩:=hk.len
 have hm:=H1 (xs:=L.own) (v:=v) om
 refine ⟨⟨by rw [t7,t2,Qv];exact f1,by rw [t3,t2];exact f2,by rw [t4,t2];exact f3,by rw [t5,t2];exact f4,by rw [t6,t2];exact f5⟩,?_,?_,?_,?_⟩
 ·rw [t2,t3];exact hk.down
 ·rw [t2,t4,t5];exact hk.arm
 ·rw [t7];intro x hx
  rcases QK hx with hx|rfl
  ·exact hk.nn x hx
  ·omega
 ·rw [t7];intro x hx
  rcases QK hx with hx|rfl
  ·exact hk.bd x hx
  ·have:=hk.bd _ hm;omega
end Go.Abs
end
namespace Go.Abs
theorem IU {us:LI}:∀{args tys:LI},UH us args tys=true->args.length=tys.length/\∀a∈args,0<=a/\a<us.length
 | [],[],_=>⟨rfl,by simp⟩
 | [],_::_,h=>by cases h
 | _::_,[],h=>by cases h
 | a::as1,t::ts,h=>by
  rw [UH] at h
  split at h
  ·rename_i h1
   obtain ⟨q1,q2⟩:=IU h
   refine ⟨by simp [q1],fun x hx=>?_⟩
   rcases Yw.1 hx with rfl|hx
   ·have:=(QX h1).1;omega
   ·exact q2 x hx
  ·cases h
theorem O7 {n:Zl} {us:LI}:∀{bs:List Zh} {ms:List LI} {f:Bool} {t:Int},0<=t->0<=XL n us bs ms f t ->
  ∀(i:Nat) (b:Zh) (m:LI),bs[i]? = some b->ms[i]? = some m->0<=Ys n (us++m) b
 | [],_,_,_,_,_,i,b,m,hb,_=>by simp at hb
 | b::bs,[],_,_,_,h,_,_,_,_,hm=>by simp at hm
 | b::bs,m::ms,f,t,ht,h,i,c,l,hc,hl=>by
  rw [XL] at h
  split at h
  ·omega
  ·rename_i hq
   have h0:0<=Ys n (us++m) b:=by
    rcases Int.lt_or_le (Ys n (us++m) b) 0 with q|q
    ·exact absurd (.inl q) hq
    ·exact q
   cases i with
   | zero=>simp at hc hl;subst hc hl;exact h0
   | succ i=>exact O7 h0 h i c l (by simpa using hc) (by simpa using hl)
structure Jf (n:Zl) (us:LI) (s:Z8):Prop where
 args:∀a∈s.args,0<=a/\a<us.length
 one:(s.op=7∨s.op=8∨(14<=s.op/\s.op<=17))->∃a,s.args=[a]
 num:s.op=9->0<=s.num/\s.num<n.routines.length
 into:s.into≠0->1<=s.into/\s.into<=us.length
 kids:(s.op=7∨s.op=8)->s.kids.length=(YF n.decls s.op s.num).length/\(YF n.decls s.op s.num).length≠0 /\
  ∀(i:Nat) (b:Zh) (m:LI),s.kids[i]? = some b->(YF n.decls s.op s.num)[i]? = some m->0<=Ys n (us++m) b
theorem Z6q {n:Zl} {us:LI} {op num:Int} {kids:List Zh} (h:0<=T6 n us op num kids) :
  kids.length=(YF n.decls op num).length/\(YF n.decls op num).length≠0/\∀(i:Nat) (b:Zh) (m:LI),kids[i]? = some b->(YF n.decls op num)[i]? = some m->0<=Ys n (us++m) b:=by
 rw [T6] at h
 split at h
 ·omega
 ·rename_i hq
  exact ⟨by omega,by omega,O7 (Int.le_refl 0) h⟩
theorem Ov {xs:LI} (h:xs.length=1):∃a,xs=[a]:=by
 match xs,h with
 | [a],_=>exact ⟨a,rfl⟩
theorem B6 {n:Zl} {us:LI} {s:Z8} (h:0<=ZQ n us s):Jf n us s:=by
 rw [KM] at h
 split at h
 ·omega
 rename_i h0
 have hinto:s.into≠0->1<=s.into/\s.into<=us.length:=by
  intro hi
  have hv:Vl us s.op s.into=true:=by
   cases q:Vl us s.op s.into with
   | true=>rfl
   | false=>exact absurd (.inr (.inl (by rw [q];simp))) h0
  rw [Vl,Z4 hi] at hv
  split at hv
  ·cases ha:YJ us (s.into-1) with
   | none=>rw [ha] at hv;cases hv
   | some t=>have:=(QX ha).1;omega
  ·cases hv
 have mk:(∀a∈s.args,0<=a/\a<us.length)->((s.op=7∨s.op=8∨(14<=s.op/\s.op<=17))->∃a,s.args=[a])->(s.op=9->0<=s.num/\s.num<n.routines.length) ->
   ((s.op=7∨s.op=8)->0<=T6 n us s.op s.num s.kids)->Jf n us s:=fun a b c d=>⟨a,b,c,hinto,fun q=>Z6q (d q)⟩
 have ty:∀{tys},XA us s.args tys=true->s.args.length=tys.length/\∀a∈s.args,0<=a/\a<us.length:=fun q=>IU q
 split at h
 ·rename_i h1
  split at h
  ·rename_i h2
   exact mk (by rw [List.eq_nil_of_length_eq_zero h2.1];simp) om om om
  ·omega
 split at h
 ·split at h
  ·rename_i h1 h2;exact mk (ty h2).2 om om om
  ·omega
 split at h
 ·split at h
  ·rename_i h1 h2;exact mk (ty h2).2 om om om
  ·omega
 split at h
 ·split at h
  ·rename_i h1 h2;exact mk (ty h2.2).2 om om om
  ·omega
 split at h
 ·split at h
  ·rename_i h1 h2;exact mk (ty h2).2 (fun _=>Ov (by simpa using (ty h2).1)) om (fun _=>h)
  ·omega
 split at h
 ·split at h
  ·rename_i h1 h2;exact mk (ty h2).2 (fun _=>Ov (by simpa using (ty h2).1)) om (fun _=>h)
  ·omega
 split at h
 ·rename_i hop
  rw [Tf] at h
  cases hr:YJ n.routines s.num with
  | none=>rw [hr] at h;simp at h
  | some r=>
   rw [hr] at h
   simp only at h
   have hn:=(QX hr).1
   rw [QL] at h
   split at h
   ·split at h
    ·rename_i h2;exact mk (ty h2).2 om om om
    ·omega
   ·split at h
    ·omega
    ·rename_i h2
     have h3:XA us s.args (r.params.take (r.params.length-1))=true:=by
      cases q:XA us s.args (r.params.take (r.params.length-1)) with
      | true=>rfl
      | false=>exact absurd (.inr (.inr (by rw [q];simp))) h2
     exact mk (ty h3).2 om om om
 split at h
 ·rename_i hop
  rcases he:s.args with _|⟨a,_|⟨b,_|⟨c,r⟩⟩⟩
  ·rw [he,show Qb n.decls us []=-1 from rfl] at h;omega
  ·rw [he,show Qb n.decls us [a]=-1 from rfl] at h;omega
  ·rw [he,Qb] at h
   cases ha:YJ us a with
   | none=>rw [ha] at h;simp at h
   | some t=>
    rw [ha] at h
    simp only at h
    split at h
    ·cases hd:n.decls[(t-1).toNat]? with
     | none=>rw [hd] at h;simp at h
     | some d=>
      rw [hd] at h
      simp only at h
      split at h
      ·rename_i h3
       have h4:=(IU h3).2 b (by simp)
       have h5:=(QX ha).1
       refine mk (fun x hx=>?_) om om om
       rw [he] at hx
       rcases Yw.1 hx with rfl|hx
       ·omega
       ·rw [YH.1 hx];exact h4
      ·omega
    ·omega
  ·rw [he,show Qb n.decls us (a::b::c::r)=-1 from rfl] at h;omega
 split at h
 ·rename_i hop
  rcases he:s.args with _|⟨a,_|⟨b,r⟩⟩
  ·rw [he,show Ty n.decls us s.op []=-1 from rfl] at h;omega
  ·rw [he,Ty] at h
   cases ha:YJ us a with
   | none=>rw [ha] at h;simp at h
   | some t=>
    have h5:=(QX ha).1
    refine mk (fun x hx=>?_) (fun _=>⟨a,he⟩) om om
    rw [he] at hx
    rw [YH.1 hx];omega
  ·rw [he,show Ty n.decls us s.op (a::b::r)=-1 from rfl] at h;omega
 ·omega
def KJ (n:Zl) (us:LI) (s:Z8):LI:=if Xx s.op=true then us++[ZQ n us s] else us
theorem GC {L L':Zc} {ln:LI} {v:Int} (h:KY L ln v=some L'):L'.vars=L.vars/\L'.par=L.par/\L'.con=L.con/\L'.fst=L.fst/\L'.tok=L.tok/\L'.own=L.own.set v.toNat (gI L.own v+1):=by
 rw [KY] at h
 split at h
 ·cases h;exact ⟨rfl,rfl,rfl,rfl,rfl,rfl⟩
 ·cases h
theorem FS:∀(fs:LI) (own:LI) (p:Int),(UJ own p fs).length=own.length
 | [],own,p=>rfl
 | f::r,own,p=>by rw [UJ,FS r];split<;>simp
theorem GZ {xs:LI} {q v:Int} (h:∀x∈xs,x<=q) (hq:0<=q):gI xs v<=q:=by
 by_cases h0:gI xs v=0
 ·omega
 ·exact h _ (H1 h0)
theorem H2 {xs:LI} {v:Int} (h:∀x∈xs,0<=x):0<=gI xs v:=by
 by_cases h0:gI xs v=0
 ·omega
 ·exact h _ (H1 h0)
theorem FT:∀(fs:LI) (own:LI) (p:Int),(∀x∈own,0<=x)->∀x∈UJ own p fs,0<=x
 | [],own,p,h=>h
 | f::r,own,p,h=>by
  rw [UJ]
  refine FT r _ _ fun x hx=>?_
  split at hx
  ·rcases QK hx with hx|rfl
   ·exact h x hx
   ·have:=H2 (v:=p) h;omega
  ·exact h x hx
theorem FQ:∀(fs:LI) (own:LI) (p q:Int),0<=q->(∀x∈own,x<=q)->∀x∈UJ own p fs,x<=q+fs.length
 | [],own,p,q,hq,h=>by intro x hx;have:=h x hx;simp;omega
 | f::r,own,p,q,hq,h=>by
  intro x hx
  rw [UJ] at hx
  have:=FQ r _ _ (q+1) om (fun y hy=>by
   split at hy
   ·rcases QK hy with hy|rfl
    ·have:=h y hy;omega
    ·have:=GZ (v:=p) h hq;omega
   ·have:=h y hy;omega) x hx
  simp only [XF];omega
theorem HU {ds:List Zs} {L L':Zc} {op v:Int} (h:TK ds L op v=some L'):L'.vars=L.vars/\L'.par=L.par/\L'.con=L.con/\L'.fst=L.fst/\L'.tok.length=L.tok.length /\
  ∃L1,Ug L v=some L1/\L'.own=UJ L1.own (gI L.fst v) (Y2 ds (gI L.con v)):=by
 rw [TK] at h
 split at h
 ·cases h
 ·cases ht:Ug L v with
  | none=>rw [ht] at h;cases h
  | some L1=>
   rw [ht] at h
   simp only at h
   obtain ⟨t1,t2,t3,t4,t5,t6,t7⟩:=Qp ht
   cases h
   refine ⟨t2,t3,t4,t5,?_,L1,rfl,rfl⟩
   split
   ·rw [Qv]
   ·rfl
theorem Eg {n:Zl} {op num:Int} {ds:List Zs} {q:Int}:∀{as1:LI} {i:Nat} {L L':Zc},YI ds L q->TE n op num as1 i L=some L'->YI ds L' q/\L'.vars=L.vars/\L'.par=L.par/\L'.con=L.con/\L'.fst=L.fst/\L'.tok=L.tok
 | [],i,L,L',hk,h=>by rw [TE] at h;cases h;exact ⟨hk,rfl,rfl,rfl,rfl,rfl⟩
 | a::r,i,L,L',hk,h=>by
  rw [TE] at h
  split at h
  ·cases ht:Ug L a with
   | none=>rw [ht] at h;cases h
   | some L1=>
    rw [ht] at h
    obtain ⟨t1,t2,t3,t4,t5,t6,t7⟩:=Qp ht
    obtain ⟨k1,k2,k3,k4,k5,k6⟩:=Eg (hk.take ht) h
    exact ⟨k1,k2.trans t2,k3.trans t3,k4.trans t4,k5.trans t5,k6.trans t6⟩
  ·exact Eg hk h
theorem YI.le {ds:List Zs} {L:Zc} {q q':Int} (h:YI ds L q) (hq:q<=q'):YI ds L q':=⟨h.len,h.down,h.arm,h.nn,fun x hx=>Int.le_trans (h.bd x hx) hq⟩
theorem YI.turn {ds:List Zs} {L L':Zc} {q q':Int} (hk:YI ds L q) (h1:L'.vars=L.vars) (h2:L'.par=L.par) (h3:L'.con=L.con) (h4:L'.fst=L.fst) (h5:L'.tok.length=L.tok.length) (h6:L'.own.length=L.own.length)
  (h7:∀x∈L'.own,0<=x) (h8:∀x∈L'.own,x<=q'):YI ds L' q':=by
 obtain ⟨f1,f2,f3,f4,f5⟩:=hk.len
 refine ⟨⟨by rw [h6,h1];exact f1,by rw [h2,h1];exact f2,by rw [h3,h1];exact f3,by rw [h4,h1];exact f4,by rw [h5,h1];exact f5⟩,?_,?_,h7,h8⟩
 ·rw [h1,h2];exact hk.down
 ·rw [h1,h3,h4];exact hk.arm
theorem A8 {xs ys:LI} {j:Int} (h:j.toNat<xs.length):gI (xs++ys) j=gI xs j:=by
 rw [gI,gI,Du h]
theorem H0 {xs:LI} {y:Int} {j:Int} (h:j.toNat=xs.length):gI (xs++[y]) j=y:=by
 rw [gI,h];simp
theorem YI.grow {ds:List Zs} {L:Zc} {q t o p:Int} (hk:YI ds L q) (hp:p<L.vars.length) (ho:0<=o/\o<=q):YI ds (L.grow t o p) q:=by
 obtain ⟨f1,f2,f3,f4,f5⟩:=hk.len
 refine ⟨⟨by simp [Zc.grow,f1],by simp [Zc.grow,f2],by simp [Zc.grow,f3],by simp [Zc.grow,f4],by simp [Zc.grow,f5]⟩,?_,?_,?_,?_⟩
 ·intro j hj hl
  simp only [Zc.grow,Yz,Fx] at hl ⊢
  by_cases hlt:j<L.vars.length
  ·rw [A8 om];exact hk.down j hj hlt
  ·rw [H0 om];omega
 ·intro x hx hl
  simp only [Zc.grow,Yz,Fx] at hl ⊢
  by_cases hlt:x<L.vars.length
  ·rw [A8 om,A8 om]
   intro hc
   have:=hk.arm x hx hlt hc
   exact ⟨this.1,by omega⟩
  ·rw [H0 om];omega
 ·intro x hx
  simp only [Zc.grow,Yv,YH] at hx
  rcases hx with hx|rfl
  ·exact hk.nn x hx
  ·exact ho.1
 ·intro x hx
  simp only [Zc.grow,Yv,YH] at hx
  rcases hx with hx|rfl
  ·exact hk.bd x hx
  ·exact ho.2
theorem H3 {xs:LI} {k:Nat} {a:Int} {j:Int} (h:xs.length<=j.toNat/\j.toNat<xs.length+k):gI (xs++List.replicate k a) j=a:=by
 rw [gI,C9 h.1,List.getElem?_replicate,Z6 om];rfl
theorem Ed {xs:LI} {x j c:Int} (h:j.toNat=x.toNat) (hl:x.toNat<xs.length):gI (xs.set x.toNat c) j=c:=by
 rw [gI,h,List.getElem?_set_self hl];rfl
theorem Ee {xs:LI} {x j c:Int} (h:j.toNat≠x.toNat):gI (xs.set x.toNat c) j=gI xs j:=by
 rw [gI,gI,List.getElem?_set_ne (fun q=>h q.symm)]
theorem H5 {p:Int}:∀(fs:LI) (L:Zc),K2 L p fs=⟨L.vars++fs,L.own++List.replicate fs.length 0,L.par++List.replicate fs.length p,L.con++List.replicate fs.length (-1),
  L.fst++List.replicate fs.length (-1),L.tok++List.replicate fs.length (-1)⟩
 | [],L=>by simp [K2]
 | t::r,L=>by rw [K2,H5 r];simp [Zc.grow,Bh]
theorem SJ {ds:List Zs} {L:Zc} {q x c:Int} (hk:YI ds L q) (hq:0<=q) (hx:0<=x/\x<L.vars.length):YI ds (KU ds L x c) q/\(KU ds L x c).vars=L.vars++Y2 ds c:=by
 obtain ⟨f1,f2,f3,f4,f5⟩:=hk.len
 rw [KU,H5]
 refine ⟨⟨⟨by simp [f1],by simp [f2],by simp [f3],by simp [f4],by simp [f5]⟩,?_,?_,?_,?_⟩,rfl⟩
 ·intro j hj hl
  simp only [Yz] at hl ⊢
  by_cases hlt:j<L.vars.length
  ·rw [A8 om];exact hk.down j hj hlt
  ·rw [H3 om];omega
 ·intro y hy hl
  simp only [Yz] at hl ⊢
  by_cases hlt:y<L.vars.length
  ·rw [A8 (by simp;omega),A8 (by simp;omega)]
   by_cases he:y.toNat=x.toNat
   ·rw [Ed he om,Ed he om]
    intro _
    exact ⟨by omega,by simp⟩
   ·rw [Ee he,Ee he]
    intro hc
    have:=hk.arm y hy hlt hc
    exact ⟨this.1,by omega⟩
  ·rw [H3 (by simp;omega)];omega
 ·intro y hy
  simp only [Yv,List.mem_replicate] at hy
  rcases hy with hy|⟨_,rfl⟩
  ·exact hk.nn y hy
  ·exact Int.le_refl 0
 ·intro y hy
  simp only [Yv,List.mem_replicate] at hy
  rcases hy with hy|⟨_,rfl⟩
  ·exact hk.bd y hy
  ·exact hq
theorem BQ {n:Zl} {L:Zc} {q:Int} {s:Z8} {i:Nat} {m:LI} (hk:YI n.decls L q) (hq:0<=q) (hf:Jf n L.vars s) (hop:s.op=7∨s.op=8) (hm:(YF n.decls s.op s.num)[i]? = some m) :
  YI n.decls (Vb n.decls L s.op s.num s.args i) q/\(Vb n.decls L s.op s.num s.args i).vars=L.vars++m:=by
 rw [Vb]
 split
 ·rename_i h8
  obtain ⟨a,ha⟩:=hf.one om
  have hb:=hf.args a (by rw [ha];simp)
  have hg:gI s.args 0=a:=by rw [ha];rfl
  rw [YF,Z4 om,Th] at hm
  cases hc:(YG n.decls s.num)[i]? with
  | none=>rw [hc] at hm;cases hm
  | some c=>
   rw [hc] at hm
   cases hm
   have hgc:gI (YG n.decls s.num) (i:Int)=c:=by rw [gI];simp [hc]
   rw [hg,hgc]
   exact SJ hk hq hb
 ·rename_i h8
  rw [YF,Z6 om] at hm
  have:m=[]:=by
   match i,hm with
   | 0,hm=>simpa using hm.symm
   | 1,hm=>simpa using hm.symm
   | i+2,hm=>simp at hm
  subst this
  exact ⟨hk,by simp⟩
theorem Rv {n:Zl}:∀{l:List Z8} {us vs:LI},Xr n l us=some vs->us.length<=vs.length
 | [],us,vs,h=>by rw [Xr] at h;cases h;exact YX _
 | s::r,us,vs,h=>by
  rw [Xr] at h
  split at h
  ·cases h
  ·have:=Rv h
   split at this
   ·simp only [Yz,Fx] at this;omega
   ·exact this
theorem Nq {n:Zl} {ln:LI} {L L':Zc} {op num into q:Int} {args:LI} {ds:List Zs} (hk:YI ds L q) (h:Uo n ln L op num into args=some L'):YI ds L' q/\L'.vars=L.vars:=by
 rw [Uo] at h
 cases ht:TE n op num args 0 L with
 | none=>rw [ht] at h;cases h
 | some L1=>
  rw [ht] at h
  simp only at h
  obtain ⟨k1,k2,k3,k4,k5,k6⟩:=Eg hk ht
  split at h
  ·rw [K5] at h
   split at h
   ·split at h
    ·cases h
    ·cases h
     exact ⟨k1.turn rfl rfl rfl rfl (by simp) rfl k1.nn k1.bd,k2⟩
   ·cases h;exact ⟨k1,k2⟩
  ·cases h
theorem Z1n {L L':Zc} {m:Nat} (h:U8 L m=some L'):L'=L.take m/\WF (L.own.drop m) (L.tok.drop m)=true:=by
 rw [U8] at h
 split at h
 ·rename_i hz;cases h;exact ⟨rfl,hz⟩
 ·cases h
theorem IS {r:Option Zc} {f:Zc->Option Zc} {L:Zc} (h:C6 r f=some L):∃L1,r=some L1/\f L1=some L:=by
 cases r with
 | none=>cases h
 | some L1=>exact ⟨L1,rfl,h⟩
theorem Hs (n:Zl) (hn:YY n) (ln:LI):∀m:Nat,
  (∀(s:Z8) (L L':Zc) (q:Int),s.sz<=m->YI n.decls L q->0<=q->0<=ZQ n L.vars s->UW n ln L s=some L'->YI n.decls L' (q+4*s.sz)/\L'.vars=KJ n L.vars s) /\
  (∀(b:Zh) (L O:Zc) (q:Int) (k:Nat),b.sz<=m->YI n.decls L q->0<=q->0<=Ys n L.vars b->k<=L.vars.length->WL n ln L k b=some O ->
   (O.own.length=k/\O.tok.length=k/\(∀x∈O.own,0<=x/\x<=q+4*b.sz))/\W9 O/\O.vars.length=k):=by
 intro m
 induction m with
 | zero=>exact ⟨fun s _ _ _ h=>by have:=s.sz_pos;omega,fun s _ _ _ _ h=>by have:=s.sz_pos;omega⟩
 | succ m ih=>
  have hs:∀(s:Z8) (L L':Zc) (q:Int),s.sz<=m+1->YI n.decls L q->0<=q->0<=ZQ n L.vars s->UW n ln L s=some L'->YI n.decls L' (q+4*s.sz)/\L'.vars=KJ n L.vars s:=by
   intro s L L' q YD hk hq hty h
   have hp:=s.sz_pos
   have hf:=B6 hty
   obtain ⟨f1,f2,f3,f4,f5⟩:=hk.len
   rw [IL] at h
   unfold K1 at h
   cases hpk:Q1 n ln L s.op s.num s.into s.args (TG n ln L s.op s.num s.args s.kids) with
   | none=>rw [hpk] at h;cases h
   | some L1=>
    rw [hpk] at h
    simp only at h
    have key:YI n.decls L1 (q+4*s.sz)/\L1.vars=L.vars:=by
     rw [Q1] at hpk
     split at hpk
     ·obtain ⟨d1,d2,d3,d4,d5,d6⟩:=GC hpk
      refine ⟨hk.turn d1 d2 d3 d4 (by rw [d5]) (by rw [d6,Qv]) ?_ ?_,d1⟩
      ·rw [d6];intro x hx
       rcases QK hx with hx|rfl
       ·exact hk.nn x hx
       ·have:=H2 (v:=gI s.args 0) hk.nn;omega
      ·rw [d6];intro x hx
       rcases QK hx with hx|rfl
       ·have:=hk.bd x hx;omega
       ·have:=GZ (v:=gI s.args 0) hk.bd hq;omega
     split at hpk
     ·exact ⟨(hk.take hpk).le om,(Qp hpk).2.1⟩
     split at hpk
     ·rename_i hop
      obtain ⟨d1,d2,d3,d4,d5,Lt,ht,d6⟩:=HU hpk
      have hkt:=hk.take ht
      have h3:=TU hn.decls (gI L.con (gI s.args 0))
      refine ⟨hk.turn d1 d2 d3 d4 d5 ?_ ?_ ?_,d1⟩
      ·rw [d6,FS,(Qp ht).2.2.2.2.2.2,Qv]
      ·rw [d6];exact FT _ _ _ hkt.nn
      ·rw [d6];intro x hx
       have:=FQ _ _ _ q hq hkt.bd x hx;omega
     split at hpk
     ·rename_i hop
      split at hpk
      ·cases hpk
      ·cases hks:s.kids with
       | nil=>rw [hks,TG] at hpk;cases hpk
       | cons b bs=>
        rw [hks,TG] at hpk
        unfold Ai at hpk
        cases hb:WL n ln (Vb n.decls L s.op s.num s.args 0) L.vars.length b with
        | none=>rw [hb] at hpk;cases hpk
        | some one=>
         rw [hb] at hpk
         simp only at hpk
         split at hpk
         ·cases hpk
          obtain ⟨q1,q2,q3⟩:=hf.kids hop
          have hks0:s.kids[0]? = some b:=by rw [hks];rfl
          obtain ⟨a0,ha0⟩:=QH (xs:=YF n.decls s.op s.num) (j:=0) om
          obtain ⟨k1,k2⟩:=BQ hk hq hf hop ha0
          have hbz:=Ka hks0
          obtain ⟨⟨r1,r2,r3⟩,_⟩:=ih.2 b _ one q L.vars.length om k1 hq (by rw [k2];exact q3 0 b a0 hks0 ha0) (by rw [k2];simp) hb
          refine ⟨hk.turn rfl rfl rfl rfl (by simp only;omega) (by simp only;omega) (fun x hx=>(r3 x hx).1) (fun x hx=>?_),rfl⟩
          have:=(r3 x hx).2;omega
         ·cases hpk
     ·obtain ⟨k1,k2⟩:=Nq hk hpk
      exact ⟨k1.le om,k2⟩
    split at h
    ·rename_i hd
     cases h
     refine ⟨key.1.grow om ?_,by rw [KJ,Z6 hd];simp [Zc.grow,key.2]⟩
     split<;>omega
    ·rename_i hd
     cases h
     exact ⟨key.1,by rw [KJ,Z4 hd];exact key.2⟩
  refine ⟨hs,?_⟩
  intro b L O q k YD hk hq hty hkl h
  have hsteps:∀(l:List Z8) (L L':Zc) (q:Int) (vs:LI),Y6 l<=m->YI n.decls L q->0<=q->Xr n l L.vars=some vs->V0 n ln L l=some L'->YI n.decls L' (q+4*Y6 l)/\L'.vars=vs:=by
   intro l
   induction l with
   | nil=>intro L L' q vs _ hk _ h1 h2;rw [Xr] at h1;rw [V0] at h2;cases h1;cases h2;exact ⟨by simpa [Y6] using hk,rfl⟩
   | cons s r ihr=>
    intro L L' q vs hz hk hq h1 h2
    rw [Y6] at hz
    rw [V0] at h2
    obtain ⟨L1,e1,e2⟩:=IS h2
    rw [Xr] at h1
    split at h1
    ·cases h1
    ·rename_i h0
     obtain ⟨k1,k2⟩:=hs s L L1 q om hk hq om e1
     obtain ⟨k3,k4⟩:=ihr L1 L' (q+4*s.sz) vs om k1 om (by rw [k2];exact h1) e2
     exact ⟨k3.le (by rw [Y6];omega),k4⟩
  have hbz:=b.sz_eq
  rw [Ku] at h
  obtain ⟨L1,e1,e2⟩:=IS h
  rw [DI] at hty
  cases hv:Xr n b.steps L.vars with
  | none=>rw [hv] at hty;simp at hty
  | some vs=>
   obtain ⟨k1,k2⟩:=hsteps b.steps L L1 q vs om hk hq hv e1
   have hlen:=Rv hv
   rw [VH] at e2
   obtain ⟨L2,e3,e4⟩:=IS e2
   have k3:YI n.decls L2 (q+4*Y6 b.steps)/\L2.vars=L1.vars:=by
    split at e3
    ·exact ⟨k1.take e3,(Qp e3).2.1⟩
    ·cases e3;exact ⟨k1,rfl⟩
   obtain ⟨rfl,_⟩:=Z1n e4
   obtain ⟨g1,g2,g3,g4,g5⟩:=k3.1.len
   have hl2:L2.vars.length=vs.length:=by rw [k3.2,k2]
   refine ⟨⟨by simp [Zc.take];omega,by simp [Zc.take];omega,fun x hx=>?_⟩,⟨by simp [Zc.take];omega,by simp [Zc.take];omega,by simp [Zc.take];omega,by simp [Zc.take];omega,by simp [Zc.take];omega⟩,by simp [Zc.take];omega⟩
   have hx':x∈L2.own:=Cc hx
   have:=k3.1.nn x hx'
   have:=k3.1.bd x hx'
   omega
theorem IM {n:Zl} (hn:YY n) {ln:LI} {s:Z8} {L L':Zc} {q:Int} (hk:YI n.decls L q) (hq:0<=q) (hty:0<=ZQ n L.vars s) (h:UW n ln L s=some L'):YI n.decls L' (q+4*s.sz)/\L'.vars=KJ n L.vars s:=
 (Hs n hn ln s.sz).1 s L L' q (YX _) hk hq hty h
theorem LW {n:Zl} (hn:YY n) {ln:LI} {b:Zh} {L O:Zc} {q:Int} {k:Nat} (hk:YI n.decls L q) (hq:0<=q) (hty:0<=Ys n L.vars b) (hkl:k<=L.vars.length) (h:WL n ln L k b=some O) :
  O.own.length=k/\O.tok.length=k/\(∀x∈O.own,0<=x/\x<=q+4*b.sz):=
 ((Hs n hn ln b.sz).2 b L O q k (YX _) hk hq hty hkl h).1
theorem An {n:Zl} (hn:YY n) {ln:LI} {s:Z8} {L L1:Zc} {q:Int} (hk:YI n.decls L q) (hq:0<=q) (hf:Jf n L.vars s)
  (hpk:Q1 n ln L s.op s.num s.into s.args (TG n ln L s.op s.num s.args s.kids)=some L1):YI n.decls L1 (q+4*s.sz)/\L1.vars=L.vars:=by
 have hp:=s.sz_pos
 obtain ⟨f1,f2,f3,f4,f5⟩:=hk.len
 rw [Q1] at hpk
 split at hpk
 ·obtain ⟨d1,d2,d3,d4,d5,d6⟩:=GC hpk
  refine ⟨hk.turn d1 d2 d3 d4 (by rw [d5]) (by rw [d6,Qv]) ?_ ?_,d1⟩
  ·rw [d6];intro x hx
   rcases QK hx with hx|rfl
   ·exact hk.nn x hx
   ·have:=H2 (v:=gI s.args 0) hk.nn;omega
  ·rw [d6];intro x hx
   rcases QK hx with hx|rfl
   ·have:=hk.bd x hx;omega
   ·have:=GZ (v:=gI s.args 0) hk.bd hq;omega
 split at hpk
 ·exact ⟨(hk.take hpk).le om,(Qp hpk).2.1⟩
 split at hpk
 ·rename_i hop
  obtain ⟨d1,d2,d3,d4,d5,Lt,ht,d6⟩:=HU hpk
  have hkt:=hk.take ht
  have h3:=TU hn.decls (gI L.con (gI s.args 0))
  refine ⟨hk.turn d1 d2 d3 d4 d5 ?_ ?_ ?_,d1⟩
  ·rw [d6,FS,(Qp ht).2.2.2.2.2.2,Qv]
  ·rw [d6];exact FT _ _ _ hkt.nn
  ·rw [d6];intro x hx
   have:=FQ _ _ _ q hq hkt.bd x hx;omega
 split at hpk
 ·rename_i hop
  split at hpk
  ·cases hpk
  ·cases hks:s.kids with
   | nil=>rw [hks,TG] at hpk;cases hpk
   | cons b bs=>
    rw [hks,TG] at hpk
    unfold Ai at hpk
    cases hb:WL n ln (Vb n.decls L s.op s.num s.args 0) L.vars.length b with
    | none=>rw [hb] at hpk;cases hpk
    | some one=>
     rw [hb] at hpk
     simp only at hpk
     split at hpk
     ·cases hpk
      obtain ⟨q1,q2,q3⟩:=hf.kids hop
      have hks0:s.kids[0]? = some b:=by rw [hks];rfl
      obtain ⟨a0,ha0⟩:=QH (xs:=YF n.decls s.op s.num) (j:=0) om
      obtain ⟨k1,k2⟩:=BQ hk hq hf hop ha0
      have hbz:=Ka hks0
      obtain ⟨r1,r2,r3⟩:=LW hn k1 hq (by rw [k2];exact q3 0 b a0 hks0 ha0) (by rw [k2];simp) hb
      refine ⟨hk.turn rfl rfl rfl rfl (by simp only;omega) (by simp only;omega) (fun x hx=>(r3 x hx).1) (fun x hx=>?_),rfl⟩
      have:=(r3 x hx).2;omega
     ·cases hpk
 ·obtain ⟨k1,k2⟩:=Nq hk hpk
  exact ⟨k1.le om,k2⟩
end Go.Abs
section
namespace Go.Abs
theorem FX {ds:List Zs} {op num:Int} {i:Nat} {m:LI} (h8:op=8) (h:(YF ds op num)[i]? = some m):∃c,(YG ds num)[i]? = some c/\m=Y2 ds c:=by
 rw [YF,Z4 om,Th] at h
 cases hc:(YG ds num)[i]? with
 | none=>rw [hc] at h;cases h
 | some c=>rw [hc] at h;cases h;exact ⟨c,rfl,rfl⟩
theorem Z6n {ds:List Zs} {L:Zc} {op num x c:Int} {args:LI} {i:Nat} (h8:op=8) (hx:args[0]? = some x) (hc:(YG ds num)[i]? = some c):Vb ds L op num args i=KU ds L x c:=by
 have h1:gI args 0=x:=by rw [gI];simp [hx]
 have h2:gI (YG ds num) (i:Int)=c:=by rw [gI];simp [hc]
 rw [Vb,Z6 h8,h1,h2]
theorem Z6o {ds:List Zs} {L:Zc} {op num:Int} {args:LI} {i:Nat} (h8:¬op=8):Vb ds L op num args i=L:=by rw [Vb,Z4 h8]
theorem Z6p {n:Zl} {ln:LI} {L:Zc} {op num:Int} {args:LI} {kids:List Zh} {kb:Zh} (h:kids[0]? = some kb) :
  TG n ln L op num args kids=Ai L (WL n ln (Vb n.decls L op num args 0) L.vars.length kb) fun one=>QI n ln L op num args one (kids.drop 1) 1:=by
 cases kids with
 | nil=>simp at h
 | cons b bs=>simp at h;subst h;rw [TG];rfl
theorem CM {n:Zl} {ln:LI} {L one:Zc} {op num:Int} {args:LI} {kids:List Zh} {kb:Zh} {k:Nat} (h:kids[k]? = some kb) :
  QI n ln L op num args one (kids.drop k) k=F5 one (WL n ln (Vb n.decls L op num args k) L.vars.length kb) (QI n ln L op num args one (kids.drop (k+1)) (k+1)):=by
 rw [ZH h,QI]
def Kw (n:Zl) (ln:LI) (L:Zc) (s:Z8):Option Zc:=
 if s.op=8/\¬XV L ln (gI s.args 0)=true then none else TG n ln L s.op s.num s.args s.kids
theorem Z0w {n:Zl} {ln:LI} {L:Zc} {s:Z8} (h8:s.op=8) (ha:¬XV L ln (gI s.args 0)=true):Kw n ln L s=none:=by rw [Kw,Z6 ⟨h8,ha⟩]
theorem Mf {n:Zl} {ln:LI} {L:Zc} {s:Z8} {kb:Zh} (h:¬(s.op=8/\¬XV L ln (gI s.args 0)=true)) (hk:s.kids[0]? = some kb) :
  Kw n ln L s=Ai L (WL n ln (Vb n.decls L s.op s.num s.args 0) L.vars.length kb) fun one=>QI n ln L s.op s.num s.args one (s.kids.drop 1) 1:=by
 rw [Kw,Z4 h,Z6p hk]
theorem J1 {xs:LI} {x:Int} (h:xs[0]? = some x):gI xs 0=x:=by rw [gI];simp [h]
end Go.Abs
namespace Go.Abs
theorem W9.grow {L:Zc} {t o p:Int} (h:W9 L):W9 (L.grow t o p):=by
 obtain ⟨f1,f2,f3,f4,f5⟩:=h
 exact ⟨by simp [Zc.grow,f1],by simp [Zc.grow,f2],by simp [Zc.grow,f3],by simp [Zc.grow,f4],by simp [Zc.grow,f5]⟩
theorem W9.arm {L:Zc} {i j:Nat} {c d:Int} (h:W9 L):W9 ⟨L.vars,L.own,L.par,L.con.set i c,L.fst.set j d,L.tok⟩:=by
 obtain ⟨f1,f2,f3,f4,f5⟩:=h
 exact ⟨f1,f2,by simp [f3],by simp [f4],f5⟩
end Go.Abs
namespace Go.Abs
theorem O6 {n:Zl} (hn:YY n) {ln:LI} {L O:Zc} {q:Int} {s:Z8} {i:Nat} {kb:Zh} {m:LI} (hk:YI n.decls L q) (hq:0<=q) (hf:Jf n L.vars s) (hop:s.op=7∨s.op=8)
  (_:s.kids[i]? = some kb) (harm:(YF n.decls s.op s.num)[i]? = some m) (hbt:0<=Ys n (L.vars++m) kb) (h:WL n ln (Vb n.decls L s.op s.num s.args i) L.vars.length kb=some O) :
  O.own.length=L.vars.length/\O.tok.length=L.vars.length:=by
 obtain ⟨k1,k2⟩:=BQ hk hq hf hop harm
 obtain ⟨r1,r2,_⟩:=LW hn k1 hq (by rw [k2];exact hbt) (by rw [k2];simp) h
 exact ⟨r1,r2⟩
theorem PJ {one two:Zc} {r:Bool} (h:¬(¬one.own=two.own∨¬one.tok=two.tok)):F5 one (some two) r=r:=Z6 ⟨Wr.1 fun q=>h (.inl q),Wr.1 fun q=>h (.inr q)⟩
theorem PI {one two:Zc} {r:Bool} (h:¬one.own=two.own∨¬one.tok=two.tok):F5 one (some two) r=false:=Z4 fun q=>h.elim (fun z=>z q.1) fun z=>z q.2
theorem OC {L one:Zc} {f:Zc->Bool} (h:f one=true):Ai L (some one) f=some ⟨L.vars,one.own,L.par,L.con,L.fst,one.tok⟩:=Z6 h
theorem CS {L one:Zc} {f:Zc->Bool} (h:f one=false):Ai L (some one) f=none:=Z4 (by rw [h];simp)
end Go.Abs
namespace Go.Abs
section
variable {n:Zl} {ln:LI} {L:Zc} {s:Z8}
abbrev Q2 (n:Zl) (ln:LI) (L:Zc) (s:Z8):Option Zc:=Q1 n ln L s.op s.num s.into s.args (TG n ln L s.op s.num s.args s.kids)
theorem HY {x:Int} (h:s.op=14) (hx:gI s.args 0=x):Q2 n ln L s=KY L ln x:=hx▸Z6 h
theorem HZ {x:Int} (h:s.op=15) (hx:gI s.args 0=x):Q2 n ln L s=Ug L x:=by rw [<-hx,Q2,Q1,Z4 om,Z6 h]
theorem I0 {x:Int} (h:s.op=16∨s.op=17) (hx:gI s.args 0=x):Q2 n ln L s=TK n.decls L s.op x:=by rw [<-hx,Q2,Q1,Z4 om,Z4 om,Z6 h]
theorem EU (h:s.op=7∨s.op=8):Q2 n ln L s=Kw n ln L s:=by rw [Q2,Q1,Z4 om,Z4 om,Z4 om,Z6 h,Kw]
theorem Pd (h1:¬s.op=14) (h2:¬s.op=15) (h3:¬(s.op=16∨s.op=17)) (h4:¬(s.op=7∨s.op=8)):Q2 n ln L s=Uo n ln L s.op s.num s.into s.args:=by
 rw [Q2,Q1,Z4 h1,Z4 h2,Z4 h3,Z4 h4]
theorem Z2c {v:Int} (h:¬XV L ln v=true):KY L ln v=none:=Z4 h
theorem Z2d {v x:Int} (h:¬¬XV L ln v=true) (hx:gI L.own v=x):KY L ln v=some ⟨L.vars,L.own.set v.toNat (x+1),L.par,L.con,L.fst,L.tok⟩:=by rw [KY,Z6 (Wr.1 h),hx]
theorem Uf (n:Zl) (ln:LI) (L:Zc) (s:Z8):UW n ln L s=K1 L s.op (ZQ n L.vars s) (Q2 n ln L s):=IL n ln L s
theorem UR {X:Zc} {op t:Int} (h:Xx op=true/\t≠0):K1 L op t (some X)=some (X.grow t 1 (-1)):=by
 unfold K1;simp only [h.1,↓reduceIte];rw [Z6 h.2]
theorem US {X:Zc} {op t:Int} (h:¬(Xx op=true/\t≠0)) (h2:Xx op=true):K1 L op t (some X)=some (X.grow 0 0 (-1)):=by
 have ht:t=0:=Wr.1 fun q=>h ⟨h2,q⟩
 subst ht
 unfold K1;simp only [h2,↓reduceIte];rfl
theorem UT {X:Zc} {op t:Int} (h:¬Xx op=true):K1 L op t (some X)=some X:=by
 unfold K1;simp only [Z4 h]
end
end Go.Abs
namespace Go.Abs
theorem Bp {n:Zl} {us:LI} {b:Zh} (h:0<=Ys n us b):∃vs t,Xr n b.steps us=some vs/\YJ vs b.result=some t/\0<=t:=by
 rw [DI] at h
 cases hv:Xr n b.steps us with
 | none=>rw [hv] at h;simp at h
 | some vs=>
  rw [hv] at h
  simp only at h
  cases ha:YJ vs b.result with
  | none=>rw [ha] at h;simp at h
  | some t=>rw [ha] at h;exact ⟨vs,t,rfl,ha,h⟩
theorem C4 {n:Zl} {us vs:LI} {s:Z8} {r:List Z8} (h:Xr n (s::r) us=some vs):0<=ZQ n us s/\Xr n r (KJ n us s)=some vs:=by
 rw [Xr] at h
 split at h
 ·cases h
 ·exact ⟨by omega,h⟩
theorem C1 (n:Zl) (us:LI) (s:Z8):us.length<=(KJ n us s).length/\(KJ n us s).length<=us.length+s.sz:=by
 have:=s.sz_pos
 rw [KJ];split
 ·simp only [Yz,Fx];omega
 ·omega
end Go.Abs
namespace Go.Abs
theorem Z33 {X L:Zc} {m:Nat} {r x:Int} (hg:gI L.vars r=x) (h:x≠0) (ht:Ug L r=some X):VH m r L=U8 X m:=by rw [VH,hg,Z6 h,ht];rfl
theorem Z32 {L:Zc} {m:Nat} {r x:Int} (hg:gI L.vars r=x) (h:x≠0) (ht:Ug L r=none):VH m r L=none:=by rw [VH,hg,Z6 h,ht];rfl
theorem Cy {L:Zc} {m:Nat} {r x:Int} (hg:gI L.vars r=x) (h:¬x≠0):VH m r L=U8 L m:=by rw [VH,hg,Z4 h];rfl
end Go.Abs
namespace Go.Abs
theorem Pb {ds:List Zs} {lent:LI}:∀{ps:LI} {i:Nat} {L:Zc},YI ds L 1->YI ds (Qm lent ps i L) 1/\(Qm lent ps i L).vars=L.vars++ps
 | [],i,L,hk=>⟨hk,by simp [Qm]⟩
 | t::r,i,L,hk=>by
  rw [Qm]
  obtain ⟨k1,k2⟩:=Pb (lent:=lent) (ps:=r) (i:=i+1) (hk.grow (t:=t) (o:=if t≠0/\¬(i:Int)∈lent then 1 else 0) (p:=-1) om (by split<;>omega))
  exact ⟨k1,by rw [k2];simp [Zc.grow]⟩
theorem OK (ds:List Zs) (r:YB):YI ds (Ur r) 1/\(Ur r).vars=r.params:=by
 have h:YI ds (⟨[],[],[],[],[],[]⟩:Zc) 1:=⟨⟨rfl,rfl,rfl,rfl,rfl⟩,fun j h1 h2=>by simp at h2;omega,fun j h1 h2=>by simp at h2;omega,by simp,by simp⟩
 obtain ⟨k1,k2⟩:=Pb (lent:=r.lent) (ps:=r.params) (i:=0) h
 exact ⟨k1,by rw [Ur,k2];rfl⟩
theorem Z1l {L:Zc} (h:U8 L 0=none):(U8 L 0).isSome=false:=by rw [h];rfl
theorem Z1m {L L':Zc} (h:U8 L 0=some L'):(U8 L 0).isSome=true:=by rw [h];rfl
theorem Z0b {n:Zl} (hn:YY n) {ln:LI} {b:Zh} {L O:Zc} {q:Int} {k:Nat} (hk:YI n.decls L q) (hq:0<=q) (hty:0<=Ys n L.vars b) (hkl:k<=L.vars.length) (h:WL n ln L k b=some O) :
  W9 O/\O.vars.length=k:=
 ((Hs n hn ln b.sz).2 b L O q k (YX _) hk hq hty hkl h).2
end Go.Abs
namespace Go.Abs
theorem I9 {n:Zl}:∀{l:List YB},Tu n l=true->∀r∈l,¬UG r.body<0/\Ys n r.params r.body=r.result
 | [],_,r,h=>by simp at h
 | a::l,h,r,hr=>by
  rw [Tu] at h
  split at h
  ·rename_i h1
   rcases Yw.1 hr with rfl|hr
   ·exact h1
   ·exact I9 h r hr
  ·cases h
theorem Dp {n:Zl} (hz:WI n) (h:XT n=true):YY n/\∀r∈n.routines,0<=Ys n r.params r.body:=by
 simp only [XT,Xs] at h
 refine ⟨HP hz h.1,fun r hr=>?_⟩
 rw [(I9 h.2 r hr).2]
 have h1:=h.1
 simp only [V5,Qs,Xs] at h1
 have:=Io h1.2.1.2.2.1 (VU r) (Xb.2 ⟨r,hr,rfl⟩)
 simp only [Ke,Xs,decide_eq_true_eq,VU] at this
 exact (of_decide_eq_true this.2.2).1
end Go.Abs
end
section
namespace Go.Abs
theorem GK {xs:LI} (h:Zi xs=[]):xs=[]:=by cases xs with|nil=>rfl|cons x r=>cases h
theorem Z2j {xs:List Xp} (h:Wa xs=[]):xs=[]:=by cases xs with|nil=>rfl|cons x r=>cases h
theorem Z2l {xs:List Zs} (h:X1 xs=[]):xs=[]:=by cases xs with|nil=>rfl|cons x r=>cases h
def J2 (i:Int):LI->Nat->Int
 | [],_=>-1
 | x::r,k=>if i=x then (k:Int) else J2 i r (k+1)
def Et (xs:LI) (i:Int):Int:=J2 i xs 0
theorem NR (i:Int):∀(xs:LI) (k:Nat),(0<=J2 i xs k↔i∈xs)/\-1<=J2 i xs k
 | [],k=>by simp [J2]
 | x::r,k=>by
  rw [J2]
  obtain ⟨h1,h2⟩:=NR i r (k+1)
  split
  ·rename_i h;subst h;simp<;>omega
  ·rename_i h;simp [h1,h,h2]
theorem Z5y (xs:LI) (i:Int):decide (Et xs i>=0)=decide (i∈xs):=by
 rw [decide_eq_decide];exact (NR i xs 0).1
end Go.Abs
namespace Go.Abs
theorem Nl (xss:List LI) (k:Nat):(xss.take k).flatten.length<=xss.flatten.length:=by
 conv=>rhs;rw [<-Lb k xss,List.flatten_append,Yz]
 omega
end Go.Abs
namespace Go.Abs
theorem GV {xss:List LI} {k:Nat} {x:LI} (h:xss[k]? = some x):(xss.take (k+1)).flatten=(xss.take k).flatten++x:=by rw [WP h,List.flatten_append];simp
theorem Nk {xss:List LI} {k:Nat} {x:LI} (h:xss[k]? = some x):(xss.take k).flatten.length+x.length<=xss.flatten.length:=by
 have:=Nl xss (k+1)
 rw [GV h,Yz] at this
 exact this
end Go.Abs
end
section
namespace Go.Abs
theorem Z1b {c:Int} {ds:List Zs} {k:Nat} {d:Zs} {r:Int × LI} (h:ds[k]? = some d) (hn:¬(c-Yh (ds.take k)>=0/\c-Yh (ds.take k)<d.cons.length))
  (hr:UM c (ds.drop k) k (Yh (ds.take k))=r):UM c (ds.drop (k+1)) (k+1) (Yh (ds.take (k+1)))=r:=by
 rw [ZH h,UM,Z4 om] at hr
 rw [WP h,Cr,<-hr];rfl
end Go.Abs
namespace Go.Abs
theorem Z1d {c:Int} {ds:List Zs} {k:Nat} {d:Zs} {x:Xp} (h:ds[k]? = some d) (hn:c-Yh (ds.take k)>=0/\c-Yh (ds.take k)<d.cons.length)
  (hx:d.cons[(c-Yh (ds.take k)).toNat]? = some x):UM c (ds.drop k) k (Yh (ds.take k))=((k:Int)+1,x.fields):=by
 rw [ZH h,UM,Z6 om,hx];rfl
def JR (c:Int) (z:Nat) (v:Int):Prop:=v=c-z∨(c<0/\c-z < -9223372036854775808/\v=c-z+18446744073709551616)
theorem SQ {c:Int} {z l:Nat} {v:Int} (h:JR c z v) (hz:z<=100) (hl:l<=3) (hc:-9223372036854775808<=c/\c<=9223372036854775807):JR c (z+l) (Bc (v-l)):=by
 unfold JR at *;rw [Bc,IntKind.wrap_i64];omega
theorem Z1c {c v:Int} {ds:List Zs} {k:Nat} {d:Zs} {r:Int × LI} (h:ds[k]? = some d) (ha:JR c (Yh (ds.take k)) v) (hn:¬(v>=0/\v<d.cons.length))
  (hr:UM c (ds.drop k) k (Yh (ds.take k))=r):UM c (ds.drop (k+1)) (k+1) (Yh (ds.take (k+1)))=r:=Z1b h (by unfold JR at ha;omega) hr
theorem Z1e {c v:Int} {ds:List Zs} {k:Nat} {d:Zs} {x:Xp} (h:ds[k]? = some d) (ha:JR c (Yh (ds.take k)) v) (hz:Yh (ds.take k)<=100) (hl:d.cons.length<=3) (hc:-9223372036854775808<=c)
  (hn:v>=0/\v<d.cons.length) (hx:d.cons[v.toNat]? = some x):UM c (ds.drop k) k (Yh (ds.take k))=((k:Int)+1,x.fields):=by
 have:v=c-(Yh (ds.take k):Int):=by unfold JR at ha;omega
 subst this
 exact Z1d h hn hx
def Vn (ds:List Zs) (t:Int):Zs:=if XK ds t=true then (ds[(t-1).toNat]?).getD ⟨0,0,[]⟩ else ⟨0,0,[]⟩
end Go.Abs
namespace Go.Abs
abbrev MD (ds:List Zs) (d:Zs):Prop:=
 (((¬(0<=d.frm/\d.frm<=ds.length))∨(¬(0<=d.to_/\d.to_<=ds.length)))∨((d.cons.length:Int)>3))∨(((d.cons.length:Int)>0)/\((d.frm≠0)∨(d.to_≠0)))
theorem Z23 {ds:List Zs} {d:Zs} {i:Nat} (h:MD ds d):Ul ds d i=false:=by
 rw [Ul]
 split
 ·rw [Z4];rintro ⟨h1,h2,h3⟩
  rcases h with ((h|h)|h)|h<;>omega
 ·split
  ·rfl
  ·rcases h with ((h|h)|h)|h
   ·rw [decide_eq_false h];rfl
   ·rw [decide_eq_false h,Bool.and_false]
   ·omega
   ·omega
theorem Z24 {ds:List Zs} {d:Zs} {i:Nat} (hl:0<d.cons.length) (h:Tb ds.length d.cons=false):Ul ds d i=false:=by
 rw [Ul,Z6 hl];split
 ·exact h
 ·rfl
theorem Z25 {ds:List Zs} {d:Zs} {i:Nat} (hl:d.cons.length=0) (h:Qg d (ds.take i)=true):Ul ds d i=false:=by
 rw [Ul,Z4 om,Z6 h]
theorem Z26 {ds:List Zs} {d:Zs} {i:Nat} (h1:¬MD ds d) (h2:Tb ds.length d.cons=true) (h3:d.cons.length=0->Qg d (ds.take i)=false):Ul ds d i=true:=by
 rw [Ul]
 have ha:0<=d.frm/\d.frm<=ds.length:=Wr.1 fun q=>h1 (.inl (.inl (.inl q)))
 have hb:0<=d.to_/\d.to_<=ds.length:=Wr.1 fun q=>h1 (.inl (.inl (.inr q)))
 have hc:¬(d.cons.length:Int)>3:=fun q=>h1 (.inl (.inr q))
 split
 ·rename_i hl
  have hd:¬(d.frm≠0∨d.to_≠0):=fun q=>h1 (.inr ⟨by omega,q⟩)
  rw [Z6 ⟨by omega,by omega,by omega⟩];exact h2
 ·rw [Z4 (by rw [h3 om];simp),decide_eq_true ha,decide_eq_true hb];rfl
theorem IY {ds:List Zs} {k:Nat} {d:Zs} (h:ds[k]? = some d) (hA:Ul ds d k=false) (c:UO ds (ds.drop k) k=UO ds ds 0):false=Wv ds:=by
 rw [Wv,<-c,ZH h,UO,Ct h,hA,Z4 (by simp),Bool.and_false]
theorem Zdw {ds:List Zs} {k:Nat} {d:Zs} {r:Bool} (h:ds[k]? = some d) (hA:Ul ds d k=true) (c:UO ds (ds.drop k) k=r):UO ds (ds.drop (k+1)) (k+1)=r:=by
 rw [ZH h,UO,Ct h,hA,Z6 rfl] at c;exact c
theorem Zdv {ds:List Zs} {k:Nat} (hl:ds.length<=4) (hk:ds.length<=k) (c:UO ds (ds.drop k) k=UO ds ds 0):true=Wv ds:=by
 rw [Wv,<-c,YR hk,decide_eq_true hl];rfl
theorem Z1f {m:Nat} {c:Xp} (h:((c.fields.length:Int)>3)∨(¬(XP m c.fields=true))):Kx m c=false:=by
 rw [Kx]
 rcases h with h|h
 ·rw [decide_eq_false om];rfl
 ·rw [Ja.2 h,Bool.and_false]
theorem Z1g {m:Nat} {c:Xp} (h:¬(((c.fields.length:Int)>3)∨(¬(XP m c.fields=true)))):Kx m c=true:=by
 rw [Kx,Wr.1 fun q=>h (.inr q),decide_eq_true (by have:¬(c.fields.length:Int)>3:=fun q=>h (.inl q);omega)];rfl
end Go.Abs
end
section
namespace Go.Abs
structure WJ where
 pms:LI
 lnt:LI
 res:Int
abbrev Od (f:WJ):List AV:=[Ze f.pms,Ze f.lnt,.i f.res]
abbrev DC (f:WJ):AV:=.agg (Od f)
def UQ (fs:List WJ):List AV:=fs.map DC
abbrev BT (xs:List WJ):AV:=.sl (UQ xs) none
abbrev ER (xs:List WJ) (v:Value):AV:=.sl (UQ xs) (some v)
theorem AP {xs:List WJ} {j:Nat} {x:WJ} (h:xs[j]? = some x):(UQ xs)[j]? = some (DC x):=by simp [UQ,h]
@[simp] theorem Cv (xs:List WJ):(UQ xs).length=xs.length:=by simp [UQ]
theorem MT (xs:List WJ):∀y∈UQ xs,y.leaves.length=3:=by intro y hy;simp only [UQ,Xb] at hy;obtain ⟨x,_,rfl⟩:=hy;rfl
theorem Z2v (xs:List WJ):(Zu (UQ xs)).all AV.one=true:=KB fun y hy=>by simp only [UQ,Xb] at hy;obtain ⟨x,_,rfl⟩:=hy;rfl
def Xn (r:YB):WJ:=⟨r.params,r.lent,r.result⟩
def J5 (m:Nat) (f:WJ):Bool:=Ke m ⟨f.pms,f.res⟩&&Kj f.pms f.lnt
def QM (m:Nat):List WJ->Bool
 | []=>true
 | f::r=>if J5 m f=true then QM m r else false
def GS:List WJ->Bool
 | []=>false
 | f::_=>decide (f.pms.length=0)&&decide (f.res=0)
def Kk (ds:List Zs) (fs:List WJ):Bool:=Wv ds&&(decide (1<=fs.length/\fs.length<=4)&&(GS fs&&QM ds.length fs))
theorem Nb {fs:List WJ} {x:WJ} (h:fs[0]? = some x):GS fs=(decide (x.pms.length=0)&&decide (x.res=0)):=by
 cases fs with
 | nil=>simp at h
 | cons f r=>simp at h;subst h;rfl
theorem PV (m:Nat):∀rs:List YB,QM m (rs.map Xn)=(Kf m (rs.map VU)&&TI rs)
 | []=>rfl
 | r::rs=>by
  simp only [Ww,QM,Kf,TI,J5,PV m rs]
  simp only [Xn,VU]
  by_cases h1:Ke m { params:=r.params,result:=r.result }=true<;>by_cases h2:Kj r.params r.lent=true<;>simp [h1,h2]
theorem ON (n:Zl):V5 n=(decide (n.routines.length<=4)&&Kk n.decls (n.routines.map Xn)):=by
 have hf:GS (n.routines.map Xn)=Eb (n.routines.map VU):=by
  cases n.routines with
  | nil=>rfl
  | cons r rs=>rfl
 rw [V5,Kk,Qs,PV,hf]
 simp only [Uh]
 cases decide (n.routines.length<=4)<;>cases Wv n.decls<;>cases decide (1<=n.routines.length/\n.routines.length<=4)<;>cases Kf n.decls.length (n.routines.map VU) <;>
  cases Eb (n.routines.map VU)<;>cases TI n.routines<;>rfl
theorem F8 {rs:List YB} {j:Nat} {x:WJ} (h:(rs.map Xn)[j]? = some x):∃r,rs[j]? = some r/\x=Xn r:=by
 rw [Th] at h
 cases hr:rs[j]? with
 | none=>rw [hr] at h;cases h
 | some r=>rw [hr] at h;cases h;exact ⟨r,rfl,rfl⟩
theorem Oo {ps ls:LI} {j:Nat} {v:Int} {r:Bool} (h:ls[j]? = some v) (hg:(0<=v/\v<=(ps.length:Int)-1)/\ps[v.toNat]?≠some 0/\(∀p,(if j=0 then none else ls[j-1]?)=some p->p<v))
  (hr:TZ ps (ls.drop j) (if j=0 then none else ls[j-1]?)=r):TZ ps (ls.drop (j+1)) (if j+1=0 then none else ls[j+1-1]?)=r:=by
 rw [ZH h,Hy hg] at hr
 rw [Z4 om,show j+1-1=j from rfl,h];exact hr
theorem Hz {ps ls:LI} {j:Nat} {v:Int} {r:Bool} (h:ls[j]? = some v) (hg:¬((0<=v/\v<=(ps.length:Int)-1)/\ps[v.toNat]?≠some 0/\(∀p,(if j=0 then none else ls[j-1]?)=some p->p<v)))
  (hr:TZ ps (ls.drop j) (if j=0 then none else ls[j-1]?)=r):r=false:=by
 rw [ZH h,EH hg] at hr;exact hr.symm
theorem F9 {m:Nat} {fs:List WJ} {k:Nat} {f:WJ} {r:Bool} (h:fs[k]? = some f) (hb:J5 m f=false) (hr:QM m (fs.drop k)=r):r=false:=by
 rw [ZH h,QM,hb,Z4 (by simp)] at hr;exact hr.symm
theorem Zam {m:Nat} {fs:List WJ} {k:Nat} {f:WJ} {r:Bool} (h:fs[k]? = some f) (hb:J5 m f=true) (hr:QM m (fs.drop k)=r):QM m (fs.drop (k+1))=r:=by
 rw [ZH h,QM,Z6 hb] at hr;exact hr
end Go.Abs
namespace Go.Abs
section
variable {ds:List Zs} {fs:List WJ} {x:WJ}
theorem Ze2 (h:((¬(Wv ds=true))∨((fs.length:Int)<1))∨((fs.length:Int)>4)):false=Kk ds fs:=by
 rw [Kk]
 rcases h with (h|h)|h
 ·rw [Ja.2 h];rfl
 ·rw [decide_eq_false (p:=1<=fs.length/\fs.length<=4) om];simp
 ·rw [decide_eq_false (p:=1<=fs.length/\fs.length<=4) om];simp
theorem RO (hx:fs[0]? = some x) (h:((x.pms.length:Int)>0)∨x.res≠0):false=Kk ds fs:=by
 rw [Kk,Nb hx]
 rcases h with h|h
 ·rw [decide_eq_false (p:=x.pms.length=0) om];simp
 ·rw [decide_eq_false (p:=x.res=0) h];simp
theorem Fq (h:QM ds.length fs=false):false=Kk ds fs:=by rw [Kk,h];simp
theorem Ze3 (h:¬(((¬(Wv ds=true))∨((fs.length:Int)<1))∨((fs.length:Int)>4))) (hx:fs[0]? = some x) (h1:¬((x.pms.length:Int)>0)) (h2:¬x.res≠0) (h3:QM ds.length fs=true) :
  true=Kk ds fs:=by
 have hv:Wv ds=true:=Wr.1 fun q=>h (.inl (.inl q))
 have ha:¬(fs.length:Int)<1:=fun q=>h (.inl (.inr q))
 have hb:¬(fs.length:Int)>4:=fun q=>h (.inr q)
 rw [Kk,Nb hx,hv,h3,decide_eq_true (p:=1<=fs.length/\fs.length<=4) om,decide_eq_true (p:=x.pms.length=0) om,decide_eq_true (p:=x.res=0) (Wr.1 h2)];rfl
abbrev PO (m:Nat) (x:WJ):Prop:=(((x.pms.length:Int)>3)∨(¬(XP m x.pms=true)))∨(¬(0<=x.res/\x.res<=m))
theorem Za9 {m:Nat} (h:PO m x):J5 m x=false:=by
 rw [J5,Ke]
 rcases h with (h|h)|h
 ·rw [decide_eq_false (p:=x.pms.length<=3) om];simp
 ·rw [Ja.2 h];simp
 ·rw [decide_eq_false h];simp
theorem Ii {m:Nat} (h:Kj x.pms x.lnt=false):J5 m x=false:=by rw [J5,h,Bool.and_false]
theorem Zaa {m:Nat} (h:¬PO m x) (hl:Kj x.pms x.lnt=true):J5 m x=true:=by
 have h1:¬(x.pms.length:Int)>3:=fun q=>h (.inl (.inl q))
 rw [J5,Ke,hl,decide_eq_true (p:=x.pms.length<=3) om,Wr.1 fun q=>h (.inl (.inr q)),decide_eq_true (Wr.1 fun q=>h (.inr q))];rfl
end
end Go.Abs
namespace Go.Abs
abbrev Yo (n:Zl):AV:=BT (n.routines.map Xn)
end Go.Abs
end
section
namespace Go.Abs
def XQ (us:LI):LI->Option LI
 | []=>some []
 | a::r=>match YJ us a with
  | none=>none
  | some t=>match XQ us r with
   | none=>none
   | some ts=>some (t::ts)
theorem IV {us:LI}:∀{args ts:LI},XQ us args=some ts->∀tys,XA us args tys=true↔ts=tys
 | [],ts,h,tys=>by
  rw [XQ] at h;cases h
  cases tys with
  | nil=>simp [XA,UH]
  | cons t r=>simp [XA,UH]
 | a::r,ts,h,tys=>by
  rw [XQ] at h
  cases ha:YJ us a with
  | none=>rw [ha] at h;cases h
  | some t=>
   rw [ha] at h
   cases hr:XQ us r with
   | none=>rw [hr] at h;cases h
   | some tr=>
    rw [hr] at h;cases h
    cases tys with
    | nil=>simp [XA,UH]
    | cons t2 r2=>
     rw [XA,UH,ha]
     have:=IV hr r2
     rw [XA] at this
     by_cases he:t=t2
     ·subst he;simp [this]
     ·rw [Z4 (fun q=>he (Ti q))];simp [he]
theorem LK {us:LI}:∀{args ts:LI},XQ us args=some ts->ts.length=args.length
 | [],ts,h=>by rw [XQ] at h;cases h;rfl
 | a::r,ts,h=>by
  rw [XQ] at h
  cases ha:YJ us a with
  | none=>rw [ha] at h;cases h
  | some t=>
   rw [ha] at h
   cases hr:XQ us r with
   | none=>rw [hr] at h;cases h
   | some tr=>rw [hr] at h;cases h;simp [LK hr]
theorem LL {us:LI} {b t:Int}:∀{xs ts:LI},XQ us xs=some ts->YJ us b=some t->XQ us (xs++[b])=some (ts++[t])
 | [],ts,h,hb=>by rw [XQ] at h;cases h;simp [XQ,hb]
 | a::r,ts,h,hb=>by
  rw [XQ] at h
  cases ha:YJ us a with
  | none=>rw [ha] at h;cases h
  | some u=>
   rw [ha] at h
   cases hr:XQ us r with
   | none=>rw [hr] at h;cases h
   | some tr=>
    rw [hr] at h;cases h
    rw [Kn,XQ,ha,LL hr hb];rfl
def Cj (n:Zl) (num:Int):LI->Option Int
 | [a,b]=>if XK n.decls a=true/\b=(Vn n.decls a).frm/\num=0 then some (Vn n.decls a).to_ else none
 | _=>none
def Xa (n:Zl) (op num:Int) (ts:LI):Option Int:=
 if op=0 then (if (-999<=num/\num<=999)/\ts.length=0 then some 0 else none)
 else if op=1∨op=2∨op=3∨op=4 then (if num=0/\ts=[0,0] then some 0 else none)
 else if op=5 then (if num=0/\ts=[0] then some 0 else none)
 else if op=11 then Cj n num ts
 else if op=6 then (if 0<=XJ n.decls num/\ts=Y2 n.decls num then some (XJ n.decls num) else none)
 else if op=9 then (match YJ n.routines num with
  | none=>none
  | some r=>if ts=r.params then some r.result else none)
 else if op=10 then (match YJ n.routines num with
  | none=>none
  | some r=>if r.params.length≠0/\0<=QW n.decls r.params r.result/\ts=r.params.take (r.params.length-1) then some (QW n.decls r.params r.result) else none)
 else none
theorem DF {n:Zl} {num:Int} {ts:LI} (h:ts.length≠2):Cj n num ts=none:=by
 match ts,h with
 | [],_=>rfl
 | [_],_=>rfl
 | [_,_],h=>simp at h
 | _::_::_::_,_=>rfl
structure Qx (n:Zl):Prop where
 result:∀r∈n.routines,0<=r.result
 params:∀r∈n.routines,∀p∈r.params,0<=p
 decl:∀d∈n.decls,d.cons.length=0->0<=d.frm/\0<=d.to_
 fields:∀c,∀f∈Y2 n.decls c,0<=f
abbrev NX (us:LI) (s:Z8):Prop:=s.into≠0/\(((s.op≠6∨s.into<1)∨s.into>us.length)∨gI us (s.into-1)=0)
theorem Z6e {us:LI} {op into:Int} (hnn:∀t∈us,0<=t) (h:¬(into≠0/\(((op≠6∨into<1)∨into>us.length)∨gI us (into-1)=0))):Vl us op into=true:=by
 rw [Vl]
 split
 ·rfl
 ·rename_i h0
  have h1:¬(((op≠6∨into<1)∨into>us.length)∨gI us (into-1)=0):=fun q=>h ⟨h0,q⟩
  have h2:op=6:=Wr.1 fun q=>h1 (.inl (.inl (.inl q)))
  have h3:¬into<1:=fun q=>h1 (.inl (.inl (.inr q)))
  have h4:¬into>us.length:=fun q=>h1 (.inl (.inr q))
  have h5:¬gI us (into-1)=0:=fun q=>h1 (.inr q)
  obtain ⟨t,ht⟩:=QH (xs:=us) (j:=(into-1).toNat) om
  rw [Z6 h2,Tx om ht]
  rw [Vo ht] at h5
  have:=hnn t (YA ht)
  simp;omega
theorem Z6d {us:LI} {op into:Int} (h:into≠0/\(((op≠6∨into<1)∨into>us.length)∨gI us (into-1)=0)):Vl us op into=false:=by
 obtain ⟨h0,h⟩:=h
 rw [Vl,Z4 h0]
 split
 ·rename_i h6
  cases ha:YJ us (into-1) with
  | none=>rfl
  | some t=>
   obtain ⟨a1,a2⟩:=QX ha
   rcases h with ((h|h)|h)|h
   ·exact absurd h6 h
   ·omega
   ·omega
   ·rw [Vo a2] at h;subst h;rfl
 ·rfl
theorem Zcu {n:Zl} {us:LI} {s:Z8} (h:NX us s):ZQ n us s=-1:=by
 rw [KM,Z6 (.inr (.inl (by rw [Z6d h];simp)))]
end Go.Abs
namespace Go.Abs
theorem Z6f {α:Type} {c:Prop} [Decidable c] {v:α}:(if c then some v else none).isSome=decide c:=by split<;>simp_all
theorem Zan {n:Zl} (hty:Qx n) {op num:Int} {ts:LI} {x:Int} (h:Xa n op num ts=some x):0<=x:=by
 unfold Xa at h
 split at h
 ·split at h<;>cases h;exact Int.le_refl 0
 split at h
 ·split at h<;>cases h;exact Int.le_refl 0
 split at h
 ·split at h<;>cases h;exact Int.le_refl 0
 split at h
 ·rcases ts with _|⟨a,_|⟨b,_|⟨c,r⟩⟩⟩
  ·cases h
  ·cases h
  ·rw [Cj] at h
   split at h
   ·rename_i hq
    cases h
    rw [Vn,Z6 hq.1]
    have hA:=hq.1
    simp only [XK,Xs,decide_eq_true_eq] at hA
    cases hd:n.decls[(a-1).toNat]? with
    | none=>rw [hd] at hA;simp at hA
    | some d=>
     rw [hd] at hA
     exact (hty.decl d (YA hd) (by simpa using hA.2)).2
   ·cases h
  ·cases h
 split at h
 ·split at h
  ·rename_i hq;cases h;exact hq.1
  ·cases h
 split at h
 ·cases ha:YJ n.routines num with
  | none=>rw [ha] at h;cases h
  | some r=>
   rw [ha] at h
   simp only at h
   split at h
   ·cases h;exact hty.result r (YA (QX ha).2)
   ·cases h
 split at h
 ·cases ha:YJ n.routines num with
  | none=>rw [ha] at h;cases h
  | some r=>
   rw [ha] at h
   simp only at h
   split at h
   ·rename_i hq;cases h;exact hq.2.1
   ·cases h
 ·cases h
def Kh (n:Zl) (us:LI) (s:Z8) (ts:LI):Int:=
 if YU s.op=true then (match ts with
  | [t]=>if t≠0/\s.num=0/\s.kids.length=0/\¬((s.op=16∨s.op=17)/\XK n.decls t=true) then 0 else -1
  | _=>-1)
 else if s.op=7 then (if ts=[0]/\s.num=0 then T6 n us s.op s.num s.kids else -1)
 else if s.op=8 then (if ts=[s.num] then T6 n us s.op s.num s.kids else -1)
 else if 0<s.kids.length∨(s.op=10/\0<(((YJ n.routines s.num).map (·.lent)).getD []).length) then -1
 else (Xa n s.op s.num ts).getD (-1)
theorem NZ {p q:Prop} [Decidable p] [Decidable q] {a b:Int} (h:p↔q):ite p a b=ite q a b:=by
 by_cases hp:p
 ·rw [Z6 hp,Z6 (h.1 hp)]
 ·rw [Z4 hp,Z4 (fun z=>hp (h.2 z))]
theorem Ax {n:Zl} {us:LI} {s:Z8} {ts:LI} (hnn:∀t∈us,0<=t) (hts:XQ us s.args=some ts) (hi:¬NX us s):ZQ n us s=Kh n us s ts:=by
 have hv:=Z6e hnn hi
 have ht:=IV hts
 have hl:=LK hts
 have hfirst:((s.num≠0/\¬V8 s.op=true)∨¬Vl us s.op s.into=true∨(0<s.kids.length/\s.op≠7/\s.op≠8))↔((s.num≠0/\¬V8 s.op=true)∨(0<s.kids.length/\s.op≠7/\s.op≠8)):=by
  rw [hv];simp
 rw [KM,NZ hfirst]
 unfold Kh
 by_cases hc:YU s.op=true
 ·have hop:14<=s.op/\s.op<=17:=by simpa [YU] using hc
  have hnum:V8 s.op=false:=by simp [V8];omega
  rw [Z6 hc]
  by_cases hb:s.num≠0∨0<s.kids.length
  ·rw [Z6 (by rcases hb with hb|hb;exact .inl ⟨hb,by rw [hnum];simp⟩;exact .inr ⟨hb,by omega,by omega⟩)]
   split
   ·rw [Z4];rintro ⟨h1,h2,h3,h4⟩;omega
   ·rfl
  ·rw [Z4 (by rintro (⟨h1,_⟩|⟨h1,_⟩)<;>exact hb (by first|exact .inl h1|exact .inr h1)),Z4 om,Z4 om,Z4 om,Z4 om,Z4 om,Z4 om,Z4 om,Z4 om,Z6 om]
   have Zb:s.num=0:=Wr.1 fun q=>hb (.inl q)
   have ZD:s.kids.length=0:=by have:¬0<s.kids.length:=fun q=>hb (.inr q);omega
   rcases he:s.args with _|⟨a,_|⟨b,r⟩⟩
   ·rw [he] at hts;rw [XQ] at hts;cases hts;rfl
   ·rw [he] at hts
    rw [XQ] at hts
    cases ha:YJ us a with
    | none=>rw [ha] at hts;cases hts
    | some t=>
     rw [ha,XQ] at hts;cases hts
     rw [Ty,ha]
     simp only
     by_cases ht0:t=0
     ·rw [Z6 ht0,Z4 (fun q=>q.1 ht0)]
     ·rw [Z4 ht0]
      by_cases hA:XK n.decls t=true
      ·by_cases h16:s.op=16∨s.op=17
       ·rw [Z6 ⟨by omega,hA⟩,Z4 (fun q=>q.2.2.2 ⟨h16,hA⟩)]
       ·rw [Z4 (by rintro ⟨q,_⟩;omega),Z6 ⟨ht0,Zb,ZD,fun q=>h16 q.1⟩]
      ·rw [Z4 (fun q=>hA q.2),Z6 ⟨ht0,Zb,ZD,fun q=>hA q.2⟩]
   ·rw [he] at hl
    rw [show Ty n.decls us s.op (a::b::r)=-1 from rfl]
    match ts,hl with
    | [t],hl=>simp at hl
    | [],hl=>simp at hl
    | _::_::_,_=>rfl
 have hop:¬(14<=s.op/\s.op<=17):=by simpa [YU] using hc
 by_cases h7:s.op=7
 ·have hnum:V8 s.op=false:=by simp [V8];omega
  conv=>rhs;rw [Z4 hc,Z6 h7]
  by_cases hb:s.num=0
  ·rw [Z4 (fun q=>q.elim (fun z=>z.1 hb) fun z=>z.2.1 h7),Z4 om,Z4 om,Z4 om,Z4 om,Z6 h7]
   by_cases hq:ts=[0]
   ·rw [Z6 ((ht _).2 hq),Z6 ⟨hq,hb⟩]
   ·rw [Z4 (fun q=>hq ((ht _).1 q)),Z4 (fun q=>hq q.1)]
  ·rw [Z6 (.inl ⟨hb,by rw [hnum];simp⟩),Z4 (fun q=>hb q.2)]
 by_cases h8:s.op=8
 ·have hnum:V8 s.op=true:=by simp [V8,h8]
  conv=>rhs;rw [Z4 hc,Z4 h7,Z6 h8]
  rw [Z4 (fun q=>q.elim (fun z=>z.2 hnum) fun z=>z.2.2 h8),Z4 om,Z4 om,Z4 om,Z4 om,Z4 h7,Z6 h8]
  by_cases hq:ts=[s.num]
  ·rw [Z6 ((ht _).2 hq),Z6 hq]
  ·rw [Z4 (fun q=>hq ((ht _).1 q)),Z4 hq]
 conv=>rhs;rw [Z4 hc,Z4 h7,Z4 h8]
 by_cases hk:0<s.kids.length
 ·rw [Z6 (.inr ⟨hk,h7,h8⟩),Z6 (.inl hk)]
 by_cases hlent:s.op=10/\0<(((YJ n.routines s.num).map (·.lent)).getD []).length
 ·conv=>rhs;rw [Z6 (.inr hlent)]
  have hnum:V8 s.op=true:=by simp [V8,hlent.1]
  have h10:=hlent.1
  rw [Z4 (fun q=>q.elim (fun z=>z.2 hnum) fun z=>hk z.1),Z4 om,Z4 om,Z4 om,Z4 om,Z4 h7,Z4 h8,Z6 (.inr h10),Tf]
  cases ha:YJ n.routines s.num with
  | none=>rfl
  | some r=>
   have h2:=hlent.2
   rw [ha] at h2
   simp only [Cf,Option.getD_some] at h2
   simp only
   rw [QL,Z4 om,Z6 (.inr (.inl h2))]
 conv=>rhs;rw [Z4 (fun q=>Or.elim q hk hlent)]
 have sf:∀{X:Option Int},Xa n s.op s.num ts=X->ZQ n us s=X.getD (-1)->ZQ n us s=(Xa n s.op s.num ts).getD (-1):=fun a b=>by rw [a];exact b
 have hL:=KM n us s
 rw [NZ hfirst] at hL
 rw [<-hL]
 by_cases hnb:s.num≠0/\¬V8 s.op=true
 ·have hnn2:¬(s.op=0∨(s.op=6∨(s.op=8∨(s.op=9∨s.op=10)))):=fun q=>hnb.2 (by simpa [V8] using q)
  refine sf (X:=none) ?_ (by rw [hL,Z6 (.inl hnb)];rfl)
  unfold Xa
  rw [Z4 om]
  split
  ·rw [Z4 (fun q=>hnb.1 q.1)]
  split
  ·rw [Z4 (fun q=>hnb.1 q.1)]
  split
  ·by_cases hl2:ts.length=2
   ·match ts,hl2 with
    | [a,b],_=>exact Z4 fun q=>hnb.1 q.2.2
   ·exact DF hl2
  rw [Z4 om,Z4 om,Z4 om]
 rw [Z4 (fun q=>q.elim hnb fun z=>hk z.1)] at hL
 have hnumf:¬(s.op=0∨(s.op=6∨(s.op=8∨(s.op=9∨s.op=10))))->s.num=0:=fun q=>Wr.1 fun z=>hnb ⟨z,fun y=>q (by simpa [V8] using y)⟩
 by_cases h0:s.op=0
 ·rw [Z6 h0] at hL
  by_cases hq:s.args.length=0/\(-999<=s.num/\s.num<=999)
  ·exact sf (by unfold Xa;rw [Z6 h0,Z6 ⟨hq.2,by omega⟩]) (by rw [hL,Z6 hq];rfl)
  ·exact sf (by unfold Xa;rw [Z6 h0,Z4 (fun q=>hq ⟨by omega,q.1⟩)]) (by rw [hL,Z4 hq];rfl)
 rw [Z4 h0] at hL
 by_cases h1:s.op=1∨s.op=2∨s.op=3∨s.op=4
 ·rw [Z6 h1] at hL
  by_cases hq:ts=[0,0]
  ·exact sf (by unfold Xa;rw [Z4 h0,Z6 h1,Z6 ⟨hnumf om,hq⟩]) (by rw [hL,Z6 ((ht _).2 hq)];rfl)
  ·exact sf (by unfold Xa;rw [Z4 h0,Z6 h1,Z4 (fun q=>hq q.2)]) (by rw [hL,Z4 (fun q=>hq ((ht _).1 q))];rfl)
 rw [Z4 h1] at hL
 by_cases h5:s.op=5
 ·rw [Z6 h5] at hL
  by_cases hq:ts=[0]
  ·exact sf (by unfold Xa;rw [Z4 h0,Z4 h1,Z6 h5,Z6 ⟨hnumf om,hq⟩]) (by rw [hL,Z6 ((ht _).2 hq)];rfl)
  ·exact sf (by unfold Xa;rw [Z4 h0,Z4 h1,Z6 h5,Z4 (fun q=>hq q.2)]) (by rw [hL,Z4 (fun q=>hq ((ht _).1 q))];rfl)
 rw [Z4 h5] at hL
 by_cases h6:s.op=6
 ·rw [Z6 h6] at hL
  have hct:0<XJ n.decls s.num↔0<=XJ n.decls s.num:=by
   rcases Int.lt_or_le (XJ n.decls s.num) 1 with q|q
   ·have:=(DU q).2;omega
   ·omega
  by_cases hq:0<=XJ n.decls s.num/\ts=Y2 n.decls s.num
  ·exact sf (by unfold Xa;rw [Z4 h0,Z4 h1,Z4 h5,Z4 om,Z6 h6,Z6 hq]) (by rw [hL,Z6 ⟨hct.2 hq.1,(ht _).2 hq.2⟩];rfl)
  ·exact sf (by unfold Xa;rw [Z4 h0,Z4 h1,Z4 h5,Z4 om,Z6 h6,Z4 hq]) (by rw [hL,Z4 (fun q=>hq ⟨hct.1 q.1,(ht _).1 q.2⟩)];rfl)
 rw [Z4 h6,Z4 h7,Z4 h8] at hL
 by_cases h9:s.op=9
 ·rw [Z6 (.inl h9),Tf] at hL
  cases ha:YJ n.routines s.num with
  | none=>exact sf (by unfold Xa;rw [Z4 h0,Z4 h1,Z4 h5,Z4 om,Z4 h6,Z6 h9,ha]) (by rw [hL,ha];rfl)
  | some r=>
   rw [ha] at hL
   simp only at hL
   rw [QL,Z6 h9] at hL
   have hF:∀{X:Option Int},(if ts=r.params then some r.result else none)=X->Xa n s.op s.num ts=X:=fun q=>by
    unfold Xa;rw [Z4 h0,Z4 h1,Z4 h5,Z4 om,Z4 h6,Z6 h9,ha];exact q
   by_cases hq:ts=r.params
   ·exact sf (hF (Z6 hq)) (by rw [hL,Z6 ((ht _).2 hq)];rfl)
   ·exact sf (hF (Z4 hq)) (by rw [hL,Z4 (fun q=>hq ((ht _).1 q))];rfl)
 by_cases h10:s.op=10
 ·rw [Z6 (.inr h10),Tf] at hL
  cases ha:YJ n.routines s.num with
  | none=>exact sf (by unfold Xa;rw [Z4 h0,Z4 h1,Z4 h5,Z4 om,Z4 h6,Z4 h9,Z6 h10,ha]) (by rw [hL,ha];rfl)
  | some r=>
   rw [ha] at hL hlent
   simp only [Cf,Option.getD_some] at hL hlent
   rw [QL,Z4 h9] at hL
   have hF:∀{X:Option Int},(if r.params.length≠0/\0<=QW n.decls r.params r.result/\ts=r.params.take (r.params.length-1) then some (QW n.decls r.params r.result) else none)=X->Xa n s.op s.num ts=X:=fun q=>by
    unfold Xa;rw [Z4 h0,Z4 h1,Z4 h5,Z4 om,Z4 h6,Z4 h9,Z6 h10,ha];exact q
   by_cases hp:r.params.length=0
   ·exact sf (hF (Z4 fun q=>q.1 hp)) (by rw [hL,Z6 (.inl hp)];rfl)
   by_cases hq:ts=r.params.take (r.params.length-1)
   ·rw [Z4 (fun z=>z.elim hp fun z=>z.elim (fun z=>hlent ⟨h10,z⟩) fun z=>z ((ht _).2 hq))] at hL
    by_cases har:0<=QW n.decls r.params r.result
    ·exact sf (hF (Z6 ⟨hp,har,hq⟩)) hL
    ·refine sf (hF (Z4 fun q=>har q.2.1)) ?_
     have key:∀(l:List Zs) (i:Nat) (f t:Int),¬0<=QC f t l i->QC f t l i=-1:=by
      intro l
      induction l with
      | nil=>intro i f t _;rfl
      | cons d r ih=>
       intro i f t hn
       rw [QC] at hn ⊢
       split
       ·rename_i hh;rw [Z6 hh] at hn;omega
       ·rename_i hh;rw [Z4 hh] at hn;exact ih _ _ _ hn
     exact hL.trans (key _ _ _ _ har)
   ·exact sf (hF (Z4 fun q=>hq q.2.2)) (by rw [hL,Z6 (.inr (.inr fun q=>hq ((ht _).1 q)))];rfl)
 rw [Z4 om] at hL
 by_cases h11:s.op=11
 ·rw [Z6 h11] at hL
  have hn0:=hnumf om
  have hF:∀{X:Option Int},Cj n s.num ts=X->Xa n s.op s.num ts=X:=fun q=>by
   unfold Xa;rw [Z4 h0,Z4 h1,Z4 h5,Z6 h11];exact q
  rcases he:s.args with _|⟨a,_|⟨b,_|⟨c,r⟩⟩⟩
  ·rw [he] at hts hL;rw [XQ] at hts;cases hts;exact sf (hF rfl) hL
  ·rw [he] at hl hL
   exact sf (hF (DF (by simp at hl;omega))) hL
  ·rw [he] at hts hL
   rw [XQ] at hts
   cases ha:YJ us a with
   | none=>rw [ha] at hts;cases hts
   | some t=>
    rw [ha,XQ] at hts
    cases hb:YJ us b with
    | none=>rw [hb] at hts;cases hts
    | some t2=>
     rw [hb,XQ] at hts;cases hts
     rw [Qb,ha] at hL
     simp only at hL
     by_cases hA:XK n.decls t=true
     ·rw [Z6 hA] at hL
      have hA2:=hA
      simp only [XK,Xs,decide_eq_true_eq] at hA2
      cases hd:n.decls[(t-1).toNat]? with
      | none=>rw [hd] at hA2;simp at hA2
      | some d=>
       rw [hd] at hL
       simp only at hL
       have hD:Vn n.decls t=d:=by rw [Vn,Z6 hA,hd];rfl
       have h2:=IV (us:=us) (args:=[b]) (ts:=[t2]) (by rw [XQ,hb,XQ]) [d.frm]
       by_cases hq:t2=d.frm
       ·exact sf (hF (Z6 ⟨hA,by rw [hD];exact hq,hn0⟩)) (by rw [hL,Z6 (h2.2 (by rw [hq])),hD];rfl)
       ·exact sf (hF (Z4 fun q=>hq (by rw [hD] at q;exact q.2.1))) (by rw [hL,Z4 (fun q=>hq (by simpa using h2.1 q))];rfl)
     ·exact sf (hF (Z4 fun q=>hA q.1)) (by rw [hL,Z4 hA];rfl)
  ·rw [he] at hl hL
   exact sf (hF (DF (by simp at hl;omega))) hL
 rw [Z4 h11,Z4 om] at hL
 exact sf (X:=none) (by unfold Xa;rw [Z4 h0,Z4 h1,Z4 h5,Z4 h11,Z4 h6,Z4 h9,Z4 h10]) hL
end Go.Abs
namespace Go.Abs
theorem OQ:∀(n:Nat) (f:Int) (k:Nat) (x:Int),(Vc f n)[k]? = some x->x=f+k/\k<n
 | 0,f,k,x,h=>by simp [Vc] at h
 | n+1,f,k,x,h=>by
  rw [Vc] at h
  cases k with
  | zero=>simp at h;subst h;exact ⟨by omega,by omega⟩
  | succ k=>have:=OQ n (f+1) k x (by simpa using h);exact ⟨by omega,by omega⟩
theorem Mv {ds:List Zs} (hd:Wy ds) {t:Int} {k:Nat} {x:Int} (h:(YG ds t)[k]? = some x):0<=x/\x<=100:=by
 rw [YG] at h
 split at h
 ·rename_i ht
  obtain ⟨d,hd1⟩:=QH (xs:=ds) (j:=(t-1).toNat) om
  rw [hd1] at h
  have:=OQ _ _ _ _ h
  have h3:=hd.cons_at hd1
  have h4:=(hd.take (t-1).toNat).sum
  simp only [Cf,Option.getD_some] at this
  omega
 ·simp at h
end Go.Abs
namespace Go.Abs
section
variable {S:Option Int} {c:Prop} [Decidable c] {v:Int} {b:Bool}
theorem Aq (h:S=if c then some v else none) (hb:b=true↔c):b=S.isSome:=by rw [h,Z6f,Wk,hb,decide_eq_true_iff]
theorem Ar (h:S=if c then some v else none):∀x,S=some x->v=x:=by
 intro x hx;rw [h] at hx;split at hx
 ·exact Ti hx
 ·cases hx
theorem Da (h:S=none):false=S.isSome:=by rw [h];rfl
theorem Db (h:S=none):∀x,S=some x->v=x:=by intro x hx;rw [h] at hx;cases hx
end
section
variable {n:Zl} {op num:Int} {ts:LI}
theorem sf0 (h:op=0):Xa n op num ts=if (-999<=num/\num<=999)/\ts.length=0 then some 0 else none:=by unfold Xa;rw [Z6 h]
theorem sf1 (h:op=1∨op=2∨op=3∨op=4):Xa n op num ts=if num=0/\ts=[0,0] then some 0 else none:=by unfold Xa;rw [Z4 om,Z6 h]
theorem sf5 (h:op=5):Xa n op num ts=if num=0/\ts=[0] then some 0 else none:=by unfold Xa;rw [Z4 om,Z4 om,Z6 h]
theorem PN (h:op=11):Xa n op num ts=Cj n num ts:=by unfold Xa;rw [Z4 om,Z4 om,Z4 om,Z6 h]
theorem Zaj (h:op=11) (hl:(ts.length:Int)≠2):Xa n op num ts=none:=(PN h).trans (DF om)
theorem In (h:op=11) {a b:Int} (hl:¬(ts.length:Int)≠2) (ha:ts[0]? = some a) (hb:ts[1]? = some b) :
  Xa n op num ts=if XK n.decls a=true/\b=(Vn n.decls a).frm/\num=0 then some (Vn n.decls a).to_ else none:=by
 rw [PN h]
 match ts,hl,ha,hb with
 | [x,y],_,ha,hb=>simp at ha hb;subst ha;subst hb;rfl
 | [],hl,_,_=>simp at hl
 | [_],hl,_,_=>simp at hl
 | _::_::_::_,hl,_,_=>simp at hl;omega
theorem Zai (h:op=11) {a:Int} (hl:¬(ts.length:Int)≠2) (ha:ts[0]? = some a) (hn:¬XK n.decls a=true):Xa n op num ts=none:=by
 obtain ⟨b,hb⟩:=QH (xs:=ts) (j:=1) om
 rw [In h hl ha hb,Z4 fun q=>hn q.1]
theorem sf6 (h:op=6):Xa n op num ts=if 0<=XJ n.decls num/\ts=Y2 n.decls num then some (XJ n.decls num) else none:=by
 unfold Xa;rw [Z4 om,Z4 om,Z4 om,Z4 om,Z6 h]
theorem Zak (h:op=9∨op=10) (hr:num<0∨num>=(((n.routines.map Xn).length:Nat):Int)):Xa n op num ts=none:=by
 have ha:YJ n.routines num=none:=QD (by simp at hr;omega)
 unfold Xa
 rw [Z4 om,Z4 om,Z4 om,Z4 om,Z4 om]
 rcases h with h|h
 ·rw [Z6 h,ha]
 ·rw [Z4 om,Z6 h,ha]
theorem sf9 (h:op=9) {x:WJ} (hr:¬(num<0∨num>=(((n.routines.map Xn).length:Nat):Int))) (hx:(n.routines.map Xn)[num.toNat]? = some x) :
  Xa n op num ts=if ts=x.pms then some x.res else none:=by
 obtain ⟨r,h1,rfl⟩:=F8 hx
 have ha:YJ n.routines num=some r:=Tx (by simp at hr;omega) h1
 unfold Xa
 rw [Z4 om,Z4 om,Z4 om,Z4 om,Z4 om,Z6 h,ha];rfl
theorem Zah (h:op=10) {x:WJ} (hr:¬(num<0∨num>=(((n.routines.map Xn).length:Nat):Int))) (hx:(n.routines.map Xn)[num.toNat]? = some x) (hp:(x.pms.length:Int)-1<0) :
  Xa n op num ts=none:=by
 obtain ⟨r,h1,rfl⟩:=F8 hx
 have ha:YJ n.routines num=some r:=Tx (by simp at hr;omega) h1
 have hp':r.params.length=0:=by simp only [Xn] at hp;omega
 unfold Xa
 rw [Z4 om,Z4 om,Z4 om,Z4 om,Z4 om,Z4 om,Z6 h,ha]
 exact Z4 fun q=>q.1 hp'
theorem Zag (h:op=10) {x:WJ} {l:Int} (hr:¬(num<0∨num>=(((n.routines.map Xn).length:Nat):Int))) (hx:(n.routines.map Xn)[num.toNat]? = some x) (hp:¬(x.pms.length:Int)-1<0)
  (hl:x.pms[((x.pms.length:Int)-1).toNat]? = some l) :
  Xa n op num ts=if 0<=T9 n.decls l x.res/\ts=x.pms.take ((x.pms.length:Int)-1).toNat then some (T9 n.decls l x.res) else none:=by
 obtain ⟨r,h1,rfl⟩:=F8 hx
 have ha:YJ n.routines num=some r:=Tx (by simp at hr;omega) h1
 simp only [Xn] at hp hl ⊢
 have hq:((r.params.length:Int)-1).toNat=r.params.length-1:=by omega
 have ht:r.params.take ((r.params.length:Int)-1).toNat=r.params.take (r.params.length-1):=Yp (fun k=>r.params.take k) hq
 have hl':r.params[r.params.length-1]? = some l:=by rw [<-hl];exact Yp (fun k=>r.params[k]?) hq.symm
 have hlast:QW n.decls r.params r.result=T9 n.decls l r.result:=by rw [QW,Np hl']
 unfold Xa
 rw [Z4 om,Z4 om,Z4 om,Z4 om,Z4 om,Z4 om,Z6 h,ha]
 simp only [hlast]
 by_cases hc:0<=T9 n.decls l r.result/\ts=r.params.take (r.params.length-1)
 ·rw [Z6 ⟨by omega,hc⟩]
  exact (Z6 ⟨hc.1,hc.2.trans ht.symm⟩).symm
 ·rw [Z4 fun q=>hc q.2]
  exact (Z4 (fun q=>hc ⟨q.1,q.2.trans ht⟩)).symm
theorem sfd (h0:¬op=0) (h1:¬(op=1∨op=2∨op=3∨op=4)) (h5:¬op=5) (h11:¬op=11) (h6:¬op=6) (h9:¬(op=9∨op=10)):Xa n op num ts=none:=by
 unfold Xa;rw [Z4 h0,Z4 h1,Z4 h5,Z4 h11,Z4 h6,Z4 om,Z4 om]
end
end Go.Abs
end
namespace Go.Abs
mutual
def Z8.rng:Z8->Prop
 | .mk _ num _ _ kids=>(-9223372036854775808<=num/\num<=9223372036854775807)/\QE kids
def Zh.rng:Zh->Prop
 | .mk steps _=>VV steps
def VV:List Z8->Prop
 | []=>True
 | s::r=>s.rng/\VV r
def QE:List Zh->Prop
 | []=>True
 | b::r=>b.rng/\QE r
end
theorem Z8.rng_eq (s:Z8):s.rng=((-9223372036854775808<=s.num/\s.num<=9223372036854775807)/\QE s.kids):=by cases s;rw [Z8.rng];rfl
theorem Zh.rng_eq (b:Zh):b.rng=VV b.steps:=by cases b;rw [Zh.rng];rfl
theorem IH:∀{xs:List Z8} {k:Nat} {s:Z8},VV xs->xs[k]? = some s->s.rng
 | [],k,s,_,h=>by simp at h
 | x::r,0,s,hr,h=>by rw [VV] at hr;simp at h;subst h;exact hr.1
 | x::r,k+1,s,hr,h=>by rw [VV] at hr;exact IH (k:=k) hr.2 (by simpa using h)
theorem DJ:∀{xs:List Zh} {k:Nat} {b:Zh},QE xs->xs[k]? = some b->b.rng
 | [],k,s,_,h=>by simp at h
 | x::r,0,s,hr,h=>by rw [QE] at hr;simp at h;subst h;exact hr.1
 | x::r,k+1,s,hr,h=>by rw [QE] at hr;exact DJ (k:=k) hr.2 (by simpa using h)
theorem IW {us:LI}:∀{args:LI},XQ us args=none->∀tys,XA us args tys=false
 | [],h,tys=>by rw [XQ] at h;cases h
 | a::r,h,tys=>by
  cases tys with
  | nil=>simp [XA,UH]
  | cons t ts=>
   rw [XQ] at h
   rw [XA,UH]
   cases ha:YJ us a with
   | none=>simp
   | some u=>
    rw [ha] at h
    cases hr:XQ us r with
    | none=>
     have:=IW hr ts
     rw [XA] at this
     by_cases he:u=t
     ·subst he;simpa using this
     ·rw [Z4 (fun q=>he (Ti q))]
    | some tr=>rw [hr] at h;cases h
theorem Zct {n:Zl} {us:LI} {s:Z8} (h:XQ us s.args=none):ZQ n us s=-1:=by
 have ht:=IW h
 rw [KM]
 split
 ·rfl
 split
 ·rw [Z4];rintro ⟨q,_⟩
  have:s.args=[]:=Bf.1 q
  rw [this,XQ] at h;cases h
 split
 ·rw [Z4 (by rw [ht];simp)]
 split
 ·rw [Z4 (by rw [ht];simp)]
 split
 ·rw [Z4 (by rw [ht];simp)]
 split
 ·rw [Z4 (by rw [ht];simp)]
 split
 ·rw [Z4 (by rw [ht];simp)]
 split
 ·rw [Tf]
  cases YJ n.routines s.num with
  | none=>rfl
  | some r=>
   simp only
   rw [QL]
   split
   ·rw [Z4 (by rw [ht];simp)]
   ·rw [Z6 (.inr (.inr (by rw [ht];simp)))]
 split
 ·match hA:s.args with
  | []=>rfl
  | [_]=>rfl
  | [a,b]=>
   rw [Qb]
   rw [hA,XQ] at h
   cases ha:YJ us a with
   | none=>rfl
   | some t=>
    rw [ha] at h
    simp only at h ⊢
    split
    ·cases n.decls[(t-1).toNat]? with
     | none=>rfl
     | some d=>
      simp only
      rw [Z4]
      cases hb:XQ us [b] with
      | none=>rw [IW hb];simp
      | some tr=>rw [hb] at h;cases h
    ·rfl
  | _::_::_::_=>rfl
 split
 ·match hA:s.args with
  | []=>rfl
  | [a]=>
   rw [Ty]
   rw [hA,XQ] at h
   cases ha:YJ us a with
   | none=>rfl
   | some t=>rw [ha,XQ] at h;cases h
  | _::_::_=>rfl
 ·rfl
theorem LJ {us:LI} {a:Int}:∀{xs:LI} {k:Nat},xs[k]? = some a->YJ us a=none->XQ us xs=none
 | [],k,h,_=>by simp at h
 | x::r,0,h,ha=>by simp at h;subst h;rw [XQ,ha]
 | x::r,k+1,h,ha=>by
  have:=LJ (xs:=r) (k:=k) (by simpa using h) ha
  rw [XQ]
  cases YJ us x with
  | none=>rfl
  | some t=>simp only [this]
theorem Z6r {n:Zl} {us:LI} {ks:List Zh} {ms:List LI} (h:0<ks.length) (t:Int) :
  XL n us (ks.drop 0) (ms.drop 0) (decide (0=0)) t=XL n us ks ms true 0:=by
 cases ks with
 | nil=>simp at h
 | cons b bs=>
  cases ms with
  | nil=>rw [TM,TM,XL,XL]
  | cons m r=>
   simp only [TM,decide_true]
   rw [XL,XL];simp
theorem M3 {b:Zh}:∀{ks:List Zh} {k:Nat},ks[k]? = some b->b.sz<=Xl ks
 | [],k,h=>by simp at h
 | x::r,0,h=>by simp at h;subst h;rw [Xl];omega
 | x::r,k+1,h=>by have:=M3 (ks:=r) (k:=k) (by simpa using h);rw [Xl];omega
theorem Do (us m:LI):[us,m].flatten=us++m:=by simp
theorem Nn {xs:LI} {i:Int} (h:i.toNat<xs.length):xs[i.toNat]? = some (gI xs i):=by rw [gI,Qu h];rfl
theorem Ec {xs:LI} (h:0<xs.length):xs[0]? = some (gI xs 0):=Nn (i:=0) h
def U4 (n:Zl) (num:Int):WJ:=((n.routines.map Xn)[num.toNat]?).getD ⟨[],[],0⟩
theorem PP {n:Zl} {i:Int} (h:i.toNat<(n.routines.map Xn).length):(n.routines.map Xn)[i.toNat]? = some (U4 n i):=by rw [U4,Qu h];rfl
theorem CU {us m:LI} (h1:∀t∈us,0<=t) (h2:∀t∈m,0<=t):∀t∈us++m,0<=t:=fun t h=>(Yv.1 h).elim (h1 t) (h2 t)
theorem A0 {us:LI} {args ts:LI} {k:Nat} (h:XQ us (args.take k)=some ts) (hk:args.length<=k):XQ us args=some ts:=by
 rw [W2 hk] at h;exact h
theorem SH {us:LI} {args ts:LI} {k:Nat} {a t:Int} (h:XQ us (args.take k)=some ts) (ha:args[k]? = some a) (ht:YJ us a=some t):XQ us (args.take (k+1))=some (ts++[t]):=by
 rw [WP ha];exact LL h ht
theorem OY {ts:LI} (h:(ts.length:Int)=1):ts=[gI ts 0]:=by
 match ts,h with
 | [a],_=>rfl
section
variable {n:Zl} {us ts:LI} {s:Z8}
theorem JA {p1 p2 p3 p4 p5:Prop}:(p1/\(p2∨(p3∨(p4∨p5))))↔(p1/\(((p2∨p3)∨p4)∨p5)):=by simp only [or_assoc]
def DQ (n:Zl) (s:Z8) (ts:LI):Int:=match ts with
  | [t]=>if t≠0/\s.num=0/\s.kids.length=0/\¬((s.op=16∨s.op=17)/\XK n.decls t=true) then 0 else -1
  | _=>-1
theorem Aw:Kh n us s ts =
 if YU s.op=true then DQ n s ts
 else if s.op=7 then (if ts=[0]/\s.num=0 then T6 n us s.op s.num s.kids else -1)
 else if s.op=8 then (if ts=[s.num] then T6 n us s.op s.num s.kids else -1)
 else if 0<s.kids.length∨(s.op=10/\0<(((YJ n.routines s.num).map (·.lent)).getD []).length) then -1
 else (Xa n s.op s.num ts).getD (-1):=by unfold Kh DQ;rfl
theorem Mr (h:(ts.length:Int)=1):DQ n s ts=if gI ts 0≠0/\s.num=0/\s.kids.length=0/\¬((s.op=16∨s.op=17)/\XK n.decls (gI ts 0)=true) then 0 else -1:=by
 match ts,h with
 | [a],_=>rfl
theorem Z14 (h:(ts.length:Int)≠1):DQ n s ts=-1:=by
 match ts,h with
 | [],_=>rfl
 | [a],h=>exact absurd rfl h
 | _::_::_,_=>rfl
theorem Zc9 (hS:ZQ n us s=Kh n us s ts) (hc:YU s.op=true)
  (h:((((ts.length:Int)=1/\gI ts 0≠0)/\s.num=0)/\(s.kids.length:Int)=0)/\(s.op=16∨s.op=17)) :
  (!XK n.decls (gI ts 0))=decide (0<=ZQ n us s):=by
 obtain ⟨⟨⟨⟨h1,h2⟩,h3⟩,h4⟩,h5⟩:=h
 have h4':s.kids.length=0:=by omega
 rw [hS,Aw,Z6 hc,Mr h1]
 cases hA:XK n.decls (gI ts 0)
 ·rw [Z6 ⟨h2,h3,h4',by simp⟩];rfl
 ·rw [Z4 (fun q=>q.2.2.2 ⟨h5,rfl⟩)];rfl
theorem Zca (hS:ZQ n us s=Kh n us s ts) (hc:YU s.op=true)
  (h:¬(((((ts.length:Int)=1/\gI ts 0≠0)/\s.num=0)/\(s.kids.length:Int)=0)/\(s.op=16∨s.op=17))) :
  ((((((ts.length:Int)==1)&&(gI ts 0 != 0))&&(s.num==0))&&((s.kids.length:Int)==0)))=decide (0<=ZQ n us s):=by
 rw [hS,Aw,Z6 hc]
 by_cases h1:(ts.length:Int)=1
 ·rw [Mr h1]
  by_cases h2:(gI ts 0≠0/\s.num=0)/\(s.kids.length:Int)=0
  ·obtain ⟨⟨h2,h3⟩,h4⟩:=h2
   have h4':s.kids.length=0:=by omega
   rw [Z6 ⟨h2,h3,h4',fun q=>h ⟨⟨⟨⟨h1,h2⟩,h3⟩,h4⟩,q.1⟩⟩,Zr.2 h1,ZO.2 h2,Zr.2 h3,Zr.2 h4];rfl
  ·rw [Z4 (fun q=>h2 ⟨⟨q.1,q.2.1⟩,by have:=q.2.2.1;omega⟩)]
   show _=false
   rw [Ja];intro q
   obtain ⟨⟨⟨_,q1⟩,q2⟩,q3⟩:=(Yy (Yy (Yy Zr ZO) Zr) Zr).1 q
   exact h2 ⟨⟨q1,q2⟩,q3⟩
 ·rw [Z14 h1]
  show _=false
  rw [Ja];intro q
  obtain ⟨⟨⟨q1,_⟩,_⟩,_⟩:=(Yy (Yy (Yy Zr ZO) Zr) Zr).1 q
  exact h1 q1
theorem Zc5 (hS:ZQ n us s=Kh n us s ts) (hc:¬YU s.op=true) (h7:s.op=7)
  (h:(((ts.length:Int)≠1∨gI ts 0≠0)∨s.num≠0)∨(s.kids.length:Int)≠2):ZQ n us s=-1:=by
 rw [hS,Aw,Z4 hc,Z6 h7]
 split
 ·rename_i q
  obtain ⟨q1,q2⟩:=q
  rw [q1] at h
  rw [T6,Z6]
  right
  rw [YF,Z6 h7]
  have:gI [0] 0=0:=rfl
  simp [this] at h
  show s.kids.length≠2
  omega
 ·rfl
theorem Zc6 (hS:ZQ n us s=Kh n us s ts) (hc:¬YU s.op=true) (h7:s.op=7)
  (h:¬((((ts.length:Int)≠1∨gI ts 0≠0)∨s.num≠0)∨(s.kids.length:Int)≠2)):ZQ n us s=XL n us s.kids (List.replicate 2 []) true 0:=by
 have h1:(ts.length:Int)=1:=Wr.1 fun q=>h (.inl (.inl (.inl q)))
 have h2:gI ts 0=0:=Wr.1 fun q=>h (.inl (.inl (.inr q)))
 have h3:s.num=0:=Wr.1 fun q=>h (.inl (.inr q))
 have h4:(s.kids.length:Int)=2:=Wr.1 fun q=>h (.inr q)
 rw [hS,Aw,Z4 hc,Z6 h7,Z6 ⟨by rw [OY h1,h2],h3⟩,T6,Z4]
 ·rw [YF,Z6 h7];rfl
 ·rw [YF,Z6 h7];simp;omega
theorem Zc7 (hS:ZQ n us s=Kh n us s ts) (hc:¬YU s.op=true) (h7:¬s.op=7) (h8:s.op=8)
  (h:(ts.length:Int)≠1∨(gI ts 0≠s.num∨(((((YG n.decls s.num).map (Y2 n.decls)).length:Nat):Int)=0∨(s.kids.length:Int)≠((((YG n.decls s.num).map (Y2 n.decls)).length:Nat):Int)))):ZQ n us s=-1:=by
 rw [hS,Aw,Z4 hc,Z4 h7,Z6 h8]
 split
 ·rename_i q
  have hg:gI ts 0=s.num:=by rw [q];rfl
  have hl:(ts.length:Int)=1:=by rw [q];rfl
  rw [T6,Z6]
  rw [YF,Z4 h7]
  omega
 ·rfl
theorem Zc8 (hS:ZQ n us s=Kh n us s ts) (hc:¬YU s.op=true) (h7:¬s.op=7) (h8:s.op=8)
  (h:¬((ts.length:Int)≠1∨(gI ts 0≠s.num∨(((((YG n.decls s.num).map (Y2 n.decls)).length:Nat):Int)=0∨(s.kids.length:Int)≠((((YG n.decls s.num).map (Y2 n.decls)).length:Nat):Int))))) :
  ZQ n us s=XL n us s.kids ((YG n.decls s.num).map (Y2 n.decls)) true 0:=by
 have h1:(ts.length:Int)=1:=Wr.1 fun q=>h (.inl q)
 have h2:gI ts 0=s.num:=Wr.1 fun q=>h (.inr (.inl q))
 rw [hS,Aw,Z4 hc,Z4 h7,Z6 h8,Z6 (by rw [OY h1,h2]),T6,Z4]
 ·rw [YF,Z4 h7]
 ·rw [YF,Z4 h7];omega
theorem Z7m {n:Zl} {num:Int}:(((YJ n.routines num).map (·.lent)).getD []).length=if 0<=num/\num<(((n.routines.map Xn).length:Nat):Int) then (U4 n num).lnt.length else 0:=by
 split
 ·rename_i h
  rw [Uh] at h
  obtain ⟨r,hr⟩:=QH (xs:=n.routines) (j:=num.toNat) om
  rw [Tx om hr,U4,Th,hr];rfl
 ·rename_i h
  rw [Uh] at h
  rw [QD om];rfl
theorem Rm:(0<s.kids.length∨(s.op=10/\0<(((YJ n.routines s.num).map (·.lent)).getD []).length)) ↔
  ((s.kids.length:Int)>0∨(s.op=10/\(s.num>=0/\(s.num<(((n.routines.map Xn).length:Nat):Int)/\((((U4 n s.num).lnt).length:Nat):Int)>0)))):=by
 rw [Z7m]
 by_cases hq:0<=s.num/\s.num<(((n.routines.map Xn).length:Nat):Int)
 ·rw [Z6 hq];omega
 ·rw [Z4 hq];omega
theorem stB (hS:ZQ n us s=Kh n us s ts) (hc:¬YU s.op=true) (h7:¬s.op=7) (h8:¬s.op=8)
  (h:((s.kids.length:Int)>0∨(s.op=10/\(s.num>=0/\(s.num<(((n.routines.map Xn).length:Nat):Int)/\((((U4 n s.num).lnt).length:Nat):Int)>0))))):ZQ n us s=-1:=by
 rw [hS,Aw,Z4 hc,Z4 h7,Z4 h8,Z6 (Rm.2 h)]
theorem stS (hS:ZQ n us s=Kh n us s ts) (hc:¬YU s.op=true) (h7:¬s.op=7) (h8:¬s.op=8)
  (h:¬((s.kids.length:Int)>0∨(s.op=10/\(s.num>=0/\(s.num<(((n.routines.map Xn).length:Nat):Int)/\((((U4 n s.num).lnt).length:Nat):Int)>0))))):ZQ n us s=(Xa n s.op s.num ts).getD (-1):=by
 rw [hS,Aw,Z4 hc,Z4 h7,Z4 h8,Z4 (fun q=>h (Rm.1 q))]
theorem Zcb (hty:Qx n) (h:ZQ n us s=(Xa n s.op s.num ts).getD (-1)):(Xa n s.op s.num ts).isSome=decide (0<=ZQ n us s):=by
 rw [h]
 cases hs:Xa n s.op s.num ts with
 | none=>rfl
 | some x=>have:=Zan hty hs;simp [this]
theorem Zcc {t:Int} (h:ZQ n us s=(Xa n s.op s.num ts).getD (-1)) (hp:∀x,Xa n s.op s.num ts=some x->t=x):¬YU s.op=true->0<=ZQ n us s->t=ZQ n us s:=by
 intro _ h0
 rw [h] at h0 ⊢
 cases hs:Xa n s.op s.num ts with
 | none=>rw [hs] at h0;exact absurd h0 (by decide)
 | some x=>exact hp x hs
end
theorem Zcs {n:Zl} {us:LI} {s:Z8} (h:0<=ZQ n us s):(0<=s.op/\s.op<=11)∨(14<=s.op/\s.op<=17):=by
 rw [KM] at h
 by_cases hq:(0<=s.op/\s.op<=11)∨(14<=s.op/\s.op<=17)
 ·exact hq
 ·exfalso
  split at h
  ·omega
  rw [Z4 om,Z4 om,Z4 om,Z4 om,Z4 om,Z4 om,Z4 om,Z4 om,Z4 om] at h
  omega
theorem Gy {n:Zl} {us:LI} {s:Z8} (h:0<=ZQ n us s):Xx s.op=!YU s.op:=by
 have:=Zcs h
 rw [Xx,YU,Wk];simp;omega
theorem Zcv {n:Zl} {xs:List Z8} {vs:LI} {k:Nat} {s:Z8} {t:Int} {r:Option LI} (hs:xs[k]? = some s) (h:0<=ZQ n vs s) (ht:¬YU s.op=true->0<=ZQ n vs s->t=ZQ n vs s)
  (hr:Xr n (xs.drop k) vs=r):Xr n (xs.drop (k+1)) (if YU s.op=true then vs else vs++[t])=r:=by
 rw [ZH hs,Xr,Z4 om] at hr
 rw [<-hr,Gy h]
 by_cases hc:YU s.op=true
 ·rw [Z6 hc,hc];rfl
 ·rw [Z4 hc,Z6 (by simpa using hc),ht hc h]
theorem Zcw {n:Zl} {xs:List Z8} {vs:LI} {k:Nat} {s:Z8} {r:Option LI} (hs:xs[k]? = some s) (h:¬0<=ZQ n vs s) (hr:Xr n (xs.drop k) vs=r):r=none:=by
 rw [ZH hs,Xr,Z6 om] at hr;exact hr.symm
theorem Z87 {c:Prop} [Decidable c] {vs:LI} {t:Int} (h:∀x∈vs,0<=x) (ht:¬c->0<=t):∀x∈(if c then vs else vs++[t]),0<=x:=by
 split
 ·exact h
 ·rename_i hc
  exact CU h (fun x hx=>by rw [YH.1 hx];exact ht hc)
theorem LG {m:Nat} {xs:LI} (h:XP m xs=true):∀x∈xs,0<=x/\x<=m:=by
 rw [XP,Be] at h
 exact fun x hx=>of_decide_eq_true (h x hx)
theorem OO {n:Zl} (h:V5 n=true):Qx n:=by
 simp only [V5,Qs,Xs,decide_eq_true_eq] at h
 obtain ⟨h1,⟨h2,h3,h4,h5⟩,h6⟩:=h
 have hs:∀r∈n.routines,XP n.decls.length r.params=true/\0<=r.result:=fun r hr=>by
  have:=Io h4 (VU r) (Xb.2 ⟨r,hr,rfl⟩)
  simp only [Ke,Xs,decide_eq_true_eq] at this
  exact ⟨this.2.1,this.2.2.1⟩
 simp only [Wv,Xs,decide_eq_true_eq] at h2
 obtain ⟨h2a,h2b⟩:=h2
 rw [Gw] at h2b
 have key:∀(i:Nat) (d:Zs),n.decls[i]? = some d->Ul n.decls d i=true:=fun i d hi=>by
  have:=h2b i (XZ.1 hi).1
  rwa [Vf,Ct hi] at this
 refine ⟨fun r hr=>(hs r hr).2,fun r hr p hp=>(LG (hs r hr).1 p hp).1,fun d hd h0=>?_,fun c f hf=>?_⟩
 ·obtain ⟨i,hi⟩:=List.mem_iff_getElem?.1 hd
  have:=key i d hi
  rw [Ul,Z4 om] at this
  split at this
  ·cases this
  ·simp only [Xs,decide_eq_true_eq] at this;omega
 ·by_cases hc:XJ n.decls c<1
  ·rw [(DU hc).1] at hf;cases hf
  ·obtain ⟨k,d,x,q1,q2,q3,q4,q5⟩:=Gp hc
   rw [q5] at hf
   have:=key k d q1
   have hp:0<d.cons.length:=by have:=(XZ.1 q3).1;omega
   rw [Ul,Z6 hp] at this
   split at this
   ·have:=Mw.1 this x (YA q3)
    simp only [Kx,Xs] at this
    exact (LG this.2 f hf).1
   ·cases this
end Go.Abs
section
namespace Go.Abs
structure YL where
 mat:Int
 fst:Int
 fds:LI
 chg:Bool
abbrev Oc (a:YL):List AV:=[.i a.mat,.i a.fst,Ze a.fds,.b a.chg]
abbrev Le (a:YL):AV:=.agg (Oc a)
def Wp (xs:List YL):List AV:=xs.map Le
abbrev YO (xs:List YL):AV:=.sl (Wp xs) none
abbrev HQ (xs:List YL) (v:Value):AV:=.sl (Wp xs) (some v)
theorem Z2e {xs:List YL} {j:Nat} {x:YL} (h:xs[j]? = some x):(Wp xs)[j]? = some (Le x):=by simp [Wp,h]
@[simp] theorem Z2f (xs:List YL):(Wp xs).length=xs.length:=by simp [Wp]
theorem MH (xs ys:List YL):Wp (xs++ys)=Wp xs++Wp ys:=by simp [Wp]
theorem Bw (xs:List YL):∀y∈Wp xs,y.leaves.length=4:=by intro y hy;simp only [Wp,Xb] at hy;obtain ⟨x,_,rfl⟩:=hy;rfl
theorem GD (xs:List YL):(Zu (Wp xs)).all AV.one=true:=KB fun y hy=>by simp only [Wp,Xb] at hy;obtain ⟨x,_,rfl⟩:=hy;rfl
theorem Z2g {xs:List YL} (h:Wp xs=[]):xs=[]:=by cases xs with|nil=>rfl|cons x r=>cases h
abbrev WH:=Zc
def VI:LI->Int->LI
 | [],_=>[]
 | t::r,p=>if t≠0 then p::VI r (p+1) else VI r (p+1)
theorem Z3y {xs:LI} {k:Nat} {t p:Int} {acc r:LI} (h:xs[k]? = some t) (ha:acc++VI (xs.drop k) (p+k)=r) :
  (if t≠0 then acc++[p+k] else acc)++VI (xs.drop (k+1)) (p+((k+1:Nat):Int))=r:=by
 rw [ZH h,VI] at ha
 rw [show p+((k+1:Nat):Int)=p+k+1 by omega]
 split
 ·rename_i q;rw [Z6 q] at ha;rw [VW];exact ha
 ·rename_i q;rw [Z4 q] at ha;exact ha
theorem Z3x {xs:LI} {k:Nat} {p:Int} {acc r:LI} (h:xs.length<=k) (ha:acc++VI (xs.drop k) (p+k)=r):acc=r:=by
 rw [YR h,VI,AA] at ha;exact ha
theorem H8:∀(xs:LI) (p:Int) (own:LI),UJ own p xs=(VI xs p).foldl (fun o f=>o.set f.toNat (gI o f+1)) own
 | [],_,_=>rfl
 | t::r,p,own=>by
  rw [UJ,VI]
  split
  ·rw [List.foldl_cons];exact H8 r _ _
  ·exact H8 r _ _
theorem H9:∀{xs:LI} {p f:Int},f∈VI xs p->p<=f/\f<p+xs.length
 | [],_,_,h=>by simp [VI] at h
 | t::r,p,f,h=>by
  rw [VI] at h
  split at h
  ·rcases Yw.1 h with rfl|h
   ·simp only [XF];omega
   ·have:=H9 h;simp only [XF];omega
  ·have:=H9 h;simp only [XF];omega
theorem Ns:∀(xs:LI) (p:Int),(VI xs p).length<=xs.length
 | [],_=>by simp [VI]
 | t::r,p=>by
  have:=Ns r (p+1)
  rw [VI];split<;>simp<;>omega
def Ud:List YL->Int->Option YL
 | [],_=>none
 | a::r,v=>match Ud r v with
  | some x=>some x
  | none=>if a.mat=v then some a else none
theorem OW {a:YL}:∀{as1:List YL} {v:Int},Ud (as1++[a]) v=if a.mat=v then some a else Ud as1 v
 | [],v=>rfl
 | x::r,v=>by
  rw [Kn,Ud,OW]
  by_cases h:a.mat=v
  ·rw [Z6 h,Z6 h]
  ·rw [Z4 h,Z4 h];rfl
theorem CY {v:Int}:∀{as1:List YL},(∀a∈as1,a.mat≠v)->Ud as1 v=none
 | [],_=>rfl
 | x::r,h=>by rw [Ud,CY (fun a ha=>h a (Xv _ ha))];exact Z4 (h x (YV ..))
theorem OV {v:Int} {a:YL}:∀{as1:List YL},Ud as1 v=some a->a∈as1/\a.mat=v
 | [],h=>by cases h
 | x::r,h=>by
  rw [Ud] at h
  cases hr:Ud r v with
  | some y=>rw [hr] at h;cases h;have:=OV hr;exact ⟨Xv _ this.1,this.2⟩
  | none=>
   rw [hr] at h
   simp only at h
   split at h
   ·cases h;exact ⟨YV ..,by assumption⟩
   ·cases h
structure Wx (ds:List Zs) (L:Zc) (as1:List YL):Prop where
 rng:∀a∈as1,0<=a.mat/\a.mat<a.fst/\a.fst+a.fds.length<=L.vars.length
 par:∀a∈as1,∀v:Int,a.fst<=v->v<a.fst+a.fds.length->gI L.par v=a.mat
 non:∀v:Int,0<=v->v<L.vars.length->0<=gI L.par v->∃a∈as1,a.fst<=v/\v<a.fst+a.fds.length
 off:∀v:Int,0<=v->v<L.vars.length->match Ud as1 v with
  | none=>gI L.con v<0
  | some a=>0<=gI L.con v/\a.fst=gI L.fst v/\a.fds=Y2 ds (gI L.con v)
theorem Wx.same {ds:List Zs} {L M:Zc} {as1:List YL} (h:Wx ds L as1) (h1:M.vars.length=L.vars.length) (h2:M.par=L.par) (h3:M.con=L.con) (h4:M.fst=L.fst):Wx ds M as1:=by
 refine ⟨?_,?_,?_,?_⟩
 ·rw [h1];exact h.rng
 ·rw [h2];exact h.par
 ·rw [h1,h2];exact h.non
 ·rw [h1,h3,h4];exact h.off
theorem Wx.grow {ds:List Zs} {L:Zc} {as1:List YL} {t o:Int} (h:Wx ds L as1) (hl:W9 L):Wx ds (L.grow t o (-1)) as1:=by
 obtain ⟨e1,e2,e3,e4,e5⟩:=hl
 have key:∀{xs:LI} {y v:Int},xs.length=L.vars.length->0<=v->v<L.vars.length->gI (xs++[y]) v=gI xs v:=fun hx h0 h1=>A8 om
 have kend:∀{xs:LI} {y v:Int},xs.length=L.vars.length->v=(L.vars.length:Int)->gI (xs++[y]) v=y:=fun hx h1=>H0 om
 have hlen:(L.grow t o (-1)).vars.length=L.vars.length+1:=by simp [Zc.grow]
 refine ⟨fun a ha=>?_,fun a ha v h1 h2=>?_,fun v h0 h1 h2=>?_,fun v h0 h1=>?_⟩
 ·have:=h.rng a ha;omega
 ·have:=h.rng a ha
  show gI (L.par++[-1]) v=a.mat
  rw [key e2 om om];exact h.par a ha v h1 h2
 ·have h2':0<=gI (L.par++[-1]) v:=h2
  by_cases hv:v<L.vars.length
  ·rw [key e2 h0 hv] at h2';exact h.non v h0 hv h2'
  ·rw [kend e2 om] at h2';omega
 ·show match Ud as1 v with
   | none=>gI (L.con++[-1]) v<0
   | some a=>0<=gI (L.con++[-1]) v/\a.fst=gI (L.fst++[-1]) v/\a.fds=Y2 ds (gI (L.con++[-1]) v)
  by_cases hv:v<L.vars.length
  ·rw [key e3 h0 hv,key e4 h0 hv];exact h.off v h0 hv
  ·rw [CY (fun a ha=>by have:=h.rng a ha;omega)]
   show gI (L.con++[-1]) v<0
   rw [kend e3 om];omega
theorem Wx.arm {ds:List Zs} {L:Zc} {as1:List YL} {x c:Int} (h:Wx ds L as1) (hl:W9 L) (hx:0<=x/\x<L.vars.length) (hc:0<=c) :
  Wx ds (KU ds L x c) (as1++[⟨x,(L.vars.length:Nat),Y2 ds c,false⟩]):=by
 obtain ⟨e1,e2,e3,e4,e5⟩:=hl
 rw [KU,H5]
 have hnew:∀{xs:LI} {y v:Int},xs.length=L.vars.length->(L.vars.length:Int)<=v->v<L.vars.length+(Y2 ds c).length->gI (xs++List.replicate (Y2 ds c).length y) v=y:=fun hx h0 h1=>H3 om
 have X6:∀{xs:LI} {y v:Int},xs.length=L.vars.length->0<=v->v<L.vars.length->gI (xs++List.replicate (Y2 ds c).length y) v=gI xs v:=fun hx h0 h1=>A8 om
 refine ⟨fun a ha=>?_,fun a ha v h1 h2=>?_,fun v h0 h1 h2=>?_,fun v h0 h1=>?_⟩
 ·simp only [Yz]
  rcases Yv.1 ha with ha|ha
  ·have:=h.rng a ha;omega
  ·rw [YH.1 ha]
   show 0<=x/\x<(L.vars.length:Nat)/\(L.vars.length:Int)+((Y2 ds c).length:Nat)<=_
   omega
 ·show gI (L.par++List.replicate _ x) v=a.mat
  rcases Yv.1 ha with ha|ha
  ·have:=h.rng a ha
   rw [X6 e2 om om];exact h.par a ha v h1 h2
  ·rw [YH.1 ha] at h1 h2 ⊢
   exact hnew e2 h1 h2
 ·simp only [Yz] at h1
  have h2':0<=gI (L.par++List.replicate (Y2 ds c).length x) v:=h2
  by_cases hv:v<L.vars.length
  ·rw [X6 e2 h0 hv] at h2'
   obtain ⟨a,ha,q⟩:=h.non v h0 hv h2'
   exact ⟨a,List.mem_append_left _ ha,q⟩
  ·exact ⟨_,List.mem_append_right _ (YH.2 rfl),by show (L.vars.length:Int)<=v;omega,by show v<(L.vars.length:Int)+(Y2 ds c).length;omega⟩
 ·simp only [Yz] at h1
  show match Ud (as1++[⟨x,(L.vars.length:Nat),Y2 ds c,false⟩]) v with
   | none=>gI (L.con.set x.toNat c++List.replicate (Y2 ds c).length (-1)) v<0
   | some a=>0<=gI (L.con.set x.toNat c++List.replicate (Y2 ds c).length (-1)) v/\a.fst=gI (L.fst.set x.toNat L.vars.length++List.replicate (Y2 ds c).length (-1)) v /\
     a.fds=Y2 ds (gI (L.con.set x.toNat c++List.replicate (Y2 ds c).length (-1)) v)
  rw [OW]
  by_cases hv:v<L.vars.length
  ·rw [X6 (by simp [e3]) h0 hv,X6 (by simp [e4]) h0 hv]
   by_cases he:x=v
   ·rw [Z6 he]
    show 0<=gI (L.con.set x.toNat c) v/\(L.vars.length:Int)=gI (L.fst.set x.toNat L.vars.length) v/\Y2 ds c=Y2 ds (gI (L.con.set x.toNat c) v)
    rw [Ed om om,Ed om om]
    exact ⟨hc,rfl,rfl⟩
   ·rw [Z4 he,Ee om,Ee om];exact h.off v h0 hv
  ·rw [hnew (by simp [e3]) om om]
   rw [Z4 (by show ¬x=v;omega),CY (fun a ha=>by have:=h.rng a ha;omega)]
   show (-1:Int)<0
   omega
theorem Sy {L:Zc} {ln:LI} {v:Int} {p:Int} (hv:0<=v/\v<L.vars.length) (hd:∀i:Int,0<=i->i<L.vars.length->gI L.par i<i) (h:¬(gI L.own v>0∨v∈ln)) (hp:gI L.par v=p) (h0:0<=p):XV L ln v=XV L ln p:=
 (LE (N:=L.vars.length) rfl hp hv ⟨by omega,fun q=>h (.inr q)⟩ om hd rfl).symm
theorem Sx {L:Zc} {ln:LI} {v:Int} (h:¬(gI L.own v>0∨v∈ln)) (hp:gI L.par v<0):XV L ln v=false:=
 (LD rfl rfl ⟨by omega,fun q=>h (.inr q)⟩ hp rfl).symm
theorem Sz {L:Zc} {ln:LI} {v:Int} (h:gI L.own v>0∨v∈ln):XV L ln v=true:=
 (LF rfl (fun q=>h.elim (fun z=>by omega) q.2) rfl).symm
end Go.Abs
namespace Go.Abs
def Xc (L:Zc) (v:Int):Zc:={ L with own:=L.own.set v.toNat (gI L.own v-1) }
theorem JO {L:Zc} {v:Int}:Ug L v=if 1<=gI L.own v then some (Xc L v) else none:=by
 rw [Ug]
 by_cases h:gI L.own v<1
 ·rw [Z6 h,Z4 om]
 ·rw [Z4 h,Z6 om];rfl
end Go.Abs
namespace Go.Abs
def XG (L:Zc) (r:Int):Zc:=if gI L.vars r≠0 then Xc L r else L
theorem N1 {L:Zc} {m:Nat} {r:Int} (ho:gI L.vars r≠0->1<=gI L.own r) (hz:WF ((XG L r).own.drop m) ((XG L r).tok.drop m)=true):VH m r L=some ((XG L r).take m):=by
 rw [VH]
 by_cases h:gI L.vars r≠0
 ·rw [Z6 h,JO,Z6 (ho h)]
  have e:XG L r=Xc L r:=Z6 h
  rw [e] at hz ⊢
  exact Z6 hz
 ·rw [Z4 h]
  have e:XG L r=L:=Z4 h
  rw [e] at hz ⊢
  exact Z6 hz
theorem Z31 {L:Zc} {m:Nat} {r:Int} (h:gI L.vars r≠0) (ho:¬1<=gI L.own r):VH m r L=none:=by
 rw [VH,Z6 h,JO,Z4 ho];rfl
theorem E9 {L:Zc} {m:Nat} {r:Int} (hz:WF ((XG L r).own.drop m) ((XG L r).tok.drop m)=false):VH m r L=none:=by
 rw [VH]
 by_cases h:gI L.vars r≠0
 ·rw [Z6 h,JO]
  have e:XG L r=Xc L r:=Z6 h
  rw [e] at hz
  split
  ·exact Z4 (by rw [hz];simp)
  ·rfl
 ·rw [Z4 h]
  have e:XG L r=L:=Z4 h
  rw [e] at hz
  exact Z4 (by rw [hz];simp)
theorem Fs {os ts:LI} {k:Nat} {o t:Int} {r:Bool} (h1:os[k]? = some o) (h2:ts[k]? = some t) (h:o≠0∨0<=t) (hr:WF (os.drop k) (ts.drop k)=r):r=false:=by
 rw [ZH h1,ZH h2,WF,Z6 h] at hr;exact hr.symm
theorem Ft {os ts:LI} {k:Nat} {o t:Int} {r:Bool} (h1:os[k]? = some o) (h2:ts[k]? = some t) (h:¬(o≠0∨0<=t)) (hr:WF (os.drop k) (ts.drop k)=r):WF (os.drop (k+1)) (ts.drop (k+1))=r:=by
 rw [ZH h1,ZH h2,WF,Z4 h] at hr;exact hr
theorem S6 {os ts:LI} {k:Nat} {r:Bool} (h1:os.length<=k) (hr:WF (os.drop k) (ts.drop k)=r):r=true:=by
 rw [YR h1] at hr;rw [<-hr];simp [WF]
end Go.Abs
namespace Go.Abs
def Br (o:LI) (fs:LI):LI:=fs.foldl (fun o f=>o.set f.toNat (gI o f+1)) o
theorem Z0c {p:Int} {xs own:LI}:Br own (VI xs p)=UJ own p xs:=(H8 xs p own).symm
theorem Z0d {fs o r:LI} {k:Nat} {f x:Int} (h:fs[k]? = some f) (hx:gI o f=x) (hr:Br o (fs.drop k)=r):Br (o.set f.toNat (x+1)) (fs.drop (k+1))=r:=by
 rw [ZH h,Br,List.foldl_cons,hx] at hr;exact hr
theorem M6 {fs o r:LI} {k:Nat} (h:fs.length<=k) (hr:Br o (fs.drop k)=r):o=r:=by
 rw [YR h] at hr;exact hr
def Qe (n:Zl) (ln:LI) (L:Zc) (op v:Int):Option Zc:=if op=14 then KY L ln v else if op=15 then Ug L v else TK n.decls L op v
section
variable {n:Zl} {ln:LI} {L:Zc} {op v:Int} {am:List YL} {a:YL}
theorem Z16 (h:op=14) (ha:¬XV L ln v=true):Qe n ln L op v=none:=by rw [Qe,Z6 h,KY,Z4 ha]
theorem Z17 (h:op=14) (ha:XV L ln v=true) {x:Int} (hx:gI L.own v=x):Qe n ln L op v=some { L with own:=L.own.set v.toNat (x+1) }:=by rw [Qe,Z6 h,KY,Z6 ha,hx]
theorem Z19 (h:op=15) (ht:1<=gI L.own v):Qe n ln L op v=some (Xc L v):=by rw [Qe,Z4 om,Z6 h,JO,Z6 ht]
theorem Z18 (h:op=15) (ht:¬1<=gI L.own v):Qe n ln L op v=none:=by rw [Qe,Z4 om,Z6 h,JO,Z4 ht]
theorem Mt (h1:¬op=14) (h2:¬op=15):Qe n ln L op v=TK n.decls L op v:=by rw [Qe,Z4 h1,Z4 h2]
theorem Z91 {ds:List Zs} (har:Wx ds L am) (hv:0<=v/\v<L.vars.length) (ho:Ud am v=none):TK ds L op v=none:=by
 have:=har.off v hv.1 hv.2
 rw [ho] at this
 rw [TK,Z6 (.inl this)]
theorem Z90 {ds:List Zs} (har:Wx ds L am) (hv:0<=v/\v<L.vars.length) (ho:Ud am v=some a) {xt:Int} (hxt:gI L.tok v=xt):TK ds L op v=if ¬1<=gI L.own v∨(op=17/\xt>=0) then none else
  some { Xc L v with own:=UJ (Xc L v).own a.fst a.fds,tok:=if op=17 then L.tok.set v.toNat a.fds.length else L.tok }:=by
 have:=har.off v hv.1 hv.2
 rw [ho] at this
 obtain ⟨h1,h2,h3⟩:=this
 have hcon:¬gI L.con v<0:=by omega
 rw [TK,JO,hxt,<-h2,<-h3]
 by_cases ht:1<=gI L.own v
 ·rw [Z6 ht]
  by_cases h17:op=17/\xt>=0
  ·have c1:gI L.con v<0∨(op=17/\0<=xt):=.inr h17
   have c2:¬1<=gI L.own v∨(op=17/\xt>=0):=.inr h17
   rw [Z6 c1,Z6 c2]
  ·have c1:¬(gI L.con v<0∨(op=17/\0<=xt)):=fun q=>q.elim hcon h17
   have c2:¬(¬1<=gI L.own v∨(op=17/\xt>=0)):=fun q=>q.elim (fun z=>z ht) h17
   rw [Z4 c1,Z4 c2]
 ·rw [Z4 ht]
  have c2:¬1<=gI L.own v∨(op=17/\xt>=0):=.inl ht
  rw [Z6 c2]
  split<;>rfl
end
end Go.Abs
namespace Go.Abs
theorem Z22 {ds:List Zs} {L:Zc} {q v:Int} (hk:YI ds L q) (h1:1<=gI L.own v) (hv:0<=v/\v<L.vars.length):∀y∈(Xc L v).own,0<=y/\y<=q:=by
 intro y hy
 rcases QK hy with hy|rfl
 ·exact ⟨hk.nn y hy,hk.bd y hy⟩
 ·obtain ⟨x,hx⟩:=QH (xs:=L.own) (j:=v.toNat) (by have:=hk.len.own;omega)
  have hg:=Vo hx
  have:=hk.bd x (YA hx)
  omega
end Go.Abs
end
section
namespace Go.Abs
def WE (n:Zl) (us:LI) (op num:Int):LI->Nat->LI
 | [],_=>[]
 | a::r,i=>if TV n us op num a i=true then (i:Int)::WE n us op num r (i+1) else WE n us op num r (i+1)
section
variable {n:Zl} {us:LI} {op num:Int}
theorem Z9b {args acc r:LI} {k:Nat} {a:Int} (h:args[k]? = some a) (hc:TV n us op num a k=true) (hr:acc++WE n us op num (args.drop k) k=r) :
  (acc++[(k:Int)])++WE n us op num (args.drop (k+1)) (k+1)=r:=by
 rw [ZH h,WE,Z6 hc] at hr;rw [VW];exact hr
theorem Pf {args acc r:LI} {k:Nat} {a:Int} (h:args[k]? = some a) (hc:¬TV n us op num a k=true) (hr:acc++WE n us op num (args.drop k) k=r) :
  acc++WE n us op num (args.drop (k+1)) (k+1)=r:=by
 rw [ZH h,WE,Z4 hc] at hr;exact hr
theorem Z9a {args acc r:LI} {k:Nat} (h:args.length<=k) (hr:acc++WE n us op num (args.drop k) k=r):acc=r:=by
 rw [YR h,WE,AA] at hr;exact hr
theorem I3 (h:¬Qf op=true):∀(args:LI) (i:Nat),WE n us op num args i=[]
 | [],_=>rfl
 | a::r,i=>by
  have hb:Qf op=false:=by simpa using h
  rw [WE,Z4 (by rw [TV,hb];simp)];exact I3 h r (i+1)
theorem I2:∀{args:LI} {i:Nat} {p:Int},p∈WE n us op num args i->(i:Int)<=p/\p<i+args.length
 | [],_,_,h=>by simp [WE] at h
 | a::r,i,p,h=>by
  rw [WE] at h
  simp only [XF]
  split at h
  ·rcases Yw.1 h with rfl|h
   ·omega
   ·have:=I2 h;omega
  ·have:=I2 h;omega
theorem Pe:∀(args:LI) (i:Nat),(WE n us op num args i).length<=args.length
 | [],_=>by simp [WE]
 | a::r,i=>by
  have:=Pe r (i+1)
  rw [WE];split<;>simp<;>omega
theorem Oq (h:¬Qf op=true) (i:Nat):¬VK n op num i=true:=by
 have:op≠9:=fun q=>h (by rw [q];rfl)
 rw [VK,AZ,Z4 this];simp
def JV (n:Zl) (op num:Int) (args:LI) (k:Nat) (ls:LI):Prop:=∀x,x∈ls↔∃i,i<k/\args[i]? = some x/\VK n op num i=true
theorem On {args ls:LI} {k:Nat} (h:JV n op num args k ls) (hl:¬VK n op num k=true):JV n op num args (k+1) ls:=by
 intro x;rw [h x]
 constructor
 ·rintro ⟨i,q1,q2⟩;exact ⟨i,by omega,q2⟩
 ·rintro ⟨i,q1,q2,q3⟩
  rcases AC i k with q|q
  ·exact ⟨i,q,q2,q3⟩
  ·have:i=k:=by omega
   subst this;exact absurd q3 hl
theorem Z7g {args ls ls2:LI} {k:Nat} {a:Int} (ha:args[k]? = some a) (h:JV n op num args k ls) (hl:VK n op num k=true) (h2:∀x,x∈ls2↔x∈ls∨x=a):JV n op num args (k+1) ls2:=by
 intro x;rw [h2 x,h x]
 constructor
 ·rintro (⟨i,q1,q2⟩|rfl)
  ·exact ⟨i,by omega,q2⟩
  ·exact ⟨k,by omega,ha,hl⟩
 ·rintro ⟨i,q1,q2,q3⟩
  rcases AC i k with q|q
  ·exact .inl ⟨i,q,q2,q3⟩
  ·have:i=k:=by omega
   subst this;rw [ha] at q2;exact .inr (Ti q2).symm
theorem Z7i {args:LI}:JV n op num args 0 []:=by intro x;simp
theorem Z7h {args ls:LI} {k:Nat} (h:JV n op num args k ls) (hk:args.length<=k):∀x,x∈ls↔∃i,args[i]? = some x/\VK n op num i=true:=by
 intro x;rw [h x]
 constructor
 ·rintro ⟨i,_,q⟩;exact ⟨i,q⟩
 ·rintro ⟨i,q⟩;exact ⟨i,by have:=(XZ.1 q.1).1;omega,q⟩
end
def Qq (args:LI):LI->Zc->Option Zc
 | [],L=>some L
 | k::r,L=>match Ug L (gI args k) with
  | none=>none
  | some L1=>Qq args r L1
theorem Dn {n:Zl} {op num:Int} {all:LI}:∀{args:LI} {i:Nat} {L:Zc},all.drop i=args->TE n op num args i L=Qq all (WE n L.vars op num args i) L
 | [],i,L,_=>rfl
 | a::r,i,L,h=>by
  have hr:all.drop (i+1)=r:=by rw [<-List.drop_drop,h];rfl
  have ha:gI all (i:Int)=a:=by
   have:(all.drop i)[0]? = some a:=by rw [h];rfl
   rw [Ca] at this
   exact Vo (by simpa using this)
  rw [TE,WE]
  split
  ·rw [Qq,ha]
   cases ht:Ug L a with
   | none=>rfl
   | some L1=>
    simp only
    rw [Dn hr,(Qp ht).2.1]
  ·exact Dn hr
theorem Zd7 {args ps:LI} {k:Nat} {L:Zc} {p x:Int} {r:Option Zc} (h:ps[k]? = some p) (hx:gI args p=x) (ht:1<=gI L.own x) (hr:Qq args (ps.drop k) L=r):Qq args (ps.drop (k+1)) (Xc L x)=r:=by
 rw [ZH h,Qq,hx,JO,Z6 ht] at hr;exact hr
theorem Zd8 {args ps:LI} {k:Nat} {L:Zc} {p x:Int} {r:Option Zc} (h:ps[k]? = some p) (hx:gI args p=x) (ht:¬1<=gI L.own x) (hr:Qq args (ps.drop k) L=r):r=none:=by
 rw [ZH h,Qq,hx,JO,Z4 ht] at hr;exact hr.symm
theorem Zd6 {args ps:LI} {k:Nat} {L:Zc} {r:Option Zc} (h:ps.length<=k) (hr:Qq args (ps.drop k) L=r):r=some L:=by
 rw [YR h,Qq] at hr;exact hr.symm
theorem Ef {n:Zl} {op num:Int} {ln:LI} {L:Zc} {all:LI}:∀{args:LI} {i:Nat},all.drop i=args ->
  (K4 n op num ln L args i=true↔∀j x,i<=j->all[j]? = some x->VK n op num j=true->XV L ln x=true)
 | [],i,h=>by
  simp only [K4,true_iff]
  intro j x hj hx _
  have:=(XZ.1 hx).1
  have hl:=Yp List.length h
  simp at hl;omega
 | a::r,i,h=>by
  have hr:all.drop (i+1)=r:=by rw [<-List.drop_drop,h];rfl
  have ha:all[i]? = some a:=by
   have:(all.drop i)[0]? = some a:=by rw [h];rfl
   rw [Ca] at this;simpa using this
  rw [K4]
  split
  ·rename_i q
   simp only [Bool.false_eq_true,false_iff]
   exact fun z=>q.2 (z i a (YX _) ha q.1)
  ·rename_i q
   rw [Ef hr]
   constructor
   ·intro z j x hj hx hl
    rcases AC i j with hij|hij
    ·exact z j x hij hx hl
    ·have:j=i:=by omega
     subst this;rw [ha] at hx;cases hx
     exact Wr.1 fun y=>q ⟨hl,y⟩
   ·exact fun z j x hj=>z j x om
theorem Nr {n:Zl} {ln:LI} {L L1:Zc} {op num into:Int} {args ls:LI} (h1:Qq args (WE n L.vars op num args 0) L=some L1) (hl:∀x,x∈ls↔∃i,args[i]? = some x/\VK n op num i=true) :
  ((∀x∈ls,XV L1 ln x=true)->Uo n ln L op num into args=K5 L1 into args.length)/\((∃x∈ls,¬XV L1 ln x=true)->Uo n ln L op num into args=none):=by
 rw [Uo,Dn (all:=args) (args:=args) (i:=0) rfl,h1]
 simp only
 constructor
 ·intro h
  rw [Z6 ((Ef (all:=args) (args:=args) (i:=0) rfl).2 fun j x _ hx hj=>h x ((hl x).2 ⟨j,hx,hj⟩))]
 ·rintro ⟨x,hx,hd⟩
  rw [Z4]
  intro z
  obtain ⟨j,q1,q2⟩:=(hl x).1 hx
  exact hd ((Ef (all:=args) (args:=args) (i:=0) rfl).1 z j x (TO _) q1 q2)
theorem Z3q {n:Zl} {ln:LI} {L:Zc} {op num into:Int} {args:LI} (h1:Qq args (WE n L.vars op num args 0) L=none):Uo n ln L op num into args=none:=by
 rw [Uo,Dn (all:=args) (args:=args) (i:=0) rfl,h1]
end Go.Abs
namespace Go.Abs
theorem Zal {n:Zl} (hn:YY n) (num:Int):(U4 n num).lnt.length<=4194304:=by
 rw [U4,Th]
 cases h:n.routines[num.toNat]? with
 | none=>simp
 | some r=>exact hn.lent r (YA h)
theorem Z7f {n:Zl} {op num:Int} {k:Nat}:VK n op num k=true↔(op=9/\(k:Int)∈(U4 n num).lnt):=by
 rw [VK,AZ,decide_eq_true_iff]
 by_cases h:op=9
 ·rw [Z6 h,U4,Th]
  cases n.routines[num.toNat]? with
  | none=>simp
  | some r=>simp [h,Xn]
 ·rw [Z4 h];simp [h]
end Go.Abs
namespace Go.Abs
theorem clS {xs:LI} {p:LI->Prop}:Bk fun r h=>∃(vp vl:Value) (ls:LI),r=.tup [ZV xs vp,ZV ls vl]/\h=[.tail vp 1,.tail vl 1]/\p ls:=by
 rintro _ _ ⟨vp,vl,ls,rfl,rfl,_⟩
 refine ⟨.tup fun y hy=>?_,by simp [JS]⟩
 simp only [Yw,List.not_mem_nil,or_false] at hy
 rcases hy with rfl|rfl
 ·exact .own (k:=1) (Fp _) (by simp)
 ·exact .own (k:=1) (Fp _) (by simp)
end Go.Abs
end
section
namespace Go.Abs
section
variable {n:Zl} {ln:LI}
theorem Z3r {L L':Zc} {op num into q:Int} {args:LI} {ds:List Zs} (hk:YI ds L q) (h:Uo n ln L op num into args=some L'):L'.vars=L.vars/\L'.par=L.par/\L'.con=L.con/\L'.fst=L.fst:=by
 rw [Uo] at h
 cases ht:TE n op num args 0 L with
 | none=>rw [ht] at h;cases h
 | some L1=>
  rw [ht] at h
  obtain ⟨_,h1,h2,h3,h4,_⟩:=Eg hk ht
  simp only at h
  split at h
  ·rw [K5] at h
   split at h
   ·split at h
    ·cases h
    ·cases h;exact ⟨h1,h2,h3,h4⟩
   ·cases h;exact ⟨h1,h2,h3,h4⟩
  ·cases h
theorem Z99 {L L1:Zc} {s:Z8} {q:Int} {ds:List Zs} (hk:YI ds L q) (h:Q1 n ln L s.op s.num s.into s.args (TG n ln L s.op s.num s.args s.kids)=some L1):L1.vars=L.vars/\L1.par=L.par/\L1.con=L.con/\L1.fst=L.fst:=by
 rw [Q1] at h
 split at h
 ·obtain ⟨h1,h2,h3,h4,_⟩:=GC h;exact ⟨h1,h2,h3,h4⟩
 split at h
 ·obtain ⟨_,h1,h2,h3,h4,_⟩:=Qp h;exact ⟨h1,h2,h3,h4⟩
 split at h
 ·obtain ⟨h1,h2,h3,h4,_⟩:=HU h;exact ⟨h1,h2,h3,h4⟩
 split at h
 ·split at h
  ·cases h
  ·cases hks:s.kids with
   | nil=>rw [hks,TG] at h;cases h
   | cons b bs=>
    rw [hks,TG] at h
    unfold Ai at h
    cases hb:WL n ln (Vb n.decls L s.op s.num s.args 0) L.vars.length b with
    | none=>rw [hb] at h;cases h
    | some one=>
     rw [hb] at h
     simp only at h
     split at h
     ·cases h;exact ⟨rfl,rfl,rfl,rfl⟩
     ·cases h
 ·exact Z3r hk h
theorem Rr (hn:YY n) {s:Z8} {L L':Zc} {q:Int} {am:List YL} (hk:YI n.decls L q) (hq:0<=q) (hty:0<=ZQ n L.vars s) (h:UW n ln L s=some L') (ha:Wx n.decls L am):Wx n.decls L' am:=by
 rw [IL] at h
 cases hp:Q1 n ln L s.op s.num s.into s.args (TG n ln L s.op s.num s.args s.kids) with
 | none=>rw [hp] at h;cases h
 | some L1=>
  rw [hp] at h
  obtain ⟨h1,h2,h3,h4⟩:=Z99 hk hp
  have hk1:=(An hn hk hq (B6 hty) hp).1
  have ha1:Wx n.decls L1 am:=ha.same (by rw [h1]) h2 h3 h4
  rw [K1] at h
  split at h
  ·cases h;exact ha1.grow hk1.len
  ·cases h;exact ha1
theorem Fh (hn:YY n) {am:List YL}:∀{xs:List Z8} {L L':Zc} {q:Int} {vs:LI},YI n.decls L q->0<=q->Wx n.decls L am->Xr n xs L.vars=some vs->V0 n ln L xs=some L' ->
  YI n.decls L' (q+4*Y6 xs)/\L'.vars=vs/\Wx n.decls L' am
 | [],L,L',q,vs,hk,hq,ha,ht,h=>by
  rw [V0] at h;rw [Xr] at ht;cases h;cases ht
  exact ⟨by simpa [Y6] using hk,rfl,ha⟩
 | s::r,L,L',q,vs,hk,hq,ha,ht,h=>by
  rw [V0] at h
  cases hs:UW n ln L s with
  | none=>rw [hs] at h;cases h
  | some L1=>
   rw [hs] at h
   obtain ⟨g1,g2⟩:=C4 ht
   obtain ⟨k1,k2⟩:=IM hn hk hq g1 hs
   have:=Fh hn (xs:=r) k1 (by have:=s.sz_pos;omega) (Rr hn hk hq g1 hs ha) (by rw [k2];exact g2) h
   refine ⟨?_,this.2⟩
   rw [show q+4*Y6 (s::r)=q+4*s.sz+4*Y6 r by rw [Y6];omega]
   exact this.1
end
end Go.Abs
namespace Go.Abs
def AF (n:Zl):Prop:=∀r∈n.routines,∀i:Nat,(i:Int)∈r.lent->∃t,r.params[i]? = some t/\t≠0
theorem Om {ps:LI}:∀{ls:LI} {prev:Option Int},TZ ps ls prev=true->∀v∈ls,(0<=v/\v<=(ps.length:Int)-1)/\ps[v.toNat]?≠some 0
 | [],_,_,v,h=>by cases h
 | x::r,prev,h,v,hv=>by
  rw [TZ] at h
  split at h
  ·rename_i q
   rcases Yw.1 hv with rfl|hv
   ·exact ⟨q.1,q.2.1⟩
   ·exact Om h v hv
  ·cases h
theorem Ot:∀{rs:List YB},TI rs=true->∀r∈rs,Kj r.params r.lent=true
 | [],_,r,h=>by cases h
 | x::rs,h,r,hr=>by
  rw [TI] at h
  split at h
  ·rcases Yw.1 hr with rfl|hr
   ·assumption
   ·exact Ot h r hr
  ·cases h
theorem Z88 {n:Zl} (h:V5 n=true):AF n:=by
 simp only [V5,Qs,Xs,decide_eq_true_eq] at h
 obtain ⟨_,_,h6⟩:=h
 intro r hr i hi
 obtain ⟨h1,h2⟩:=Om (Ot h6 r hr) i hi
 obtain ⟨t,ht⟩:=QH (xs:=r.params) (j:=i) om
 refine ⟨t,ht,fun q=>h2 ?_⟩
 rw [Qt,ht,q]
theorem Fo {us:LI}:∀{args tys:LI} {i:Nat} {a t:Int},UH us args tys=true->args[i]? = some a->tys[i]? = some t->YJ us a=some t
 | [],_,i,a,t,_,h,_=>by simp at h
 | x::r,[],i,a,t,_,_,h=>by simp at h
 | x::r,y::ys,i,a,t,h,ha,ht=>by
  rw [UH] at h
  split at h
  ·rename_i hq
   cases i with
   | zero=>simp at ha ht;subst ha;subst ht;exact hq
   | succ i=>exact Fo h (by simpa using ha) (by simpa using ht)
  ·cases h
theorem Z7j {n:Zl} (hl:AF n) {us:LI} {s:Z8} (h:0<=ZQ n us s):∀(i:Nat) (a:Int),s.args[i]? = some a->VK n s.op s.num i=true->gI us a≠0:=by
 intro i a ha hla
 rw [VK,AZ,decide_eq_true_iff] at hla
 by_cases h9:s.op=9
 ·rw [Z6 h9] at hla
  have hn:=(B6 h).num h9
  obtain ⟨r,hr⟩:=QH (xs:=n.routines) (j:=s.num.toNat) om
  rw [hr] at hla
  obtain ⟨t,ht,h0⟩:=hl r (YA hr) i hla
  rw [KM] at h
  split at h
  ·omega
  rw [Z4 om,Z4 om,Z4 om,Z4 om,Z4 om,Z4 om,Z6 (.inl h9),Tf,Tx om hr] at h
  simp only [QL] at h
  rw [Z6 h9] at h
  split at h
  ·rename_i hty
   rw [XA] at hty
   have hq:YJ us a=some t:=by
    first
    | exact Fo hty ha ht
    | exact Fo (Bool.and_eq_true_iff.1 hty).2 ha ht
    | exact Fo (Bool.and_eq_true_iff.1 hty).1 ha ht
   rw [Vo (QX hq).2];exact h0
  ·omega
 ·rw [Z4 h9] at hla;cases hla
end Go.Abs
namespace Go.Abs
theorem Zae {n:Zl} {us:LI} {s:Z8} (h:∀t∈us,0<=t) (h0:0<=ZQ n us s):∀t∈KJ n us s,0<=t:=by
 rw [KJ];split
 ·exact CU h fun t ht=>by rw [YH.1 ht];exact h0
 ·exact h
end Go.Abs
namespace Go.Abs
theorem Gj {c:Bool} {ok:Int->Prop}:Bk fun r h=>∃t:Int,r=.tup [.i t,.b c]/\h=[]/\ok t:=by
 rintro _ _ ⟨t,rfl,rfl,_⟩
 refine ⟨.tup fun y hy=>?_,by simp⟩
 simp only [Yw,List.not_mem_nil,or_false] at hy
 rcases hy with rfl|rfl<;>exact .val
section
variable {n:Zl} {ln:LI} {L:Zc} {s:Z8}
theorem Z3j {op t:Int} {r:Option Zc} (h:¬Xx op=true):K1 L op t r=r:=by
 cases r with
 | none=>rfl
 | some X=>exact Z4 h
theorem Rt {x:Int} (hc:YU s.op=true) (hx:gI s.args 0=x):UW n ln L s=Qe n ln L s.op x:=by
 have hop:14<=s.op/\s.op<=17:=by simpa [YU] using hc
 have hd:¬Xx s.op=true:=by rw [Xx];simp;omega
 rw [Uf,Z3j hd,Qe]
 by_cases h14:s.op=14
 ·rw [Z6 h14];exact HY h14 hx
 rw [Z4 h14]
 by_cases h15:s.op=15
 ·rw [Z6 h15];exact HZ h15 hx
 rw [Z4 h15]
 exact I0 om hx
theorem IN {L1:Zc} {t:Int} (hP:Q2 n ln L s=some L1) (h0:0<=ZQ n L.vars s) (hnc:¬YU s.op=true) (ht:t=ZQ n L.vars s):UW n ln L s=some (L1.grow t (min t 1) (-1)):=by
 have hd:Xx s.op=true:=by rw [Gy h0];simpa using hnc
 rw [Uf,hP]
 show (if Xx s.op=true then _ else _)=_
 rw [Z6 hd,ht,show (if ZQ n L.vars s≠0 then (1:Int) else 0)=min (ZQ n L.vars s) 1 by split<;>omega]
theorem Ru (hP:Q2 n ln L s=none):UW n ln L s=none:=by rw [Uf,hP];rfl
theorem I1 (h1:¬YU s.op=true) (h2:¬(s.op=7∨s.op=8)):Q2 n ln L s=Uo n ln L s.op s.num s.into s.args:=by
 have hop:¬(14<=s.op/\s.op<=17):=by simpa [YU] using h1
 rw [Q2,Q1,Z4 om,Z4 om,Z4 om,Z4 h2]
theorem Z98 (h1:¬YU s.op=true) (h2:¬(s.op=7∨s.op=8)) (h3:¬Qf s.op=true) (h0:0<=ZQ n L.vars s):Q2 n ln L s=some L:=by
 rw [I1 h1 h2,Uo,Dn (all:=s.args) (args:=s.args) (i:=0) rfl,I3 h3]
 show (if K4 n s.op s.num ln L s.args 0=true then K5 L s.into s.args.length else none)=some L
 rw [Z6 ((Ef (all:=s.args) (args:=s.args) (i:=0) rfl).2 fun j x _ _ hl=>absurd hl (Oq h3 j)),K5]
 have hi:¬0<s.into:=by
  intro hi
  rw [KM] at h0
  split at h0
  ·omega
  ·rename_i hq
   have hv:Vl L.vars s.op s.into=true:=Wr.1 fun z=>hq (.inr (.inl z))
   rw [Vl,Z4 om] at hv
   split at hv
   ·rename_i h6;exact h3 (by rw [h6];rfl)
   ·cases hv
 rw [Z4 hi]
end
end Go.Abs
namespace Go.Abs
def UZ (L:Zc) (am:List YL) (s:Z8) (m:LI):List YL:=if s.op=8 then am++[⟨gI s.args 0,(L.vars.length:Nat),m,false⟩] else am
def Kg (n:Zl) (L:Zc) (s:Z8) (k:Nat):Zc:=if s.op=8 then { L with con:=L.con.set (gI s.args 0).toNat (gI (YG n.decls s.num) k),fst:=L.fst.set (gI s.args 0).toNat L.vars.length } else L
theorem Av {n:Zl} {L:Zc} {s:Z8} {k:Nat}:(Kg n L s k).vars=L.vars:=by rw [Kg];split<;>rfl
theorem C2 {n:Zl} {L:Zc} {s:Z8} {k:Nat}:(Kg n L s k).own=L.own:=by rw [Kg];split<;>rfl
theorem C3 {n:Zl} {L:Zc} {s:Z8} {k:Nat}:(Kg n L s k).tok=L.tok:=by rw [Kg];split<;>rfl
theorem Rq {n:Zl} {L:Zc} {s:Z8} {k:Nat} (h:W9 L):W9 (Kg n L s k):=by rw [Kg];split;exact h.arm;exact h
theorem Rp {n:Zl} {L:Zc} {s:Z8} {k:Nat} {m:LI} (hop:s.op=7∨s.op=8) (hm:(YF n.decls s.op s.num)[k]? = some m):K2 (Kg n L s k) (gI s.args 0) m=Vb n.decls L s.op s.num s.args k:=by
 rw [Kg,Vb]
 by_cases h8:s.op=8
 ·rw [Z6 h8,Z6 h8]
  obtain ⟨c,hc,rfl⟩:=FX h8 hm
  have hgc:gI (YG n.decls s.num) (k:Int)=c:=by rw [gI];simp [hc]
  rw [KU,hgc]
 ·rw [Z4 h8,Z4 h8]
  rw [YF,Z6 om] at hm
  have:m=[]:=by
   match k,hm with
   | 0,hm=>simpa using hm.symm
   | 1,hm=>simpa using hm.symm
   | k+2,hm=>simp at hm
  rw [this];rfl
theorem LO {n:Zl} {L:Zc} {am:List YL} {s:Z8} {k:Nat} {m:LI} (hn:YY n) (ha:Wx n.decls L am) (hl:W9 L) (hop:s.op=7∨s.op=8) (hx:0<=gI s.args 0/\gI s.args 0<L.vars.length) (hm:(YF n.decls s.op s.num)[k]? = some m) :
  Wx n.decls (Vb n.decls L s.op s.num s.args k) (UZ L am s m):=by
 rw [UZ,Vb]
 by_cases h8:s.op=8
 ·rw [Z6 h8,Z6 h8]
  obtain ⟨c,hc,rfl⟩:=FX h8 hm
  have hgc:gI (YG n.decls s.num) (k:Int)=c:=by rw [gI];simp [hc]
  rw [hgc]
  exact ha.arm hl hx (Mv hn.decls hc).1
 ·rw [Z4 h8,Z4 h8];exact ha
end Go.Abs
namespace Go.Abs
theorem Fg {n:Zl}:∀{xs:List Z8} {us vs:LI},Xr n xs us=some vs->us.length<=vs.length/\vs.length<=us.length+Y6 xs
 | [],us,vs,h=>by rw [Xr] at h;cases h;simp [Y6]
 | s::r,us,vs,h=>by
  obtain ⟨_,g2⟩:=C4 h
  have:=Fg g2
  have h2:=C1 n us s
  rw [Y6];omega
theorem LN {L:Zc} {am:List YL} {s:Z8} {m:LI}:(UZ L am s m).length<=am.length+1:=by rw [UZ];split<;>simp
theorem LP {n:Zl} (hty:Qx n) {op num:Int} {k:Nat} {m:LI} (h:(YF n.decls op num)[k]? = some m):∀f∈m,0<=f:=by
 by_cases h7:op=7
 ·rw [YF,Z6 h7] at h
  have:m=[]:=by
   match k,h with
   | 0,h=>simpa using h.symm
   | 1,h=>simpa using h.symm
   | k+2,h=>simp at h
  rw [this];intro f hf;cases hf
 ·rw [YF,Z4 h7,Th] at h
  cases hc:(YG n.decls num)[k]? with
  | none=>rw [hc] at h;cases h
  | some c=>rw [hc] at h;cases h;exact hty.fields c
theorem E8 {L:Zc} {r:Int}:(XG L r).own.length=L.own.length/\(XG L r).tok.length=L.tok.length/\(XG L r).vars=L.vars:=by
 rw [XG];split
 ·exact ⟨Qv,rfl,rfl⟩
 ·exact ⟨rfl,rfl,rfl⟩
end Go.Abs
namespace Go.Abs
theorem Fk {L M:Zc} {n:Zl} {ln:LI} {xs:List Z8} {f:Zc->Option Zc} (h:V0 n ln L xs=some M):C6 (V0 n ln L xs) f=f M:=by rw [h];rfl
end Go.Abs
end
section
namespace Go.Abs
theorem S5:∀{os ts:LI} {m:Nat},os.length=ts.length->(WF os ts=true↔WF (os.take m) (ts.take m)=true/\WF (os.drop m) (ts.drop m)=true)
 | [],[],m,_=>by simp [WF]
 | [],_::_,_,h=>by simp at h
 | _::_,[],_,h=>by simp at h
 | o::os,t::ts,0,h=>by simp [WF]
 | o::os,t::ts,m+1,h=>by
  simp only [Dy,List.drop_succ_cons]
  rw [WF,WF]
  split
  ·simp
  ·exact S5 (by simpa using h)
theorem Pt {n:Zl} {r:YB} {M:Zc} (hP:V0 n r.lent (Ur r) r.body.steps=some M) (hl:M.own.length=M.tok.length):Qc n r=(VH 0 r.body.result M).isSome:=by
 rw [Qc,Ku,hP]
 show (match VH r.params.length r.body.result M with|none=>false|some L=>(U8 L 0).isSome)=_
 rw [VH,VH]
 cases hT:(if gI M.vars r.body.result≠0 then Ug M r.body.result else some M) with
 | none=>rfl
 | some M2=>
  have h2:M2.own.length=M2.tok.length:=by
   split at hT
   ·have:=Qp hT;rw [this.2.2.2.2.2.1,this.2.2.2.2.2.2,Qv];exact hl
   ·cases hT;exact hl
  show (match U8 M2 r.params.length with|none=>false|some L=>(U8 L 0).isSome)=(U8 M2 0).isSome
  have key:=S5 (m:=r.params.length) h2
  rw [U8,U8]
  by_cases h1:WF (M2.own.drop r.params.length) (M2.tok.drop r.params.length)=true
  ·rw [Z6 h1]
   show (U8 (M2.take r.params.length) 0).isSome=_
   rw [U8]
   by_cases h3:WF (M2.own.take r.params.length) (M2.tok.take r.params.length)=true
   ·rw [Z6 (show WF ((M2.take r.params.length).own.drop 0) ((M2.take r.params.length).tok.drop 0)=true from h3),Z6 (show WF (M2.own.drop 0) (M2.tok.drop 0)=true from key.2 ⟨h3,h1⟩)];rfl
   ·rw [Z4 (show ¬WF ((M2.take r.params.length).own.drop 0) ((M2.take r.params.length).tok.drop 0)=true from h3),Z4 (show ¬WF (M2.own.drop 0) (M2.tok.drop 0)=true from fun z=>h3 (key.1 z).1)]
  ·rw [Z4 h1,Z4 (show ¬WF (M2.own.drop 0) (M2.tok.drop 0)=true from fun z=>h1 (key.1 z).2)];rfl
theorem Z9n {n:Zl} {r:YB} (hP:V0 n r.lent (Ur r) r.body.steps=none):Qc n r=false:=by rw [Qc,Ku,hP];rfl
end Go.Abs
namespace Go.Abs
theorem Il {xs:LI} {k:Nat} {a b:Int} (h:xs.length=k):(xs++[a]).set k b=xs++[b]:=by subst h;simp
end Go.Abs
namespace Go.Abs
theorem SK {ds:List Zs}:Wx ds ⟨[],[],[],[],[],[]⟩ []:=⟨fun a ha=>(nomatch ha),fun a ha=>(nomatch ha),fun v h0 h1=>(by have h2:v<((0:Nat):Int):=h1;omega),fun v h0 h1=>(by have h2:v<((0:Nat):Int):=h1;omega)⟩
theorem Pc {ds:List Zs} {lent:LI}:∀{ps:LI} {i:Nat} {L:Zc},W9 L->Wx ds L []->Wx ds (Qm lent ps i L) []
 | [],_,_,_,h=>h
 | t::r,i,L,hl,h=>by rw [Qm];exact Pc hl.grow (h.grow hl)
theorem OJ {ds:List Zs} (rt:YB):Wx ds (Ur rt) []:=Pc ⟨rfl,rfl,rfl,rfl,rfl⟩ SK
end Go.Abs
end
section
namespace Go.Abs
def Y4 (c:Nat) (left:Int):Int:=if left<c then -1 else left-c
theorem Dg {a b:Nat} {left:Int} (h:0<=Y4 a left):Y4 b (Y4 a left)=Y4 (a+b) left:=by
 rw [Y4] at h ⊢
 unfold Y4 at *
 split at h
 ·omega
 ·rename_i q;rw [Z4 q];split<;>split<;>omega
theorem Dk {a b:Nat} {left:Int} (h:Y4 a left<0):Y4 (a+b) left=-1:=by
 unfold Y4 at *
 split at h
 ·rw [Z6 om]
 ·omega
theorem Zcy {left:Int} (h:0<=left):Y4 0 left=left:=by unfold Y4;rw [Z4 om];omega
theorem JM {c:Nat} {left:Int} (h:0<=left):-1<=Y4 c left/\Y4 c left<=left:=by unfold Y4;split<;>omega
def T1 (c:Xp):Nat:=c.fields.length
def Tl:List Xp->Nat
 | []=>0
 | c::r=>T1 c+Tl r
def Uk (l:List Xp):Nat:=l.length+Tl l
def U0 (d:Zs):Nat:=Uk d.cons
def TW:List Zs->Nat
 | []=>0
 | d::r=>U0 d+TW r
def Vv (l:List Zs):Nat:=l.length+TW l
end Go.Abs
namespace Go.Abs
theorem Dl {a b c:Nat} {left lf:Int} {r:Int} (hs:c=a+b) (h:¬Y4 a lf<0) (hr:Y4 c lf=r):Y4 b (Y4 a lf)=r:=by
 rw [Dg om,<-hs];exact hr
theorem Dh {a b c:Nat} {lf r:Int} (hs:c=a+b) (h:Y4 a lf<0) (hr:Y4 c lf=r):-1=r:=by rw [hs,Dk h] at hr;exact hr
theorem Di {c:Nat} {lf r:Int} (hc:c=0) (h0:0<=lf) (hr:Y4 c lf=r):lf=r:=by rw [hc,Zcy h0] at hr;exact hr
theorem Dj {n s:Nat} {left:Int} (h:¬left-(n:Int)<0):Y4 s (left-(n:Int))=Y4 (n+s) left:=by
 have:Y4 n left=left-n:=by unfold Y4;rw [Z4 om]
 rw [<-this,Dg (by rw [this];omega)]
theorem Dm {n s:Nat} {left:Int} (h:left-(n:Int)<0):-1=Y4 (n+s) left:=by unfold Y4;rw [Z6 om]
theorem Mx {cs:List Xp} {k:Nat} {c:Xp} (h:cs[k]? = some c):Tl (cs.drop k)=T1 c+Tl (cs.drop (k+1)):=by rw [ZH h,Tl]
theorem Z1i {cs:List Xp} {k:Nat} (h:cs.length<=k):Tl (cs.drop k)=0:=by rw [YR h,Tl]
theorem DT {cs:List Xp} {k:Nat} {c:Xp} (h:cs[k]? = some c):T1 c<=Tl cs:=by
 induction cs generalizing k with
 | nil=>simp at h
 | cons d r ih=>
  cases k with
  | zero=>simp at h;subst h;rw [Tl];omega
  | succ k=>have:=ih (k:=k) (by simpa using h);rw [Tl];omega
theorem ME {cs:List Zs} {k:Nat} {c:Zs} (h:cs[k]? = some c):TW (cs.drop k)=U0 c+TW (cs.drop (k+1)):=by rw [ZH h,TW]
theorem Z27 {cs:List Zs} {k:Nat} (h:cs.length<=k):TW (cs.drop k)=0:=by rw [YR h,TW]
theorem E1 {cs:List Zs} {k:Nat} {c:Zs} (h:cs[k]? = some c):U0 c<=TW cs:=by
 induction cs generalizing k with
 | nil=>simp at h
 | cons d r ih=>
  cases k with
  | zero=>simp at h;subst h;rw [TW];omega
  | succ k=>have:=ih (k:=k) (by simpa using h);rw [TW];omega
end Go.Abs
namespace Go.Abs
mutual
def Z8.cst:Z8->Nat
 | .mk _ _ _ args kids=>args.length+(kids.length+UA kids)
def Zh.cst:Zh->Nat
 | .mk steps _=>steps.length+UF steps
def UF:List Z8->Nat
 | []=>0
 | s::r=>s.cst+UF r
def UA:List Zh->Nat
 | []=>0
 | b::r=>b.cst+UA r
end
theorem Z8.cst_eq (s:Z8):s.cst=s.args.length+(s.kids.length+UA s.kids):=by cases s;rw [Z8.cst];rfl
theorem Zh.cst_eq (b:Zh):b.cst=b.steps.length+UF b.steps:=by cases b;rw [Zh.cst];rfl
def VY (l:List Zh):Nat:=l.length+UA l
def Uu (l:List Z8):Nat:=l.length+UF l
theorem LV {cs:List Zh} {k:Nat} {c:Zh} (h:cs[k]? = some c):UA (cs.drop k)=c.cst+UA (cs.drop (k+1)):=by rw [ZH h,UA]
theorem Z06 {cs:List Zh} {k:Nat} (h:cs.length<=k):UA (cs.drop k)=0:=by rw [YR h,UA]
theorem PK {cs:List Z8} {k:Nat} {c:Z8} (h:cs[k]? = some c):UF (cs.drop k)=c.cst+UF (cs.drop (k+1)):=by rw [ZH h,UF]
theorem Zaf {cs:List Z8} {k:Nat} (h:cs.length<=k):UF (cs.drop k)=0:=by rw [YR h,UF]
theorem G3 {cs:List Zh} {k:Nat} {c:Zh} (h:cs[k]? = some c):c.cst<=UA cs:=by
 induction cs generalizing k with
 | nil=>simp at h
 | cons d r ih=>
  cases k with
  | zero=>simp at h;subst h;rw [UA];omega
  | succ k=>have:=ih (k:=k) (by simpa using h);rw [UA];omega
theorem Ik {cs:List Z8} {k:Nat} {c:Z8} (h:cs[k]? = some c):c.cst<=UF cs:=by
 induction cs generalizing k with
 | nil=>simp at h
 | cons d r ih=>
  cases k with
  | zero=>simp at h;subst h;rw [UF];omega
  | succ k=>have:=ih (k:=k) (by simpa using h);rw [UF];omega
end Go.Abs
namespace Go.Abs
def VA (r:YB):Nat:=r.params.length+(r.lent.length+r.body.cst)
def T7:List YB->Nat
 | []=>0
 | r::rs=>VA r+T7 rs
def VT (l:List YB):Nat:=l.length+T7 l
def Wj (n:Zl):Nat:=Vv n.decls+VT n.routines
theorem PC {cs:List YB} {k:Nat} {c:YB} (h:cs[k]? = some c):T7 (cs.drop k)=VA c+T7 (cs.drop (k+1)):=by rw [ZH h,T7]
theorem Za5 {cs:List YB} {k:Nat} (h:cs.length<=k):T7 (cs.drop k)=0:=by rw [YR h,T7]
theorem EY {cs:List YB} {k:Nat} {c:YB} (h:cs[k]? = some c):VA c<=T7 cs:=by
 induction cs generalizing k with
 | nil=>simp at h
 | cons d r ih=>
  cases k with
  | zero=>simp at h;subst h;rw [T7];omega
  | succ k=>have:=ih (k:=k) (by simpa using h);rw [T7];omega
theorem IR {a b:Nat} {left:Int} (h:¬Y4 a left<0):Y4 b (Y4 a left)=Y4 (a+b) left:=Dg om
theorem RG {c:Nat} {left:Int} (h:Y4 c left<0):-1=Y4 c left:=by unfold Y4 at *;split at h<;>first|rfl|omega
end Go.Abs
end
namespace Go.Abs
def XW (op v:Int):Z8:=.mk op 0 0 [v] []
theorem GP (xs ys:List ZU):WB (xs++ys)=WB xs++WB ys:=by simp [Cz]
theorem Z3d (xs ys:List ZS):TB (xs++ys)=TB xs++TB ys:=by simp [Ea]
theorem GQ (x:ZU):WB [x]=[x.er]:=by simp [Cz]
theorem Z3e (x:ZS):TB [x]=[x.er]:=by simp [Ea]
theorem N2 (op v:Int) (u kv:Value):(ZU.mk op 0 0 [v] u [] kv).er=XW op v:=by rw [ZU.er,TB];rfl
theorem Rk {xs:List Z8} {k:Nat} {s:Z8} (h:xs[k]? = some s):Y6 (xs.take (k+1))=Y6 (xs.take k)+s.sz:=by
 induction xs generalizing k with
 | nil=>simp at h
 | cons t r ih=>
  cases k with
  | zero=>simp at h;subst h;simp [Y6]
  | succ k=>rw [Dy,Dy,Y6,Y6,ih (by simpa using h)];omega
theorem Rl (xs:List Z8) (k:Nat):Y6 (xs.take k)<=Y6 xs:=by
 induction xs generalizing k with
 | nil=>simp
 | cons t r ih=>
  cases k with
  | zero=>simp [Y6]
  | succ k=>have:=ih k;rw [Dy,Y6,Y6];omega
theorem Oa {n:Zl} {us:LI} {s:Z8} (g:0<=ZQ n us s) (h:0<s.kids.length):s.op=7∨s.op=8:=by
 rw [KM] at g
 split at g
 ·omega
 ·rename_i q
  exact Dt fun z=>q (.inr (.inr ⟨h,fun e=>z (.inl e),fun e=>z (.inr e)⟩))
theorem Js (ys:List YM):(Zu (XR ys)).length=ys.length*3:=by rw [Tc _ (GI _)];simp
theorem GT (ys:List X0):(Zu (Wn ys)).length=ys.length:=by rw [Tc _ (GH _)];simp
theorem Nc (ys:List Zs):(Zu (X1 ys)).length=ys.length*3:=by rw [Tc _ (Bz _)];simp
theorem Z3m (ys:List Xp):(Zu (Wa ys)).length=ys.length:=by rw [Tc _ (E2 _)];simp
theorem Z3n {ds:List Zs} {k:Nat} {d:Zs} (h:ds[k]? = some d):Zu (X1 (ds.drop k))=Uc d++Zu (X1 (ds.drop (k+1))):=by rw [ZH h];rfl
theorem Z3l {ds:List Xp} {k:Nat} {d:Xp} (h:ds[k]? = some d):Zu (Wa (ds.drop k))=KH d++Zu (Wa (ds.drop (k+1))):=by rw [ZH h];rfl
theorem Px {ys:List YM} {ds:List Zs} {k:Nat} {d:Zs} (h:ds[k]? = some d):Zu (XR ys++X1 (ds.drop k))=Zu (XR ys)++(Uc d++Zu (X1 (ds.drop (k+1)))):=by
 rw [Qi,Z3n h]
theorem Z9r {ys:List X0} {ds:List Xp} {k:Nat} {d:Xp} (h:ds[k]? = some d):Zu (Wn ys++Wa (ds.drop k))=Zu (Wn ys)++(KH d++Zu (Wa (ds.drop (k+1)))):=by
 rw [Qi,Z3l h]
theorem Pw {ys:List YM} {ds:List Zs} {k:Nat} (h:ys.length=k) (hk:k<=ds.length):(Zu (XR ys++X1 (ds.drop k))).length=ds.length*3:=by
 rw [Qi,Yz,Js,Nc,L8];omega
theorem Pv {ys:List X0} {ds:List Xp} {k:Nat} (h:ys.length=k) (hk:k<=ds.length):(Zu (Wn ys++Wa (ds.drop k))).length=ds.length*1:=by
 rw [Qi,Yz,GT,Z3m,L8];omega
theorem Z9t {ys:List YM} {ds:List Zs} {k:Nat} {f t:Int} {zs:List X0} {u:Value}:Zu (XR ys)++([.i f,.i t,JG zs u]++Zu (X1 (ds.drop (k+1))))=Zu (XR (ys++[YM.mk f t zs u])++X1 (ds.drop (k+1))):=by
 rw [MM,Qi,Qi,VW];rfl
theorem Z9q {ys:List X0} {ds:List Xp} {k:Nat} {xs:LI} {u:Value}:Zu (Wn ys)++([ZV xs u]++Zu (Wa (ds.drop (k+1))))=Zu (Wn (ys++[X0.mk xs u])++Wa (ds.drop (k+1))):=by
 rw [ML,Qi,Qi,VW];rfl
theorem Z9s {ys:List YM} {ds:List Zs} {k:Nat} (h:ds.length<=k):Zu (XR ys++X1 (ds.drop k))=Zu (XR ys):=by rw [YR h];simp [X1]
theorem Z9p {ys:List X0} {ds:List Xp} {k:Nat} (h:ds.length<=k):Zu (Wn ys++Wa (ds.drop k))=Zu (Wn ys):=by rw [YR h];simp [Wa]
theorem Za0 {A B:List AV} {x y z x':AV} {o:Nat} (hA:A.length=o):(A++([x,y,z]++B)).take (o+2)++[x']++(A++([x,y,z]++B)).drop (o+2+1)=A++([x,y,x']++B):=by
 have h:=Ap (A:=A++[x,y]) (xs:=[z]) (ys:=[x']) (B:=B) (o:=o+2) (by simp [hA]) rfl
 simpa using h
theorem Za1 {A B:List AV} {x y z:AV} {o:Nat} (hA:A.length=o):((A++([x,y,z]++B)).drop (o+2)).take 1=[z]:=by
 have h:=Py (A:=A++[x,y]) (xs:=[z]) (B:=B) (o:=o+2) (by simp [hA])
 simpa using h
theorem Za2 {A B:List AV} {x y z x':AV} {o:Nat} (hA:A.length=o):(A++([x,y,z]++B)).set (o+2) x'=A++([x,y,x']++B):=by
 subst hA
 rw [List.set_append_right _ _ om]
 simp
theorem S8 {f t:Int} {zs:List X0} {u:Value} {cs:List Xp} (h:zs.map X0.er=cs):[YM.mk f t zs u].map YM.er=[Zs.mk f t cs]:=by
 rw [<-h];rfl
theorem ZS.eta (y:ZS):ZS.mk y.steps y.sv y.result=y:=by cases y;rfl
theorem Z7s {xs:List YN} {rs:List YB} {g:YB->YB} {k:Nat} {r:YB} {R:YN} (h:xs.map YN.er=(rs.take k).map g) (hr:rs[k]? = some r) (hy:R.er=g r) :
  (xs++[R]).map YN.er=(rs.take (k+1)).map g:=by
 rw [List.map_append,h,WP hr,List.map_append,Ww,hy];rfl
def EQ:Zl:=⟨[],[]⟩
theorem Bo {n:Zl} (hz:WI n) (h:VX n=true):YY n/\V5 n=true/\∀r∈n.routines,0<=Ys n r.params r.body:=by
 rw [VX,Xs] at h
 obtain ⟨h1,h2⟩:=Dp hz h.1
 rw [XT,Xs] at h
 exact ⟨h1,h.1.1,h2⟩


theorem BX {A:List AV} {zs:List AV} {a n k q:Nat} (hA:A.length=k*q) (hk:k<=n) (hz:zs.length=q):(A++(List.replicate (n-k) zs).flatten).length=n*q:=by
 have h1:n*q=k*q+(n-k)*q:=by rw [<-Qw];congr 1;omega
 simp only [Yz,List.length_flatten,List.map_replicate,List.sum_replicate_nat,hA,hz]
 omega
theorem BY {A:List AV} {zs:List AV} {n k:Nat} (hk:k<n):A++(List.replicate (n-k) zs).flatten=A++(zs++(List.replicate (n-(k+1)) zs).flatten):=by
 rw [show n-k=(n-(k+1))+1 by omega,Bh,List.flatten_cons]
theorem BW {A:List AV} {zs:List AV} {n k:Nat} (hk:n<=k):A++(List.replicate (n-k) zs).flatten=A:=by
 rw [show n-k=0 by omega];simp
theorem Nj (ys:LI):(Zu (Zi ys)).length=ys.length*1:=by rw [Tc _ (Wq _)];simp
theorem Ni (ys:List ZU):(Zu (WA ys)).length=ys.length*5:=by rw [Tc _ (Cu _)];simp
theorem Nf (ys:List ZS):(Zu (V2 ys)).length=ys.length*2:=by rw [Tc _ (GG _)];simp
theorem Nh (ys:List YN):(Zu (V3 ys)).length=ys.length*5:=by rw [Tc _ (E4 _)];simp
theorem Ng (ys:List X0):(Zu (Wn ys)).length=ys.length*1:=by rw [GT];omega
theorem Z9z {xs:LI} {k:Nat} {x:Int} {B:List AV} (h:xs[k]? = some x):Zu (Zi (xs.take k))++([AV.i x]++B)=Zu (Zi (xs.take (k+1)))++B:=by
 rw [WP h,TX,Qi,VW];rfl
theorem Z9v {ys:List X0} {y:X0} {B:List AV}:Zu (Wn ys)++(Ad y++B)=Zu (Wn (ys++[y]))++B:=by rw [ML,Qi,VW];rfl
theorem Z9w {ys:List YM} {y:YM} {B:List AV}:Zu (XR ys)++(Ae y++B)=Zu (XR (ys++[y]))++B:=by rw [MM,Qi,VW];rfl
theorem Z9x {ys:List YN} {y:YN} {B:List AV}:Zu (V3 ys)++(Af y++B)=Zu (V3 (ys++[y]))++B:=by rw [MN,Qi,VW];rfl
theorem Z9y {ys:List ZU} {y:ZU} {B:List AV}:Zu (WA ys)++(Ag y++B)=Zu (WA (ys++[y]))++B:=by
 rw [E6,Qi,VW,A6 [y]];rfl
theorem Z9u {ys:List ZS} {y:ZS} {B:List AV}:Zu (V2 ys)++(JB y++B)=Zu (V2 (ys++[y]))++B:=by
 rw [MK,Qi,VW,BB [y]];rfl
theorem CR {α β:Type} {f:α->β} {ys:List α} {xs:List β} {k:Nat} {x:β} {y:α} (h:ys.map f=xs.take k) (hx:xs[k]? = some x) (hy:f y=x):(ys++[y]).map f=xs.take (k+1):=by
 rw [List.map_append,h,WP hx,<-hy];rfl
theorem Ls (g:Nat):∀(n k:Nat),k<n->ZA g k (n-k)=(g,k)::ZA g (k+1) (n-(k+1)):=by
 intro n k h
 rw [show n-k=(n-(k+1))+1 by omega,ZA]
theorem AI (g:Nat):∀(n o:Nat),(ZA g o n).length=n
 | 0,_=>rfl
 | n+1,o=>by rw [ZA,XF,AI g n]
theorem Ln {cs:List X0} {k:Nat} {c:X0} (h:cs[k]? = some c):WR (cs.drop k)=DE c++WR (cs.drop (k+1)):=by rw [ZH h,WR]
theorem Lq {g:Nat} {cs:List YM} {k:Nat} {c:YM} (h:cs[k]? = some c):Wi g (k*3) (cs.drop k)=AH g (k*3) c++Wi g ((k+1)*3) (cs.drop (k+1)):=by
 rw [ZH h,Wi,show k*3+3=(k+1)*3 by omega]
theorem LC {g:Nat} {cs:List ZU} {k:Nat} {c:ZU} (h:cs[k]? = some c):Yf g (k*5) (cs.drop k)=QA g (k*5) c++Yf g ((k+1)*5) (cs.drop (k+1)):=by
 rw [ZH h,Yf,show k*5+5=(k+1)*5 by omega]
theorem Lk {g:Nat} {cs:List ZS} {k:Nat} {c:ZS} (h:cs[k]? = some c):Xg g (k*2) (cs.drop k)=Qz g (k*2) c++Xg g ((k+1)*2) (cs.drop (k+1)):=by
 rw [ZH h,Xg,show k*2+2=(k+1)*2 by omega]
theorem Lz {g:Nat} {cs:List YN} {k:Nat} {c:YN} (h:cs[k]? = some c):WK g (k*5) (cs.drop k)=Jh g (k*5) c++WK g ((k+1)*5) (cs.drop (k+1)):=by
 rw [ZH h,WK,show k*5+5=(k+1)*5 by omega]
section
variable {N:Yl} {g o:Nat} {z:Int}
theorem Zea {d:YM}:wr N (AH g o d) z=wr (upd (upd N (g,o) z) (g,o+1) (z+1)) (WR d.cons) (z+1+1):=by rw [AH,wr,wr]
theorem Zed {s:ZU}:wr N (QA g o s) z=wr (wr (upd (upd (upd N (g,o) z) (g,o+1) (z+1)) (g,o+2) (z+1+1)) (ZA (Z3 s.av) 0 s.args.length) (z+1+1+1)) (Xg (Z3 s.kv) 0 s.kids) (z+1+1+1+(ZA (Z3 s.av) 0 s.args.length).length):=by
 rw [FM,wr,wr,wr,Az]
theorem Ze9 {b:ZS}:wr N (Qz g o b) z=upd (wr N (Yf (Z3 b.sv) 0 b.steps) z) (g,o+1) (z+(Yf (Z3 b.sv) 0 b.steps).length):=by
 rw [FF,Az,wr,wr]
theorem Zec {r:YN}:wr N (Jh g o r) z=upd (wr (upd (wr (wr N (ZA (Z3 r.pv) 0 r.params.length) z) (ZA (Z3 r.lv) 0 r.lent.length) (z+(ZA (Z3 r.pv) 0 r.params.length).length)) (g,o+2) (z+(ZA (Z3 r.pv) 0 r.params.length).length+(ZA (Z3 r.lv) 0 r.lent.length).length))
  (Yf (Z3 r.body.sv) 0 r.body.steps) (z+(ZA (Z3 r.pv) 0 r.params.length).length+(ZA (Z3 r.lv) 0 r.lent.length).length+1)) (g,o+4) (z+(ZA (Z3 r.pv) 0 r.params.length).length+(ZA (Z3 r.lv) 0 r.lent.length).length+1+(Yf (Z3 r.body.sv) 0 r.body.steps).length):=by
 rw [Jh,Az,Az,wr,Az,wr,wr]
theorem EF {d:YM}:(AH g o d).length=(WR d.cons).length+2:=by simp [AH]
theorem Hx {s:ZU}:(QA g o s).length=(ZA (Z3 s.av) 0 s.args.length).length+(Xg (Z3 s.kv) 0 s.kids).length+3:=by rw [FM];simp
theorem Hv {b:ZS}:(Qz g o b).length=(Yf (Z3 b.sv) 0 b.steps).length+1:=by rw [FF];simp
theorem EG {r:YN}:(Jh g o r).length=(ZA (Z3 r.pv) 0 r.params.length).length+(ZA (Z3 r.lv) 0 r.lent.length).length+(Yf (Z3 r.body.sv) 0 r.body.steps).length+2:=by rw [Jh];simp;omega
theorem Z48 {d:YM} (h:X6 N (AH g o d) z):N g o=some (.int .i64 z)/\N g (o+1)=some (.int .i64 (z+1))/\X6 N (WR d.cons) (z+1+1):=h
theorem Z4a {s:ZU} (h:X6 N (QA g o s) z):N g o=some (.int .i64 z)/\N g (o+1)=some (.int .i64 (z+1))/\N g (o+2)=some (.int .i64 (z+1+1))/\X6 N (ZA (Z3 s.av) 0 s.args.length) (z+1+1+1) /\
  X6 N (Xg (Z3 s.kv) 0 s.kids) (z+1+1+1+(ZA (Z3 s.av) 0 s.args.length).length):=by
 rw [FM] at h
 obtain ⟨h1,h2,h3,h4⟩:=h
 obtain ⟨h5,h6⟩:=(K7 _ _ _ _).1 h4
 exact ⟨h1,h2,h3,h5,h6⟩
theorem Z47 {b:ZS} (h:X6 N (Qz g o b) z):X6 N (Yf (Z3 b.sv) 0 b.steps) z/\N g (o+1)=some (.int .i64 (z+(Yf (Z3 b.sv) 0 b.steps).length)):=by
 rw [FF] at h
 obtain ⟨h5,h6⟩:=(K7 _ _ _ _).1 h
 exact ⟨h5,h6.1⟩
theorem Z49 {r:YN} (h:X6 N (Jh g o r) z):X6 N (ZA (Z3 r.pv) 0 r.params.length) z/\X6 N (ZA (Z3 r.lv) 0 r.lent.length) (z+(ZA (Z3 r.pv) 0 r.params.length).length) /\
  N g (o+2)=some (.int .i64 (z+(ZA (Z3 r.pv) 0 r.params.length).length+(ZA (Z3 r.lv) 0 r.lent.length).length)) /\
  X6 N (Yf (Z3 r.body.sv) 0 r.body.steps) (z+(ZA (Z3 r.pv) 0 r.params.length).length+(ZA (Z3 r.lv) 0 r.lent.length).length+1) /\
  N g (o+4)=some (.int .i64 (z+(ZA (Z3 r.pv) 0 r.params.length).length+(ZA (Z3 r.lv) 0 r.lent.length).length+1+(Yf (Z3 r.body.sv) 0 r.body.steps).length)):=by
 rw [Jh] at h
 obtain ⟨h1,h2⟩:=(K7 _ _ _ _).1 h
 obtain ⟨h3,h4,h5⟩:=(K7 _ _ _ _).1 h2
 obtain ⟨h6,h7⟩:=(K7 _ _ _ _).1 h5
 exact ⟨h1,h3,h4,h6,h7.1⟩
end
theorem Nu {xs:List ZU} {k:Nat} {x:ZU} (h:xs[k]? = some x):SizeOf.sizeOf x.kids<SizeOf.sizeOf xs:=by
 have h1:=List.sizeOf_lt_of_mem (YA h)
 cases x
 simp only [ZU.mk.sizeOf_spec,ZU.kids] at h1 ⊢
 omega
theorem Nv {xs:List ZS} {k:Nat} {x:ZS} (h:xs[k]? = some x):SizeOf.sizeOf x.steps<SizeOf.sizeOf xs:=by
 have h1:=List.sizeOf_lt_of_mem (YA h)
 cases x
 simp only [ZS.mk.sizeOf_spec,ZS.steps] at h1 ⊢
 omega
theorem FJ {g:Nat}:∀{o:Nat} {ds:List YM},ds.length<=(Wi g o ds).length
 | _,[]=>YX _
 | o,d::r=>by
  have:=FJ (g:=g) (o:=o+3) (ds:=r)
  have h2:=EF (g:=g) (o:=o) (d:=d)
  rw [Wi,Yz,XF]
  omega
theorem FO {g:Nat}:∀{o:Nat} {xs:List ZU},xs.length<=(Yf g o xs).length
 | _,[]=>TO _
 | o,d::r=>by
  have:=FO (g:=g) (o:=o+5) (xs:=r)
  have h2:=Hx (g:=g) (o:=o) (s:=d)
  rw [Yf,Yz,XF]
  omega
theorem FG {g:Nat}:∀{o:Nat} {xs:List ZS},xs.length<=(Xg g o xs).length
 | _,[]=>TO _
 | o,d::r=>by
  have:=FG (g:=g) (o:=o+2) (xs:=r)
  have h2:=Hv (g:=g) (o:=o) (b:=d)
  rw [Xg,Yz,XF]
  omega
theorem FL {g:Nat}:∀{o:Nat} {xs:List YN},xs.length<=(WK g o xs).length
 | _,[]=>YX _
 | o,d::r=>by
  have:=FL (g:=g) (o:=o+5) (xs:=r)
  have h2:=EG (g:=g) (o:=o) (r:=d)
  rw [WK,Yz,XF]
  omega
theorem Dr {N N':Yl} {W:Yl} {A B C:List V1} {z z':Int} (h:wr N A z=W) (hd:A=B++C) (hw:wr N B z=N') (hz:z'=z+(B.length:Nat)):wr N' C z'=W:=by
 subst hd hw hz
 rw [<-h,Az]
theorem CL {N:Yl} {C:List V1} {z z':Int} (h:X6 N C z') (hz:z=z'):X6 N C z:=hz▸h
theorem Hw {y:X4}:(W5 y).length=(Wi (Z3 y.dv) 0 y.decls).length+(WK (Z3 y.rv) 0 y.routines).length:=by rw [W5,Yz]
theorem Zeb {M:Yl} {y:X4} {q:Int}:wr (wr M (Wi (Z3 y.dv) 0 y.decls) q) (WK (Z3 y.rv) 0 y.routines) (q+((Wi (Z3 y.dv) 0 y.decls).length:Nat))=wr M (W5 y) q:=by rw [W5,Az]
mutual
theorem Z8.sz_cst:∀s:Z8,s.sz=s.cst+1
 | .mk _ _ _ args kids=>by rw [Z8.sz,Z8.cst,LZ kids];omega
theorem Zh.sz_cst:∀b:Zh,b.sz=b.cst+1
 | .mk steps _=>by rw [Zh.sz,Zh.cst,Rj steps];omega
theorem Rj:∀xs:List Z8,Y6 xs=xs.length+UF xs
 | []=>by rw [Y6,UF];rfl
 | s::r=>by rw [Y6,UF,Rj r,s.sz_cst,XF];omega
theorem LZ:∀xs:List Zh,Xl xs=xs.length+UA xs
 | []=>by rw [Xl,UA];rfl
 | s::r=>by rw [Xl,UA,LZ r,s.sz_cst,XF];omega
end
theorem Z1j {cs:List Xp} {c:Xp} (h:c∈cs):T1 c<=Tl cs:=let ⟨_,hk⟩:=Dv h;DT hk
theorem Gx {cs:List Zs} {c:Zs} (h:c∈cs):U0 c<=TW cs:=let ⟨_,hk⟩:=Dv h;E1 hk
theorem Ib {cs:List YB} {c:YB} (h:c∈cs):VA c<=T7 cs:=let ⟨_,hk⟩:=Dv h;EY hk
theorem OP {n:Zl} (h:Wj n<=4194304):WI n:=by
 unfold Wj Vv VT at h
 refine ⟨⟨by omega,fun d hd=>?_,fun d hd c hc=>?_⟩,by omega,fun r hr=>?_,fun r hr=>?_,fun r hr=>?_⟩
 ·have:=Gx hd;unfold U0 Uk at this;omega
 ·have:=Gx hd;have h2:=Z1j hc;unfold U0 Uk at this;unfold T1 at h2;omega
 ·have:=Ib hr;unfold VA at this;omega
 ·have:=Ib hr;unfold VA at this;omega
 ·have:=Ib hr;unfold VA at this;have:=r.body.sz_cst;omega
theorem Lm:∀cs:List X0,(WR cs).length=Tl (cs.map X0.er)
 | []=>rfl
 | c::r=>by
  rw [WR,Yz,Lm r,Ww,Tl]
  show (ZA (Z3 c.fv) 0 c.fields.length).length+_=c.fields.length+_
  rw [AI]
theorem Lp {g:Nat}:∀(o:Nat) (ds:List YM),(Wi g o ds).length<=3*Vv (ds.map YM.er)
 | _,[]=>TO _
 | o,d::r=>by
  have h1:=Lp (g:=g) (o+3) r
  have h2:=EF (g:=g) (o:=o) (d:=d)
  rw [Wi,Yz,h2,Lm]
  unfold Vv at h1 ⊢
  rw [Ww,TW,XF]
  have h3:U0 d.er=d.cons.length+Tl (d.cons.map X0.er):=by unfold U0 Uk YM.er;simp
  omega
mutual
theorem St {g o:Nat}:∀s:ZU,(QA g o s).length<=3*s.er.sz
 | .mk op num into args av kids kv=>by
  have h1:=Lj (g:=Z3 kv) (o:=0) kids
  rw [QA,ZU.er,Z8.sz]
  simp only [XF,Yz,AI]
  omega
theorem So {g o:Nat}:∀s:ZS,(Qz g o s).length<=3*s.er.sz
 | .mk steps sv result=>by
  have h1:=FN (g:=Z3 sv) (o:=0) steps
  rw [Qz,ZS.er,Zh.sz]
  simp only [XF,Yz,Vt]
  omega
theorem FN {g o:Nat}:∀xs:List ZU,(Yf g o xs).length<=3*Y6 (WB xs)
 | []=>by rw [Yf];exact TO _
 | s::r=>by
  have h1:=St (g:=g) (o:=o) s
  have h2:=FN (g:=g) (o:=o+5) r
  rw [Yf,WB,Y6,Yz]
  omega
theorem Lj {g o:Nat}:∀xs:List ZS,(Xg g o xs).length<=3*Xl (TB xs)
 | []=>by rw [Xg];exact TO _
 | s::r=>by
  have h1:=So (g:=g) (o:=o) s
  have h2:=Lj (g:=g) (o:=o+2) r
  rw [Xg,TB,Xl,Yz]
  omega
end
theorem Ly {g:Nat}:∀(o:Nat) (rs:List YN),(WK g o rs).length<=3*VT (rs.map YN.er)
 | _,[]=>TO _
 | o,r::rs=>by
  have h1:=Ly (g:=g) (o+5) rs
  have h2:=EG (g:=g) (o:=o) (r:=r)
  have h3:=FN (g:=Z3 r.body.sv) (o:=0) r.body.steps
  have h4:r.body.er.sz=1+Y6 (WB r.body.steps):=by cases hb:r.body;rw [ZS.er,Zh.sz];rfl
  rw [Zh.sz_cst] at h4
  rw [WK,Yz,h2,AI,AI]
  unfold VT at h1 ⊢
  rw [Ww,T7,XF]
  have h5:VA r.er=r.params.length+(r.lent.length+r.body.er.cst):=rfl
  omega
theorem Lw (y:X4):(W5 y).length<=3*Wj y.er:=by
 have h1:=Lp (g:=Z3 y.dv) 0 y.decls
 have h2:=Ly (g:=Z3 y.rv) 0 y.routines
 rw [Hw]
 have:Wj y.er=Vv (y.decls.map YM.er)+VT (y.routines.map YN.er):=rfl
 omega
theorem My {y:X4}:∀d∈y.decls,d.cons.length<=Wj y.er:=by
 intro d hd
 have h1:=Gx (List.mem_map_of_mem (f:=YM.er) hd)
 have h2:U0 d.er=d.cons.length+Tl (d.cons.map X0.er):=by unfold U0 Uk YM.er;simp
 have:Wj y.er=y.decls.length+TW (y.decls.map YM.er)+VT (y.routines.map YN.er):=by show Vv (y.decls.map YM.er)+VT (y.routines.map YN.er)=_;unfold Vv;simp
 omega
end Go.Abs
section
namespace Go.Abs
open Go.Proofs Go.Proofs.YtlcniflebhfdpaaGreat
section
variable {H:Type} {enc:TypeId × Value->H} {w:World}
def GA (w:World):ZE:=fun b _=>b<w.heap.size
abbrev Tr (enc:TypeId × Value->H) (w:World) (n:Nat) (t:TypeId) (cs:List Value) (x:DataW H × List MemPlace):Prop:=DataW.trod enc Tryz.prog w 0 (fun _=>true) true n t cs=some x
theorem Ox {w:World} {a:Addr} {v:Value} (h:w.cell? a=some v):a.block<w.heap.size/\a.spot=none:=by
 unfold World.cell? at h
 split at h
 ·rename_i c e fr hb
  split at h
  ·cases h
  ·rename_i hs
   exact ⟨(VB.1 hb).1,by simpa using hs⟩
 ·cases h
theorem M5 {α:Type} {c:α->Nat}:∀{xs:List α} {ds:List (DataW H)},xs.length=ds.length->(∀(i:Nat) a d,xs[i]? = some a->ds[i]? = some d->c a+1<=Rows.uptoBulk d)->(xs.map fun a=>c a+1).sum<=Rows.uptoBulkAll ds
 | [],[],_,_=>YX _
 | a::r,d::ds,hl,h=>by
  have h0:=h 0 a d rfl rfl
  have h1:=M5 (c:=c) (xs:=r) (ds:=ds) (by simpa using hl) fun i a d ha hd=>h (i+1) a d (by simpa using ha) (by simpa using hd)
  rw [Ww,AB,Rows.uptoBulkAll]
  omega
theorem Pn {α:Type} {f:α->AV} {G:ZE} {k b:Nat} (hf:∀x,(f x).leaves.length=k):∀{xs:List α} {o:Nat},(∀(i:Nat) a,xs[i]? = some a->Xi w G b (o+i*k) (f a).leaves)->XN w G k b o (xs.map f)
 | [],_,_=>.nil
 | x::r,o,h=>by
  refine .cons (hf x) (by have:=h 0 x rfl;simpa using this) (Pn hf fun i a ha=>?_)
  have:=h (i+1) a (by simpa using ha)
  rw [show o+(i+1)*k=o+k+i*k by rw [Qw];omega] at this
  exact this
theorem BV {α:Type} [Inhabited α] {t e k:Nat} (ht:Tryz.prog.underlying t=some (.slice e)) (hk:Tryz.prog.cellsOf e=k) (h0:0<k) (f:α->AV) (hf:∀x,(f x).leaves.length=k) (c:α->Nat) (Q:α->Prop) {n:Nat} {cs:List Value} {x:DataW H × List MemPlace}
  (h:Tr enc w n t cs x) (el:∀m cs y,m<n->Tr enc w m e cs y->∃a:α,Y9 w (GA w) (f a).leaves cs/\c a+1<=Rows.uptoBulk y.1/\Q a) :
  ∃(v:Value) (xs:List α),cs=[v]/\RV w (GA w) (.sl (xs.map f) none) v/\(xs.map fun a=>c a+1).sum+1<=Rows.uptoBulk x.1/\∀a∈xs,Q a:=by
 rcases DataW.trod_slice ht h with ⟨rfl,rfl⟩|⟨a,len,cap,elems,rest,m,rfl,rfl,rfl,_,hlc,_,hlen,hel,_,_⟩
 ·exact ⟨_,[],rfl,.nil (by simp),by simp [Rows.uptoBulk],by simp⟩
 ·rw [hk] at hel
  have hone:∀i,i<len->∃z:α,∃cs' y,w.cells? 0 (a.add (i*k)) k=some cs'/\elems[i]? = some y/\Y9 w (GA w) (f z).leaves cs'/\c z+1<=Rows.uptoBulk y.1/\Q z:=by
   intro i hi
   have h1:=hel i hi
   rw [Qu om] at h1
   obtain ⟨cs',h2,h3⟩:=Option.bind_eq_some_iff.1 h1
   obtain ⟨z,hz1,hz2,hz3⟩:=el m cs' _ om h3
   exact ⟨z,cs',_,h2,Qu om,hz1,hz2,hz3⟩
  obtain ⟨V,hV⟩:=Go.Deep.choose_lt hone
  refine ⟨_,(List.range len).map V,rfl,?_,?_,?_⟩
  ·cases hl0:len with
   | zero=>exact .nil (by simp)
   | succ q=>
    have hsp:a.spot=none:=by
     obtain ⟨cs',y,g1,_⟩:=hV 0 om
     obtain ⟨_,g2,g3⟩:=World.cells?_some g1
     have g4:=g3 0 h0
     rw [Qu om] at g4
     have g5:=(Ox g4).2
     simpa [Addr.add] using g5
    obtain ⟨b,o,sp⟩:=a
    simp only at hsp
    subst hsp
    rw [<-hl0]
    have hll:(((List.range len).map V).map f).length=len:=by simp
    have:=RV.sl (w:=w) (G:=GA w) (es:=((List.range len).map V).map f) (hv:=none) (b:=b) (o:=o) (k:=k) (cap:=cap) (by simp) (by rw [hll];exact hlc) (Pn hf fun i z hz=>by
     have hi:i<len:=by have:=(XZ.1 hz).1;simpa using this
     have hz':V i=z:=by simpa [hi] using hz
     obtain ⟨cs',y,g1,_,g2,_⟩:=hV i hi
     rw [hz'] at g2
     obtain ⟨_,g3,g4⟩:=World.cells?_some g1
     refine Xi.of_cells g2 fun j u hj=>?_
     have hjl:j<k:=by have:=(XZ.1 hj).1;omega
     have g5:=(g4 j hjl).trans hj
     rw [Addr.add_lit,Addr.add_lit] at g5
     exact ⟨g5,(Ox g5).1⟩)
    rw [hll] at this
    exact this
  ·have:=M5 (c:=c) (xs:=(List.range len).map V) (ds:=elems.map (·.1)) (by simp [hlen]) fun i z d hz hd=>by
    have hi:i<len:=by have:=(XZ.1 hz).1;simpa using this
    have hz':V i=z:=by simpa [hi] using hz
    obtain ⟨cs',y,_,g1,_,g2,_⟩:=hV i hi
    rw [Th,g1] at hd
    simp only [Cf,Xo] at hd
    rw [<-hd,<-hz']
    exact g2
   simp only [Rows.uptoBulk]
   omega
  ·intro z hz
   obtain ⟨i,hi,rfl⟩:=Xb.1 hz
   obtain ⟨_,_,_,_,_,_,g⟩:=hV i (List.mem_range.1 hi)
   exact g
theorem Ao {n:Nat} {cs:List Value} {x:DataW H × List MemPlace} (h:Tr enc w n 3 cs x):∃z:Int,cs=[.int .i64 z]/\Rows.uptoBulk x.1=1/\-9223372036854775808<=z/\z<=9223372036854775807:=by
 obtain ⟨z,rfl,rfl,hw⟩:=DataW.trod_int Tryz.underlying3 h
 refine ⟨z,rfl,rfl,?_⟩
 simpa [Lit.wf,IntKind.min,IntKind.max,IntKind.signed,IntKind.bits] using hw
theorem RD:∀xs:LI,(xs.map fun _=>0+1).sum=xs.length
 | []=>rfl
 | _::r=>by rw [Ww,AB,RD r,XF];omega
theorem EW {n:Nat} {cs:List Value} {x:DataW H × List MemPlace} (h:Tr enc w n 23 cs x):∃(v:Value) (xs:LI),cs=[v]/\RV w (GA w) (Ze xs) v/\xs.length+1<=Rows.uptoBulk x.1:=by
 obtain ⟨v,xs,h1,h2,h3,_⟩:=BV Tryz.underlying23 (k:=1) kr om (fun z:Int=>AV.i z) (fun _=>rfl) (fun _=>0) (fun _=>True) h fun m cs y _ hy=>by
  obtain ⟨z,rfl,hb,_⟩:=Ao hy
  exact ⟨z,.cons .val .nil,Nat.le_of_eq hb.symm,trivial⟩
 have hs:=RD xs
 exact ⟨v,xs,h1,h2,by omega⟩
theorem OX {β:Type} {v:List β} (h:v.length=1):∃a,v=[a]:=by cases v with|nil=>simp at h|cons a r=>cases r with|nil=>exact ⟨a,rfl⟩|cons _ _=>simp at h
instance:Inhabited Xp:=⟨⟨[]⟩⟩
instance:Inhabited Zs:=⟨⟨0,0,[]⟩⟩
instance:Inhabited Z8:=⟨.mk 0 0 0 [] []⟩
instance:Inhabited Zh:=⟨.mk [] 0⟩
instance:Inhabited YB:=⟨⟨[],[],0,.mk [] 0⟩⟩
theorem Tn {n:Nat} {cs:List Value} {fs:Array Field} {xs:List (DataW H × List MemPlace)} (hf:∀(i:Nat) (f:Field),fs[i]? = some f->DataW.trod enc Tryz.prog w 0 (fun _=>true) true n f.type ((cs.drop f.offset).take (Tryz.prog.cellsOf f.type))=xs[i]?)
  (i:Nat) (f:Field) (hi:fs[i]? = some f) {y:DataW H × List MemPlace} (hy:xs[i]? = some y) (k:Nat) (hk:Tryz.prog.cellsOf f.type=k):Tr enc w n f.type ((cs.drop f.offset).take k) y:=by
 subst hk
 exact (hf i f hi).trans hy
theorem DK:Tryz.prog.cellsOf 23=1:=by kernel_rfl
theorem c3:Tryz.prog.cellsOf 3=1:=by kernel_rfl
theorem Z9d {n:Nat} {cs:List Value} {x:DataW H × List MemPlace} (h:Tr enc w n 228 cs x):∃a:Xp,Y9 w (GA w) (KH a) cs/\T1 a+1<=Rows.uptoBulk x.1:=by
 obtain ⟨ys,m,rfl,rfl,hl,hyl,hf⟩:=DataW.trod_struct Tryz.underlying228 h
 have hl:cs.length=1:=hl.trans kr
 obtain ⟨v,rfl⟩:=OX hl
 obtain ⟨y0,rfl⟩:∃y0,ys=[y0]:=OX hyl
 have h0:Tr enc w m 23 [v] y0:=Tn hf 0 _ rfl rfl 1 DK
 obtain ⟨v',xs,e,h2,h3⟩:=EW h0
 cases e
 refine ⟨⟨xs⟩,.cons h2 .nil,?_⟩
 simp only [Rows.uptoBulk,Rows.uptoBulkAll,Ww,QQ]
 show xs.length+1<=_
 omega
theorem c66:Tryz.prog.cellsOf 134=1:=by kernel_rfl
theorem c70:Tryz.prog.cellsOf 138=1:=by kernel_rfl
theorem Z0e:Tryz.prog.cellsOf 264=1:=by kernel_rfl
theorem Ga:Tryz.prog.cellsOf 140=2:=by kernel_rfl
theorem c22:Tryz.prog.cellsOf 37=1:=by kernel_rfl
theorem c23:Tryz.prog.cellsOf 38=1:=by kernel_rfl
theorem EJ {β:Type} {v:List β} (h:v.length=2):∃a b,v=[a,b]:=by
 match v,h with
 | [a,b],_=>exact ⟨a,b,rfl⟩
theorem Ou {β:Type} {v:List β} (h:v.length=3):∃a b c,v=[a,b,c]:=by
 match v,h with
 | [a,b,c],_=>exact ⟨a,b,c,rfl⟩
theorem Z7l {β:Type} {v:List β} (h:v.length=4):∃a b c d,v=[a,b,c,d]:=by
 match v,h with
 | [a,b,c,d],_=>exact ⟨a,b,c,d,rfl⟩
theorem HC {β:Type} {v:List β} (h:v.length=5):∃a b c d e,v=[a,b,c,d,e]:=by
 match v,h with
 | [a,b,c,d,e],_=>exact ⟨a,b,c,d,e,rfl⟩
theorem sum_cons:∀cs:List Xp,(cs.map fun a=>T1 a+1).sum=Uk cs
 | []=>rfl
 | c::r=>by rw [Ww,AB,sum_cons r];unfold Uk;rw [Tl,XF];omega
theorem RC:∀cs:List Zs,(cs.map fun a=>U0 a+1).sum=Vv cs
 | []=>rfl
 | c::r=>by rw [Ww,AB,RC r];unfold Vv;rw [TW,XF];omega
theorem RF:∀cs:List Z8,(cs.map fun a=>a.cst+1).sum=Uu cs
 | []=>by unfold Uu;rw [UF];rfl
 | c::r=>by rw [Ww,AB,RF r];unfold Uu;rw [UF,XF];omega
theorem RB:∀cs:List Zh,(cs.map fun a=>a.cst+1).sum=VY cs
 | []=>by unfold VY;rw [UA];rfl
 | c::r=>by rw [Ww,AB,RB r];unfold VY;rw [UA,XF];omega
theorem RE:∀cs:List YB,(cs.map fun a=>VA a+1).sum=VT cs
 | []=>rfl
 | c::r=>by rw [Ww,AB,RE r];unfold VT;rw [T7,XF];omega
theorem Z9e {n:Nat} {cs:List Value} {x:DataW H × List MemPlace} (h:Tr enc w n 134 cs x):∃(v:Value) (xs:List Xp),cs=[v]/\RV w (GA w) (JF xs) v/\Uk xs+1<=Rows.uptoBulk x.1:=by
 obtain ⟨v,xs,h1,h2,h3,_⟩:=BV Tryz.underlying134 (k:=1) kr om KS (fun _=>rfl) T1 (fun _=>True) h fun m cs y _ hy=>by
  obtain ⟨a,h1,h2⟩:=Z9d hy
  exact ⟨a,h1,h2,trivial⟩
 rw [sum_cons] at h3
 exact ⟨v,xs,h1,h2,h3⟩
theorem Z9f {n:Nat} {cs:List Value} {x:DataW H × List MemPlace} (h:Tr enc w n 136 cs x):∃a:Zs,Y9 w (GA w) (Uc a) cs/\U0 a+1<=Rows.uptoBulk x.1:=by
 obtain ⟨ys,m,rfl,rfl,hl,hyl,hf⟩:=DataW.trod_struct Tryz.underlying136 h
 have hl:cs.length=3:=hl.trans kr
 obtain ⟨v0,v1,v2,rfl⟩:=Ou hl
 obtain ⟨y0,y1,y2,rfl⟩:∃a b c,ys=[a,b,c]:=Ou hyl
 obtain ⟨z0,e0,b0,_⟩:=Ao (show Tr enc w m 3 [v0] y0 from Tn hf 0 _ rfl rfl 1 c3)
 obtain ⟨z1,e1,b1,_⟩:=Ao (show Tr enc w m 3 [v1] y1 from Tn hf 1 _ rfl rfl 1 c3)
 obtain ⟨u2,xs,e2,h2,b2⟩:=Z9e (show Tr enc w m 134 [v2] y2 from Tn hf 2 _ rfl rfl 1 c66)
 cases e0;cases e1;cases e2
 refine ⟨⟨z0,z1,xs⟩,.cons .val (.cons .val (.cons h2 .nil)),?_⟩
 simp only [Rows.uptoBulk,Rows.uptoBulkAll,Ww,QQ]
 show Uk xs+1<=_
 omega
theorem Z9g {n:Nat} {cs:List Value} {x:DataW H × List MemPlace} (h:Tr enc w n 37 cs x):∃(v:Value) (xs:List Zs),cs=[v]/\RV w (GA w) (ZI xs) v/\Vv xs+1<=Rows.uptoBulk x.1:=by
 obtain ⟨v,xs,h1,h2,h3,_⟩:=BV Tryz.underlying37 (k:=3) kr om QT (fun _=>rfl) U0 (fun _=>True) h fun m cs y _ hy=>by
  obtain ⟨a,h1,h2⟩:=Z9f hy
  exact ⟨a,h1,h2,trivial⟩
 rw [RC] at h3
 exact ⟨v,xs,h1,h2,h3⟩
theorem Rh:∀{xs:List Z8},(∀a∈xs,a.rng)->VV xs
 | [],_=>by rw [VV];trivial
 | x::r,h=>by rw [VV];exact ⟨h x (YV ..),Rh fun a ha=>h a (Xv _ ha)⟩
theorem LY:∀{xs:List Zh},(∀a∈xs,a.rng)->QE xs
 | [],_=>by rw [QE];trivial
 | x::r,h=>by rw [QE];exact ⟨h x (YV ..),LY fun a ha=>h a (Xv _ ha)⟩
theorem Z9c:∀(n:Nat),(∀{cs:List Value} {x:DataW H × List MemPlace},Tr enc w n 266 cs x->∃a:Z8,Y9 w (GA w) (WO a) cs/\a.cst+1<=Rows.uptoBulk x.1/\a.rng) /\
  (∀{cs:List Value} {x:DataW H × List MemPlace},Tr enc w n 140 cs x->∃a:Zh,Y9 w (GA w) (Vz a) cs/\a.cst+1<=Rows.uptoBulk x.1/\a.rng):=by
 intro n
 induction n using Nat.strongRecOn with
 | ind n ih=>
  refine ⟨fun {cs x} h=>?_,fun {cs x} h=>?_⟩
  ·obtain ⟨ys,m,rfl,rfl,hl,hyl,hf⟩:=DataW.trod_struct Tryz.underlying266 h
   have hl:cs.length=5:=hl.trans kr
   obtain ⟨v0,v1,v2,v3,v4,rfl⟩:=HC hl
   obtain ⟨y0,y1,y2,y3,y4,rfl⟩:∃a b c d e,ys=[a,b,c,d,e]:=HC hyl
   obtain ⟨z0,e0,b0,_⟩:=Ao (show Tr enc w m 3 [v0] y0 from Tn hf 0 _ rfl rfl 1 c3)
   obtain ⟨z1,e1,b1,r1⟩:=Ao (show Tr enc w m 3 [v1] y1 from Tn hf 1 _ rfl rfl 1 c3)
   obtain ⟨z2,e2,b2,_⟩:=Ao (show Tr enc w m 3 [v2] y2 from Tn hf 2 _ rfl rfl 1 c3)
   obtain ⟨u3,xs,e3,h3,b3⟩:=EW (show Tr enc w m 23 [v3] y3 from Tn hf 3 _ rfl rfl 1 DK)
   obtain ⟨u4,bs,e4,h4,b4,q4⟩:=BV Tryz.underlying264 (k:=2) Ga om YC (fun _=>rfl) Zh.cst Zh.rng (show Tr enc w m 264 [v4] y4 from Tn hf 4 _ rfl rfl 1 Z0e) fun m' cs y hm hy=>(ih m' om).2 hy
   cases e0;cases e1;cases e2;cases e3;cases e4
   rw [RB] at b4
   refine ⟨.mk z0 z1 z2 xs bs,.cons .val (.cons .val (.cons .val (.cons h3 (.cons (by rw [<-A5] at h4;exact h4) .nil)))),?_,?_⟩
   ·simp only [Rows.uptoBulk,Rows.uptoBulkAll,Ww,QQ]
    rw [Z8.cst]
    unfold VY at b4
    omega
   ·rw [Z8.rng]
    exact ⟨r1,LY q4⟩
  ·obtain ⟨ys,m,rfl,rfl,hl,hyl,hf⟩:=DataW.trod_struct Tryz.underlying140 h
   have hl:cs.length=2:=hl.trans Ga
   obtain ⟨v0,v1,rfl⟩:=EJ hl
   obtain ⟨y0,y1,rfl⟩:∃a b,ys=[a,b]:=EJ hyl
   obtain ⟨u0,xs,e0,h0,b0,q0⟩:=BV Tryz.underlying138 (k:=5) kr om XO (fun _=>rfl) Z8.cst Z8.rng (show Tr enc w m 138 [v0] y0 from Tn hf 0 _ rfl rfl 1 c70) fun m' cs y hm hy=>(ih m' om).1 hy
   obtain ⟨z1,e1,b1,_⟩:=Ao (show Tr enc w m 3 [v1] y1 from Tn hf 1 _ rfl rfl 1 c3)
   cases e0;cases e1
   rw [RF] at b0
   refine ⟨.mk xs z1,.cons (by rw [<-KZ] at h0;exact h0) (.cons .val .nil),?_,?_⟩
   ·simp only [Rows.uptoBulk,Rows.uptoBulkAll,Ww,QQ]
    rw [Zh.cst]
    unfold Uu at b0
    omega
   ·rw [Zh.rng]
    exact Rh q0
theorem Z9h {n:Nat} {cs:List Value} {x:DataW H × List MemPlace} (h:Tr enc w n 142 cs x):∃a:YB,Y9 w (GA w) (TH a) cs/\VA a+1<=Rows.uptoBulk x.1/\a.body.rng:=by
 obtain ⟨ys,m,rfl,rfl,hl,hyl,hf⟩:=DataW.trod_struct Tryz.underlying142 h
 have hl:cs.length=5:=hl.trans kr
 obtain ⟨v0,v1,v2,v3,v4,rfl⟩:=HC hl
 obtain ⟨y0,y1,y2,y3,rfl⟩:∃a b c d,ys=[a,b,c,d]:=Z7l hyl
 obtain ⟨u0,ps,e0,h0,b0⟩:=EW (show Tr enc w m 23 [v0] y0 from Tn hf 0 _ rfl rfl 1 DK)
 obtain ⟨u1,ls,e1,h1,b1⟩:=EW (show Tr enc w m 23 [v1] y1 from Tn hf 1 _ rfl rfl 1 DK)
 obtain ⟨z2,e2,b2,_⟩:=Ao (show Tr enc w m 3 [v2] y2 from Tn hf 2 _ rfl rfl 1 c3)
 obtain ⟨b,h3,b3,q3⟩:=(Z9c m).2 (show Tr enc w m 140 [v3,v4] y3 from Tn hf 3 _ rfl rfl 2 Ga)
 cases e0;cases e1;cases e2
 refine ⟨⟨ps,ls,z2,b⟩,.cons h0 (.cons h1 (.cons .val h3)),?_,q3⟩
 simp only [Rows.uptoBulk,Rows.uptoBulkAll,Ww,QQ]
 show ps.length+(ls.length+b.cst)+1<=_
 omega
theorem Pk {n:Nat} {cs:List Value} {x:DataW H × List MemPlace} (h:Tr enc w n 40 cs x):∃a:Zl,Y9 w (GA w) (W8 a) cs/\Wj a<=Rows.uptoBulk x.1/\∀r∈a.routines,r.body.rng:=by
 obtain ⟨ys,m,rfl,rfl,hl,hyl,hf⟩:=DataW.trod_struct Tryz.underlying40 h
 have hl:cs.length=2:=hl.trans kr
 obtain ⟨v0,v1,rfl⟩:=EJ hl
 obtain ⟨y0,y1,rfl⟩:∃a b,ys=[a,b]:=EJ hyl
 obtain ⟨u0,ds,e0,h0,b0⟩:=Z9g (show Tr enc w m 37 [v0] y0 from Tn hf 0 _ rfl rfl 1 c22)
 obtain ⟨u1,rs,e1,h1,b1,q1⟩:=BV Tryz.underlying38 (k:=5) kr om QU (fun _=>rfl) VA (fun r=>r.body.rng) (show Tr enc w m 38 [v1] y1 from Tn hf 1 _ rfl rfl 1 c23) fun m' cs y hm hy=>Z9h hy
 cases e0;cases e1
 rw [RE] at b1
 refine ⟨⟨ds,rs⟩,.cons h0 (.cons h1 .nil),?_,q1⟩
 simp only [Rows.uptoBulk,Rows.uptoBulkAll,Ww,QQ]
 show Vv ds+VT rs<=_
 omega
end
end Go.Abs
end
namespace Go.Abs
def GB (B:List Nat):ZE:=fun b _=>b∈B
def HB (B:List Nat) (v:Value):Prop:=∀g,v.ownBlock=some g->g∈B
def XM (w:World) (B:List Nat) (ts:List (Value × Nat)):Prop:=∀p∈ts,Jg w p.1 p.2/\HB B p.1
theorem XM.left {w:World} {B:List Nat} {a b:List (Value × Nat)} (h:XM w B (a++b)):XM w B a:=fun p hp=>h p (Yv.2 (.inl hp))
theorem XM.right {w:World} {B:List Nat} {a b:List (Value × Nat)} (h:XM w B (a++b)):XM w B b:=fun p hp=>h p (Yv.2 (.inr hp))
theorem XM.head {w:World} {B:List Nat} {v:Value} {k:Nat} {b:List (Value × Nat)} (h:XM w B ((v,k)::b)):Jg w v k/\HB B v:=h _ (YV ..)
theorem XM.tail {w:World} {B:List Nat} {p:Value × Nat} {b:List (Value × Nat)} (h:XM w B (p::b)):XM w B b:=fun q hq=>h q (Xv _ hq)
section
variable {w:World} {G:ZE} {B:List Nat}
def JU (w:World) (G:ZE) (B:List Nat) (x:AV):Prop:=∀u,RV w G x u->RV w (GB B) x u
def Tj (w:World) (G:ZE) (B:List Nat) (ls:List AV):Prop:=∀x∈ls,JU w G B x
theorem BN:Tj w G B []:=fun _ h=>by cases h
theorem Ts {x:AV} {l:List AV} (h:JU w G B x) (t:Tj w G B l):Tj w G B (x::l):=fun y hy=>by
 rcases Yw.1 hy with rfl|hy
 ·exact h
 ·exact t y hy
theorem Ac (z:Int):JU w G B (.i z):=fun _ h=>by cases h;exact .val
theorem Pp {b:Nat} (hb:b∈B):∀{o:Nat} {ls:List AV},Tj w G B ls->Xi w G b o ls->Xi w (GB B) b o ls
 | _,_,_,.nil=>.nil
 | _,_,hi,.cons hc _ h t=>.cons hc hb (hi _ (YV ..) _ h) (Pp hb (fun x hx=>hi x (Xv _ hx)) t)
theorem Pm {b k:Nat} (hb:b∈B):∀{o:Nat} {es:List AV},(∀y∈es,Tj w G B y.leaves)->XN w G k b o es->XN w (GB B) k b o es
 | _,_,_,.nil=>.nil
 | _,_,hi,.cons hl h t=>.cons hl (Pp hb (hi _ (YV ..)) h) (Pm hb (fun x hx=>hi x (Xv _ hx)) t)
theorem BM {es:List AV} {v:Value} (hb:HB B v) (hi:∀y∈es,Tj w G B y.leaves):JU w G B (.sl es (some v)):=by
 intro u h
 have e:=h.header
 subst e
 cases h with
 | nil hq=>exact .nil hq
 | sl hq hc hm=>exact .sl hq hc (Pm (hb _ (by rfl)) hi hm)
theorem Es {xs:LI} {v:Value} (hb:HB B v):JU w G B (ZV xs v):=BM hb fun y hy=>by
 simp only [Zi,Xb] at hy
 obtain ⟨z,_,rfl⟩:=hy
 exact Ts (Ac z) BN
theorem Z5p {ls:List AV} (hi:Tj w G B ls):JU w G B (.agg ls):=by
 intro u h
 cases h with
 | agg hc=>exact .agg (hc.clean (JU w G B) (fun x v hp hx=>hp v hx) hi)
theorem Z5r {c:X0} (h:XM w B (Wd c)):Tj w G B (Ad c):=Ts (Es h.head.2) BN
theorem Z5s {cs:List X0} (h:XM w B (X5 cs)):∀y∈Wn cs,Tj w G B y.leaves:=by
 intro y hy
 simp only [Wn,Xb] at hy
 obtain ⟨c,hc,rfl⟩:=hy
 exact Z5r fun p hp=>h p (Cb.2 ⟨c,hc,hp⟩)
theorem Z5t {d:YM} (h:XM w B (We d)):Tj w G B (Ae d):=
 Ts (Ac _) (Ts (Ac _) (Ts (BM (XM.right h).head.2 (Z5s (XM.left h))) BN))
theorem Z5u {ds:List YM} (h:XM w B (YZ ds)):∀y∈XR ds,Tj w G B y.leaves:=by
 intro y hy
 simp only [XR,Xb] at hy
 obtain ⟨c,hc,rfl⟩:=hy
 exact Z5t fun p hp=>h p (Cb.2 ⟨c,hc,hp⟩)
mutual
theorem Z5x:∀(s:ZU),XM w B (Xt s)->Tj w G B (Ag s)
 | .mk op num into args av kids kv,h=>by
  rw [Xt] at h
  exact Ts (Ac _) (Ts (Ac _) (Ts (Ac _) (Ts (Es h.head.2) (Ts (BM h.tail.right.head.2 (NP kids h.tail.left)) BN))))
theorem NO:∀(s:ZS),XM w B (YS s)->Tj w G B (JB s)
 | .mk steps sv result,h=>by
  rw [YS] at h
  exact Ts (BM h.right.head.2 (NQ steps h.left)) (Ts (Ac _) BN)
theorem NQ:∀(xs:List ZU),XM w B (Yx xs)->∀y∈WA xs,Tj w G B y.leaves
 | [],_=>fun y hy=>by rw [WA] at hy;cases hy
 | s::r,h=>fun y hy=>by
  rw [WA] at hy
  rw [Yx] at h
  rcases Yw.1 hy with rfl|hy
  ·rw [E5];exact Z5x s h.left
  ·exact NQ r h.right y hy
theorem NP:∀(xs:List ZS),XM w B (YP xs)->∀y∈V2 xs,Tj w G B y.leaves
 | [],_=>fun y hy=>by rw [V2] at hy;cases hy
 | s::r,h=>fun y hy=>by
  rw [V2] at hy
  rw [YP] at h
  rcases Yw.1 hy with rfl|hy
  ·rw [E3];exact NO s h.left
  ·exact NP r h.right y hy
end
theorem Z5v {r:YN} (h:XM w B (Wf r)):Tj w G B (Af r):=by
 have h2:XM w B (YS r.body):=h.tail.tail
 have hb:=NO (G:=G) r.body h2
 exact Ts (Es h.head.2) (Ts (Es h.tail.head.2) (Ts (Ac _) hb))
theorem Z5w {rs:List YN} (h:XM w B (X2 rs)):∀y∈V3 rs,Tj w G B y.leaves:=by
 intro y hy
 simp only [V3,Xb] at hy
 obtain ⟨c,hc,rfl⟩:=hy
 exact Z5v fun p hp=>h p (Cb.2 ⟨c,hc,hp⟩)
theorem Z5q {y:X4} (h:XM w B (Xe y)):JU w G B (VE y):=
 Z5p (Ts (BM h.right.head.2 (Z5u h.left)) (Ts (BM h.right.tail.right.head.2 (Z5w h.right.tail.left)) BN))
end
def UE (w:World):Yl:=fun b o=>w.cell? ⟨b,o,none⟩
section
variable {w:World} {G:ZE} {B:List Nat}
theorem JJ {g o:Nat} {z:Int} {xs:List AV} (h:Xi w G g o (.i z::xs)):Va (UE w) (g,o)/\Xi w G g (o+1) xs:=by
 cases h with
 | cons hc _ hx t=>exact ⟨⟨z,by have:=hx.val_inv;subst this;exact hc⟩,t⟩
theorem IA {es:List AV} {v u:Value} {k:Nat} (h:RV w G (.sl es (some v)) u) (ht:Jg w v k) (hb:HB B v):Wh B v es.length/\∃kk,XN w G kk (Z3 v) 0 es:=by
 have e:=h.header
 subst e
 rcases ht with rfl|⟨g,len,cap,cur,e,rfl,h1,h2,h3⟩
 ·cases h with
  | nil _=>exact ⟨.inl ⟨rfl,rfl⟩,0,.nil⟩
 ·cases h with
  | nil _=>exact ⟨.inr ⟨g,cap,rfl,hb g rfl⟩,0,.nil⟩
  | sl _ hc hm=>exact ⟨.inr ⟨g,cap,rfl,hb g rfl⟩,_,hm⟩
theorem D6 {g o:Nat} {es:List AV} {v:Value} {k:Nat} {xs:List AV} (h:Xi w G g o (.sl es (some v)::xs)) (ht:Jg w v k) (hb:HB B v) :
  Q5 (UE w) B g o v es.length/\(∃kk,XN w G kk (Z3 v) 0 es)/\Xi w G g (o+1) xs:=by
 cases h with
 | cons hc _ hx t=>
  have e:=hx.header
  subst e
  obtain ⟨a,b⟩:=IA hx ht hb
  exact ⟨⟨hc,a⟩,b,t⟩
theorem Zat {g kk:Nat} {xs:LI} (h:XN w G kk g 0 (Zi xs)):TL (UE w) g xs.length:=by
 intro i hi
 have hx:(Zi xs)[i]? = some (.i xs[i]):=by simp [Zi,hi]
 have hk:kk=1:=(h.len _ (YA hx)).symm
 subst hk
 have:=h.get i _ hx
 rw [Vf,UI] at this
 exact (JJ this).1
theorem Fc {g o:Nat} {v:Value} {xs:LI} {k:Nat} {ls:List AV} (h:Xi w G g o (ZV xs v::ls)) (ht:Jg w v k/\HB B v) :
  (Q5 (UE w) B g o v xs.length/\TL (UE w) (Z3 v) xs.length)/\Xi w G g (o+1) ls:=by
 obtain ⟨a,⟨kk,b⟩,c⟩:=D6 h ht.1 ht.2
 rw [Yk] at a
 exact ⟨⟨a,Zat b⟩,c⟩
theorem Zar {g o:Nat} {c:X0} (h:Xi w G g o (Ad c)) (ha:XM w B (Wd c)):Ir (UE w) B g o c:=(Fc h ha.head).1
theorem R1 {g kk:Nat}:∀{o:Nat} {cs:List X0},XN w G kk g o (Wn cs)->XM w B (X5 cs)->KK (UE w) B g o cs
 | _,[],_,_=>trivial
 | _,c::r,.cons hl h t,ha=>by
  have ha:XM w B (Wd c++X5 r):=ha
  have hk:1=kk:=hl
  subst hk
  exact ⟨Zar h ha.left,R1 t ha.right⟩
theorem Zas {g o:Nat} {d:YM} (h:Xi w G g o (Ae d)) (ha:XM w B (We d)):Iu (UE w) B g o d:=by
 obtain ⟨h1,h⟩:=JJ h
 obtain ⟨h2,h⟩:=JJ h
 obtain ⟨h3,⟨_,h4⟩,_⟩:=D6 h (XM.right ha).head.1 (XM.right ha).head.2
 rw [Z2o] at h3
 exact ⟨h1,h2,h3,R1 h4 (XM.left ha)⟩
theorem R3 {g kk:Nat}:∀{o:Nat} {cs:List YM},XN w G kk g o (XR cs)->XM w B (YZ cs)->J6 (UE w) B g o cs
 | _,[],_,_=>trivial
 | _,c::r,.cons hl h t,ha=>by
  have ha:XM w B (We c++YZ r):=ha
  have hk:3=kk:=hl
  subst hk
  exact ⟨Zas h ha.left,R3 t ha.right⟩
mutual
theorem Zaw {g o:Nat}:∀{s:ZU},Xi w G g o (Ag s)->XM w B (Xt s)->QO (UE w) B g o s
 | .mk _ _ _ _ _ _ _,h,ha=>by
  rw [Xt] at ha
  rw [QO]
  obtain ⟨h1,h⟩:=JJ h
  obtain ⟨h2,h⟩:=JJ h
  obtain ⟨h3,h⟩:=JJ h
  obtain ⟨h4,h⟩:=Fc h ha.head
  obtain ⟨h5,⟨_,h6⟩,_⟩:=D6 h ha.tail.right.head.1 ha.tail.right.head.2
  rw [Z2n] at h5
  exact ⟨⟨h1,h2,h3⟩,h4,h5,R0 h6 ha.tail.left⟩
theorem Zaq {g o:Nat}:∀{s:ZS},Xi w G g o (JB s)->XM w B (YS s)->QN (UE w) B g o s
 | .mk _ _ _,h,ha=>by
  rw [YS] at ha
  rw [QN]
  obtain ⟨h5,⟨_,h6⟩,h⟩:=D6 h ha.right.head.1 ha.right.head.2
  rw [MO] at h5
  exact ⟨⟨h5,Iz h6 ha.left⟩,(JJ h).1⟩
theorem Iz {g kk:Nat}:∀{o:Nat} {xs:List ZU},XN w G kk g o (WA xs)->XM w B (Yx xs)->Vs (UE w) B g o xs
 | _,[],_,_=>by rw [Vs];trivial
 | _,s::r,h,ha=>by
  rw [WA] at h
  rw [Yx] at ha
  rw [Vs]
  cases h with
  | cons hl h t=>
   rw [E5] at hl h
   have hk:5=kk:=hl
   subst hk
   exact ⟨Zaw h ha.left,Iz t ha.right⟩
theorem R0 {g kk:Nat}:∀{o:Nat} {xs:List ZS},XN w G kk g o (V2 xs)->XM w B (YP xs)->U5 (UE w) B g o xs
 | _,[],_,_=>by rw [U5];trivial
 | _,s::r,h,ha=>by
  rw [V2] at h
  rw [YP] at ha
  rw [U5]
  cases h with
  | cons hl h t=>
   rw [E3] at hl h
   have hk:2=kk:=hl
   subst hk
   exact ⟨Zaq h ha.left,R0 t ha.right⟩
end
theorem Zav {g o:Nat} {r:YN} (h:Xi w G g o (Af r)) (ha:XM w B (Wf r)):Fb (UE w) B g o r:=by
 have ha2:XM w B (YS r.body):=ha.tail.tail
 rw [Ei] at ha2
 obtain ⟨h1,h⟩:=Fc h ha.head
 obtain ⟨h2,h⟩:=Fc h ha.tail.head
 obtain ⟨h3,h⟩:=JJ h
 obtain ⟨h5,⟨_,h6⟩,h⟩:=D6 h ha2.right.head.1 ha2.right.head.2
 rw [MO] at h5
 exact ⟨h1,h2,h3,⟨h5,Iz h6 ha2.left⟩,(JJ h).1⟩
theorem R4 {g kk:Nat}:∀{o:Nat} {cs:List YN},XN w G kk g o (V3 cs)->XM w B (X2 cs)->J7 (UE w) B g o cs
 | _,[],_,_=>trivial
 | _,c::r,.cons hl h t,ha=>by
  have ha:XM w B (Wf c++X2 r):=ha
  have hk:5=kk:=hl
  subst hk
  exact ⟨Zav h ha.left,R4 t ha.right⟩
def nv (y:X4):Value:=.agg #[y.dv,y.rv]
def KE:Value->Hd
 | .slice a l c=>⟨a,l,c⟩
 | _=>⟨none,0,0⟩
abbrev av (y:X4):AV:=.agg [.h (KE y.dv),.h (KE y.rv)]
def Fz (y:X4):Prop:=(KE y.dv).v=y.dv/\(KE y.rv).v=y.rv
theorem Wh.of {B:List Nat} {v:Value} {n:Nat} (h:Wh B v n):(KE v).v=v:=by
 rcases h with ⟨rfl,_⟩|⟨g,cap,rfl,_⟩<;>rfl
theorem BH {m:Yl} {B:List Nat} {y:X4} (h:Q6 m B y):Fz y:=⟨h.1.1.of,h.2.1.of⟩
theorem Ck {y:X4} (h:Fz y):av y=.agg [.val y.dv,.val y.rv]:=by
 show AV.agg [.val (KE y.dv).v,.val (KE y.rv).v]=_
 rw [h.1,h.2]
theorem Ih {y:X4} {u:Value} (h:RV w G (VE y) u):u=nv y:=by
 cases h with
 | agg hc=>cases hc with
  | cons h1 t=>cases t with
   | cons h2 t=>cases t;rw [h1.header,h2.header];rfl
theorem Zau {y:X4} {u:Value} (h:RV w G (VE y) u) (ha:XM w B (Xe y)):Q6 (UE w) B y:=by
 cases h with
 | agg hc=>cases hc with
  | cons h1 t=>cases t with
   | cons h2 t=>
    obtain ⟨a1,_,a2⟩:=IA h1 ha.right.head.1 ha.right.head.2
    obtain ⟨b1,_,b2⟩:=IA h2 ha.right.tail.right.head.1 ha.right.tail.right.head.2
    rw [Z2p] at a1
    rw [Z2q] at b1
    exact ⟨⟨a1,R3 a2 ha.left⟩,b1,R4 b2 ha.right.tail.left⟩
end
def Ch (B:List Nat) (m:Yl) (x:AV) (u:Value):Prop:=
 ∀w:World,(∀b∈B,∃cs e,w.heap[b]? = some (.cells cs e (0,0))/\∀o,cs[o]? = m b o)->RV w (GB B) x u
def JX (S:List Nat) (M:Yl) (y:X4):Prop:=Ch S M (VE y) (nv y)/\Fz y
theorem Z09 {ts:List (Value × Nat)} {p:Value × Nat} (h:p∈ts):HB (Xw ts) p.1:=fun _ hg=>L9.2 ⟨p,h,hg⟩
theorem Z0a {w:World} {ts:List (Value × Nat)} (h:∀p∈ts,Jg w p.1 p.2) (hp:ts.Pairwise (fun p q=>∀b o,B8 p.1 p.2 b o->B8 q.1 q.2 b o->False)):(Xw ts).Nodup:=by
 refine List.pairwise_filterMap.2 (hp.imp_of_mem ?_)
 rintro ⟨v,k⟩ ⟨v',k'⟩ hm hm' hd b hb b' hb' rfl
 rcases h _ hm with e|⟨g,len,cap,cur,el,e,_⟩
 ·simp only at e;subst e;simp [Value.ownBlock] at hb
 rcases h _ hm' with e'|⟨g',len',cap',cur',el',e',_⟩
 ·simp only at e';subst e';simp [Value.ownBlock] at hb'
 simp only at e e'
 subst e;subst e'
 simp only [Value.ownBlock,Xo] at hb hb'
 subst hb;subst hb'
 exact hd g' (len*k+len'*k') ⟨rfl,Nat.le_add_right _ _⟩ ⟨rfl,Nat.le_add_left _ _⟩
theorem thaw {w0 w:World} {G0 G':ZE} {y:X4} {u:Value} (hh0:ZW w0 G0 []) (hx:Yr w0 G0 [] w G' [.many (Xe y)]) (hh:ZW w G' [.many (Xe y)]) (hv:RV w G' (VE y) u) :
  ZW w G0 [.own (Xw (Xe y)) (UE w)]/\Yr w0 G0 [] w G0 [.own (Xw (Xe y)) (UE w)]/\Q6 (UE w) (Xw (Xe y)) y/\(W5 y).Nodup /\
   Ch (Xw (Xe y)) (UE w) (VE y) (nv y):=by
 obtain ⟨t1,t2⟩:=hh.ok _ (YH.2 rfl)
 have ha:XM w (Xw (Xe y)) (Xe y):=fun p hp=>⟨t1 p hp,Z09 hp⟩
 have hcells:∀b∈Xw (Xe y),∃cs e,w.heap[b]? = some (.cells cs e (0,0))/\∀o,cs[o]? = UE w b o:=by
  intro b hb
  obtain ⟨p,hp,hpb⟩:=L9.1 hb
  rcases t1 p hp with e|⟨g,len,cap,cur,el,e,h1,_⟩
  ·rw [e] at hpb;simp [Value.ownBlock] at hpb
  ·rw [e] at hpb
   simp only [Value.ownBlock,Xo] at hpb
   subst hpb
   exact ⟨cur,el,h1,fun o=>(cell_of_row w g o cur el (0,0) h1).symm⟩
 have hfresh:∀b∈Xw (Xe y),w0.heap.size<=b:=by
  intro b hb
  obtain ⟨p,hp,hpb⟩:=L9.1 hb
  rcases t1 p hp with e|⟨g,len,cap,cur,el,e,h1,_⟩
  ·rw [e] at hpb;simp [Value.ownBlock] at hpb
  ·have e':=e
   rw [e] at hpb
   simp only [Value.ownBlock,Xo] at hpb
   subst hpb
   refine Nat.le_of_not_lt fun hlt=>?_
   obtain ⟨r,hr,_⟩:=hx.newfp g (len*p.2) hlt ⟨_,YH.2 rfl,p,hp,by rw [e'];exact ⟨rfl,YX _⟩⟩
   cases hr
 have hsk:=Zau hv ha
 have hrv:=Z5q ha _ hv
 rw [Ih hv] at hrv
 refine ⟨⟨fun r hr=>?_,Kq _ _,fun r hr b o hf hg=>?_,fun b o hg=>Bj (hh0.lt b o hg) hx.size⟩,
  ⟨hx.os,hx.tape,hx.output,hx.size,fun _ _ h=>h,hx.same,fun _ _ _ h=>.inl h,fun b o hb hf=>?_⟩,hsk,Sr hsk (Z0a t1 t2),fun w' hw'=>?_⟩
 ·rw [YH.1 hr]
  exact hcells
 ·rw [YH.1 hr] at hf
  have h1:=hfresh b hf
  have h2:=hh0.lt b o hg
  omega
 ·obtain ⟨r,hr,hf⟩:=hf
  rw [YH.1 hr] at hf
  have h1:=hfresh b hf
  omega
 ·refine hrv.mono ⟨fun b o hb=>?_,fun _ _ h=>h⟩
  obtain ⟨cs,e,h1,h2⟩:=hcells b hb
  obtain ⟨cs',e',h1',h2'⟩:=hw' b hb
  rw [cell_of_row w b o cs e (0,0) h1,cell_of_row w' b o cs' e' (0,0) h1',h2,h2']
theorem Wg.thaw {P:Program} {f:FuncId} {args:List AV} {Q:X4->Prop} (H:Wg P f args [] (fun r h=>∃y:X4,r=VE y/\h=[.many (Xe y)]/\Q y)) :
  Wg P f args [] (fun r h=>∃(y:X4) (S:List Nat) (M:Yl),r=av y/\h=[.own S M]/\(Q y/\Q6 M S y/\(W5 y).Nodup/\JX S M y)):=by
 intro w G vs ha hh
 refine (H w G vs ha hh).mono ?_
 rintro e w' ⟨v,r,h',G',rfl,⟨y,rfl,rfl,hq⟩,hv,hh',hx⟩
 obtain ⟨a1,a2,a3,a4,a5⟩:=Go.Abs.thaw hh hx hh' hv
 rw [Ih hv]
 exact ⟨_,_,_,_,rfl,⟨y,_,_,rfl,rfl,hq,a3,a4,a5,BH a3⟩,by rw [Ck (BH a3)];exact .agg (.cons .val (.cons .val .nil)),a1,a2⟩
theorem Wg.thaw2 {P:Program} {f:FuncId} {args:List AV} {c:Bool} {Q:X4->Prop} (H:Wg P f args [] (fun r h=>∃y:X4,r=.tup [VE y,.b c]/\h=[.many (Xe y)]/\Q y)) :
  Wg P f args [] (fun r h=>∃(y:X4) (S:List Nat) (M:Yl),r=.tup [av y,.b c]/\h=[.own S M]/\(Q y/\Q6 M S y/\(W5 y).Nodup/\JX S M y)):=by
 intro w G vs ha hh
 refine (H w G vs ha hh).mono ?_
 rintro e w' ⟨v,r,h',G',rfl,⟨y,rfl,rfl,hq⟩,hv,hh',hx⟩
 cases hv with
 | tup hc=>cases hc with
  | cons h1 t=>
   obtain ⟨a1,a2,a3,a4,a5⟩:=Go.Abs.thaw hh hx hh' h1
   refine ⟨_,_,_,_,rfl,⟨y,_,_,rfl,rfl,hq,a3,a4,a5,BH a3⟩,.tup (.cons ?_ ?_),a1,a2⟩
   ·rw [Ih h1,Ck (BH a3)];exact .agg (.cons .val (.cons .val .nil))
   ·cases t with
    | cons h2 t=>cases t;cases h2;exact .cons .val .nil
inductive Kt (bs:List Res):List AV->List AV->Prop
 | nil:Kt bs [] []
 | same {x as1 xs} (t:Kt bs as1 xs):Kt bs (x::as1) (x::xs)
 | gen {B m x a u as1 xs} (h:Res.own B m∈bs) (hr:Ch B m x u) (ha:∀w G v,RV w G a v->v=u) (t:Kt bs as1 xs):Kt bs (a::as1) (x::xs)
theorem Kt.lent {bs:List Res} {B:List Nat} {m:Nat->Nat->Option Value} {y:X4} {as1 xs:List AV} (h:Res.own B m∈bs) (hr:JX B m y) (t:Kt bs as1 xs):Kt bs (av y::as1) (VE y::xs):=
 .gen h hr.1 (fun w G v h=>by
  rw [Ck hr.2] at h
  cases h with
  | agg hc=>cases hc with
   | cons h1 t=>cases t with
    | cons h2 t=>cases t;cases h1;cases h2;rfl) t
theorem Kt.rcs {w:World} {G Gb:ZE} {bs:List Res} (hA:Vu G w w Gb) (hb:∀B m,Res.own B m∈bs->∀x u,Ch B m x u->RV w Gb x u) :
  ∀{as1 xs:List AV} {vs:List Value},Kt bs as1 xs->Y9 w G as1 vs->Y9 w Gb xs vs
 | _,_,_,.nil,.nil=>.nil
 | _,_,_,.same t,.cons h r=>.cons (h.mono hA) (t.rcs hA hb r)
 | _,_,_,.gen hm hr ha t,.cons (v:=v) h r=>by
  have e:=ha _ _ _ h
  subst e
  exact .cons (hb _ _ hm _ _ hr) (t.rcs hA hb r)
theorem Ux.cleanR {w:World} {G G2:ZE} {q:Res} (h0:Ux w G q) (hcq:JS q):Ux w G2 q:=by
 cases q with
 | obj b ls=>obtain ⟨cs,el,k1,k2⟩:=h0;exact ⟨cs,el,k1,k2.vals hcq⟩
 | tail v k=>exact h0
 | ge s=>exact h0
 | vec v ls=>
  rcases h0 with ⟨rfl,h0⟩|⟨g,cap,cur,el,rfl,k1,k2,k3,k4⟩
  ·exact .inl ⟨rfl,h0⟩
  ·exact .inr ⟨g,cap,cur,el,rfl,k1,k2,k3,k4.vals hcq⟩
 | many ts=>exact h0
 | own B m=>exact h0
 | row v k ls=>
  rcases h0 with ⟨rfl,h0⟩|⟨g,len,cap,cur,el,rfl,k1,k2,k3,k4,k5⟩
  ·exact .inl ⟨rfl,h0⟩
  ·exact .inr ⟨g,len,cap,cur,el,rfl,k1,k2,k3,k4,k5.vals hcq⟩
 | mp b Q=>exact h0
theorem Wg.lendO {P:Program} {f:FuncId} {as1 xs:List AV} {h1:List Res} (bs:List Res) {R:AV->List Res->Prop} (H:Wg P f xs h1 R) (hargs:Kt bs as1 xs)
  (hb:∀r∈bs,∃B m,r=.own B m) (hclean:∀r h',R r h'->Q7 h' r/\∀q∈h',JS q) :
  Wg P f as1 (h1++bs) (fun r h'=>∃h1',R r h1'/\h'=h1'++bs):=by
 intro w G vs hvs hh
 let Gb:ZE:=fun b o=>G b o∨Wb bs b o
 have hA:Vu G w w Gb:=⟨fun _ _ _=>rfl,fun _ _ h=>.inl h⟩
 have hbslt:∀b o,Wb bs b o->b<w.heap.size:=fun b o ⟨q,hq,hf⟩=>(hh.ok q (Yv.2 (.inr hq))).lt b o hf
 have hwhole:∀b o o',Wb bs b o->Wb bs b o':=fun b o o' ⟨q,hq,hf⟩=>⟨q,hq,by
  obtain ⟨B,m,rfl⟩:=hb q hq
  exact hf⟩
 have g3:ZW w Gb h1:=⟨fun r hr=>(hh.ok r (Yv.2 (.inl hr))).same hA,hh.left.apart,fun r hr b o hf hg=>by
   rcases hg with hg|hg
   ·exact hh.prot r (Yv.2 (.inl hr)) b o hf hg
   ·exact hh.cross ⟨r,hr,hf⟩ hg,fun b o hg=>by
   rcases hg with hg|hg
   ·exact hh.lt b o hg
   ·exact hbslt b o hg⟩
 have g4:∀B m,Res.own B m∈bs->∀x u,Ch B m x u->RV w Gb x u:=fun B m hm x u hr=>
  (hr w (hh.ok _ (Yv.2 (.inr hm)))).mono ⟨fun _ _ _=>rfl,fun b o hb=>.inr ⟨_,hm,hb⟩⟩
 refine (H w Gb vs (hargs.rcs hA g4 hvs) g3).mono ?_
 rintro e w' ⟨v,r,h',G',rfl,hR,hv,hh',hx⟩
 obtain ⟨c1,c2⟩:=hclean r h' hR
 let G2:ZE:=fun b o=>G' b o/\¬(Wb bs b o)
 have hGkeep:∀b o,G b o->G2 b o:=fun b o hg=>⟨hx.sub b o (.inl hg),fun ⟨q,hq,hf⟩=>hh.prot q (Yv.2 (.inr hq)) b o hf hg⟩
 have hnew:∀v k g,Res.tail v k∈h'->v.ownBlock=some g->∀o,G' g o->G2 g o:=by
  intro v k g hm hg o hgo
  refine ⟨hgo,fun hf=>?_⟩
  have hlt:=hbslt _ _ hf
  rcases hh'.ok _ hm with rfl|⟨g',len,cap,cur,el,rfl,t1,t2,t3⟩
  ·simp [Value.ownBlock] at hg
  ·simp only [Value.ownBlock,Xo] at hg
   subst hg
   have hfp:Wb h' g' (len*k):=⟨_,hm,rfl,YX _⟩
   exact hh.cross (hx.newfp g' (len*k) hlt hfp) (hwhole _ _ _ hf)
 have e1:Yr w G h1 w' G2 h':=⟨hx.os,hx.tape,hx.output,hx.size,hGkeep,hx.same,fun b o hb' hg=>by
  rcases hx.newG b o hb' hg.1 with h|h
  ·rcases h with h|h
   ·exact .inl h
   ·exact absurd h hg.2
  ·exact .inr h,hx.newfp⟩
 have e2:ZW w' G2 h':=⟨fun q hq=>(hh'.ok q hq).cleanR (c2 q hq),hh'.apart,fun q hq b o hf hg=>hh'.prot q hq b o hf hg.1,fun b o hg=>hh'.lt b o hg.1⟩
 obtain ⟨f1,f2⟩:=hh.frame e1 e2
 exact ⟨v,r,h'++bs,G2,rfl,⟨h',hR,rfl⟩,RV.clean hnew c1 hv,f1,f2⟩
section
variable {P:Program} {n:Nat} {ops:Array Oper} {B:Fr->List Res->Prop} {k:Nat} {F:Fr} {h:List Res}
def LX (P:Program) (ops:Array Oper) (F:Fr) (k:Nat):Option (Bool × Bool):=
 match (Zj ops k).op with
 | .binOp .neq t x y _=>match P.underlying t with
  | some .bool=>match F.ev x,F.ev y with
   | .val (.bool a),.val (.bool b)=>some (a,b)
   | _,_=>none
  | _=>none
 | _=>none
theorem Ho (a b:Bool) (hb:LX P ops F k=some (a,b):=by kernel_rfl):X8 P (Zj ops k) F h [] (.b (a != b)):=by
 unfold LX at hb
 generalize hoo:Zj ops k=o at hb
 obtain ⟨dst,op,type,pos,after,guard⟩:=o
 cases op<;>simp only at hb<;>try (cases hb)
 rename_i bop t x y yt
 cases bop<;>simp only at hb<;>try (cases hb)
 split at hb
 ·rename_i ht
  split at hb
  ·rename_i a' b' h1 h2
   cases hb
   intro n w G ac hF hh
   have v1:=hF.ev x
   have v2:=hF.ev y
   rw [h1] at v1
   rw [h2] at v2
   have v1:=v1.val_inv
   have v2:=v2.val_inv
   refine ⟨_,.val,fun w' _ _=>?_⟩
   simp only [execOp,v1,v2]
   have he:(Op.equalIn (9999+1) t (.bool a) (.bool b)).run P w'=.ok (a==b) w':=by
    rw [Op.equalIn]
    simp [Sem.run_bind,Vr ht]
   refine Vd ?_
   simp only [eqGuard,binOp,Op.equal,Op.maxDepth]
   have he2:(Op.equalIn 10000 t (.bool a) (.bool b)).run P w'=.ok (a==b) w':=he
   simp [Sem.run_bind,he2,bne]
  ·cases hb
 ·cases hb
end
open Go.Proofs
abbrev Za:=@Wg Tryz.prog
theorem Z8a {xs:LI} {k:Nat} {n x:Int} (h:n∉xs.take k) (hx:xs[k]? = some x) (hn:¬x=n):n∉xs.take (k+1):=by
 rw [List.take_add_one,hx]
 simp only [Option.toList_some,Yv,YH]
 exact fun q=>q.elim h fun q=>hn q.symm
theorem Z82 {xs:LI} {k:Nat} {n x:Int} (hx:xs[k]? = some x) (hn:x=n):n∈xs:=hn▸YA hx
theorem Tg (n:Int) (low:Int) (high:Int) :Za 126 [.i n,.i low,.i high] [] (fun r h=>r=.b (decide (low<=n/\n<=high))/\h=[]):=by
 refine Zx 15 Tryz.func126 (Zf (ar (Xz 8 [] [(14,.b ((decide (low<=n))&&(decide (n<=high))))] (fun gz=>gz) ?_ (fun hj1=>?_))))
 ·exact Z7 (Zo (.b ((decide (low<=n))&&(decide (n<=high)))) (lb (by rw [Wk];simp)))
 refine Z1 4 (ib (b:=(decide (low<=n))) 10 (fun Zb=>?_) (fun Zb=>?_))
 ·have Ya:low<=n:=(dq).1 Zb
  exact Z1 4 (Yb (wk [] (Zp (decide (n<=high)) Zb fl)) hj1)
 have YT:¬(low<=n):=ZZ dq Zb
 exact Z1 4 (Yb (wk [] (Zp false Zb fl)) hj1)
theorem IG (xs:LI) (n:Int) (hlen:xs.length<=4294967296:=by exact ob):Za 198 [Ze xs,.i n] [] (ZP (.b (decide (n∈xs)))):=by
 refine Zx 18 Tryz.func198 (Zf (Yj (ab 0 (ZR (fun fz gz m F h=>∃(k:Nat),(k<=xs.length)/\(n∉xs.take k)/\F=sF [0,1] fz [(5,.i k)]/\h=gz/\m=xs.length-k) _ _ _ ⟨0,ob,ob,rfl,rfl,rfl⟩ (wk [] (ZT fl)) ?_))))
 rintro m F h ⟨k,ZX,Z9,rfl,rfl,rfl⟩
 refine Y8 2 (iw (Yk xs) (ZN ((k:Int)<(xs.length:Int)) (fun Z5=>?_) (fun Z5=>?_)))
 ·refine ak (aq (ab 1 (ZM 2 ?_)))
  obtain ⟨x1,Z2⟩:=Zv xs k om
  refine Zg (Zq none (k:Int) 1 (Yc Z2)) (Yt (x1==n) Zr (fun Zd=>?_) (fun Zd=>?_))
  ·exact ar (Z7 (Zo (.b true) (lb (by rw [eq_comm,dq];exact Z82 Z2 Zd))))
  exact ak (az (Z1 1 (ZK k (Z0 (ZJ ⟨k+1,ob,(Z8a Z9 Z2 Zd),rfl,rfl,rfl⟩ (wk [] (ZL k fl)))))))
 refine ax 0 (Zf ?_)
 have hke:k=xs.length:=by omega
 exact ZG (Zo (.b false) (lb (by rw [eq_comm,decide_eq_false_iff_not];rw [hke,Kr] at Z9;exact Z9)))
theorem At (xs:LI) (hlen:xs.length<=4294967296:=by exact ob):Za 115 [Ze xs] [] (fun r h=>∃(v:Value),r=ZV xs v/\h=[.tail v 1]):=by
 exact Zx 6 Tryz.func115 (Zf (ar (iL (Zi []) 0 1 fun v1=>Z1 1 (ip 0 (Zi xs) (Zi []) (Zi xs) v1 none 1 (Wq _) (Wq _) (TY _) (by simp<;>omega) (by simp [Zi]) fun v2=>Z7 (r1 [0] ⟨v2,rfl,rfl⟩)))))
theorem IF (ds:List Zs) (n:Nat) (hd:Wy ds:=by exact ob) (hn:n<=ds.length:=by exact ob):Za 220 [ZI ds,.i n] [] (ZP (.i ((Yh (ds.take n):Nat):Int))):=by
 refine Zx 21 Tryz.func220 (Zf (Zf (Yj (ab 0 (ZR (fun fz gz m F h=>∃(k:Nat),(k<=n)/\F=sF [0,1] fz [(5,.i ((Yh (ds.take k):Nat):Int)),(6,.i k)]/\h=gz/\m=n-k) _ _ _ ⟨0,ob,rfl,rfl,rfl⟩ (wk [] (ZT (ZT fl))) ?_)))))
 rintro m F h ⟨k,ZX,rfl,rfl,rfl⟩
 refine Yq (ZN ((k:Int)<(n:Int)) (fun Z5=>?_) (fun Z5=>?_))
 ·refine ak (aq (ab 1 (az (Z1 3 ?_))))
  obtain ⟨x1,Z2⟩:=Zv ds k om
  refine Zg (Zq none (k:Int) 3 (Vh Z2)) (Z1 2 (iw (Vg x1.cons) (ia ((((Yh (ds.take k))+x1.cons.length:Nat):Int)) ((((Yh (ds.take k):Nat):Int))+((x1.cons.length:Int))) (hb:=(by have h1:=hd.cons_at Z2;have h2:=(hd.take k).sum;omega)) (Z0 (az (Z1 1 (ZK k (hb:=(by have:=hd.len;omega)) (Z0 ?_))))))))
  have hsn:Yh (ds.take (k+1))=Yh (ds.take k)+x1.cons.length:=by rw [WP Z2,Cr];simp [Yh]
  exact ZJ ⟨k+1,ob,rfl,rfl,rfl⟩ (wk [] (fc (x:=.i (((Yh (ds.take k))+x1.cons.length:Nat):Int)) li (ZL k fl)))
 refine ax 0 (Zf ?_)
 have hke:k=n:=by omega
 subst hke
 exact ZG (Zo (.i ((Yh (ds.take k):Nat):Int)) li)
theorem IE (ds:List Zs) (c:Int) (hd:Wy ds:=by exact ob):Za 188 [ZI ds,.i c] [] (ZP (.i (XJ ds c))):=by
 refine Zx 30 Tryz.func188 (Zf (Yj (ab 0 (ZR (fun fz gz m F h=>∃(k:Nat),(k<=ds.length)/\((UM c (ds.drop k) k (Yh (ds.take k))).1=XJ ds c)/\F=sF [0,1] fz [(5,.i k)]/\h=gz/\m=ds.length-k) _ _ _ ⟨0,ob,(by rfl),rfl,rfl,rfl⟩ (wk [] (ZT fl)) ?_))))
 rintro m F h ⟨k,ZX,Z9,rfl,rfl,rfl⟩
 refine Y8 2 (iw (Vw ds) (ZN ((k:Int)<(ds.length:Int)) (fun Z5=>?_) (fun Z5=>?_)))
 ·refine ak (aq (ab 1 (ZM 2 (ZC [] (IF ds k) (Z0 (ZM 5 ?_))))))
  obtain ⟨x1,Z2⟩:=Zv ds k om
  refine Zg (Zq none (k:Int) 3 (Vh Z2)) (Z1 2 (iw (Vg x1.cons) (ia ((((Yh (ds.take k))+x1.cons.length:Nat):Int)) ((((Yh (ds.take k):Nat):Int))+((x1.cons.length:Int))) (hb:=(by have h1:=hd.cons_at Z2;have h2:=(hd.take k).sum;omega)) (ia (((((Yh (ds.take k))+x1.cons.length:Nat):Int)-1)) (((((Yh (ds.take k))+x1.cons.length:Nat):Int))-(1)) (hb:=(by have h1:=hd.cons_at Z2;have h2:=(hd.take k).sum;omega)) (ZC [] (Tg c ((Yh (ds.take k):Nat):Int) ((((Yh (ds.take k))+x1.cons.length:Nat):Int)-1)) (ie (Xf (((Yh (ds.take k):Nat):Int)<=c/\c<=((((Yh (ds.take k))+x1.cons.length:Nat):Int)-1)) (fun Zd=>?_) (fun Zd=>?_))))))))
  ·exact ZM 1 (ZK k (hb:=(by have h2:=hd.len;omega)) (Z7 (Zo (.i (k+1:Nat)) (li (by rw [<-Z9,ZH Z2,UM,Z6 Zd];rfl)))))
  refine ak (az (Z1 1 (ZK k (hb:=(by have h2:=hd.len;omega)) (Z0 ?_))))
  have hdr:=ZH Z2
  exact ZJ ⟨k+1,ob,(by rw [hdr] at Z9;rw [<-Z9,UM,Z4 Zd,WP Z2,Cr];rfl),rfl,rfl,rfl⟩ (wk [] (ZL k fl))
 exact ax 0 (ar (Z7 (Zo (.i (-1)) (li (by rw [<-Z9,YR om];rfl)))))
theorem Fd (ds:List Zs) (c:Int) (hd:Wy ds:=by exact ob):Za 172 [ZI ds,.i c] [] (ZP (Ze (Y2 ds c))):=by
 refine Zx 27 Tryz.func172 (Zf (ZM 2 (ZC [] (IE ds c) (Z0 (Yq (ZN ((XJ ds c)<1) (fun Z5=>?_) (fun Z5=>?_)))))))
 ·exact ar (iL (Zi []) 0 1 fun v1=>Z7 (Zo (ZV [] v1) (Zk.sl _ (Yp Zi (by rw [(DU Z5).1])))))
 obtain ⟨k,d,x,hk1,hk2,hk3,hk4,hk5⟩:=Gp Z5
 have hkl:=(XZ.1 hk1).1
 have hxl:=(XZ.1 hk3).1
 have hsm:=(hd.take k).sum
 have hdl:=hd.cons_at hk1
 have hdn:=hd.len
 refine ak (aD 16 (Zm 14 16 [0,1] (da 2 ((k:Int)) ((XJ ds c)-(1)) (hb:=(by have:=hd.len;omega)) ?_)))
 obtain ⟨x1,Z2⟩:=Zv ds k om
 have hxe:x1=d:=by rw [hk1] at Z2;exact (Ti Z2).symm
 subst hxe
 refine dx 3 (Zq none (k:Int) 3 (Vh Z2)) (Zm 7 12 [4,5,6,7,8] (da 9 ((k:Int)) ((XJ ds c)-(1)) (hb:=(by have:=hd.len;omega)) (ZF 10 (XY 10 [] [] [] (IF ds k) (da 11 ((c-((Yh (ds.take k):Nat):Int))) ((c)-(((Yh (ds.take k):Nat):Int))) ?_)))))
 obtain ⟨x2,Zt⟩:=Zv x1.cons ((c-((Yh (ds.take k):Nat):Int)).toNat) om
 have hxe:x2=x:=by rw [show (c - ↑(Yh (ds.take k))).toNat=(c-Yh (ds.take k)).toNat from rfl,hk3] at Zt;exact (Ti Zt).symm
 subst hxe
 exact dx 12 (Zq none (c-((Yh (ds.take k):Nat):Int)) 1 (Ky Zt)) (Zm 0 3 [13,14,15] (de (ZG (Zo (Ze x2.fields) (Zk.sl _ (Yp Zi hk5.symm))))))
theorem R8 (ds:List Zs) (t:Int) (hd:Wy ds:=by exact ob):Za 190 [ZI ds,.i t] [] (fun r h=>∃(v:Value),r=ZV (YG ds t) v/\h=[.tail v 1]):=by
 have hdn:=hd.len
 refine Zx 35 Tryz.func190 (Zf (ar (iL (Zi []) 0 1 fun v1=>Z0 (Y8 2 (iw (Vw ds) (ZC [] (Tg t 1 (ds.length:Int)) (Yt (!(decide (1<=t/\t<=(ds.length:Int)))) (p:=¬(1<=t/\t<=(ds.length:Int))) (Yi dq) (fun Z5=>?_) (fun Z5=>?_))))))))
 ·exact ar (Z7 (r2 [0] [ZV [] v1] ⟨v1,rfl,rfl⟩ (Zk.slh _ (Yp Zi (by simp [YG];omega)))))
 have Z5:1<=t/\t<=ds.length:=by simpa using Z5
 obtain ⟨d,hd1⟩:=Zv ds ((t-1).toNat) om
 have hdc:=hd.cons_at hd1
 have hsm:=(hd.take (t-1).toNat).sum
 refine ak (Yj (ab 0 (ZR (fun fz gz m F h=>∃(k:Nat) (v:Value),(k<=d.cons.length)/\F=sF [0,1] fz [(5,ZV (Vc (Yh (ds.take (t-1).toNat)) k) v),(6,.i k)]/\h=[.tail v 1]/\m=d.cons.length-k) _ _ _ ⟨0,v1,(by first|omega|rfl|(simp<;>omega)|grind [YG,Vc]),rfl,rfl,rfl⟩ (wk [0] (fc (x:=ZV [] v1) (Zk.slh _ (Yp Zi (by first|omega|rfl|(simp<;>omega)|grind [YG,Vc]))) (fc (x:=.i 0) (li (by first|omega|rfl|(simp<;>omega)|grind [YG,Vc])) fl))) ?_)))
 rintro m F h ⟨k,v,ZX,rfl,rfl,rfl⟩
 refine Y8 3 (ia ((((t-1).toNat:Nat):Int)) ((t)-(1)) (Zg (Zq none (((t-1).toNat:Nat):Int) 3 (Vh hd1)) (Z1 2 (iw (Vg d.cons) (ZN ((k:Int)<(d.cons.length:Int)) (fun Zd=>?_) (fun Zd=>?_))))))
 ·exact ak (aq (ab 1 (az (Z1 3 (ia ((((t-1).toNat:Nat):Int)) ((t)-(1)) (ZC [] (IF ds ((t-1).toNat) (hd:=(by first|omega|rfl|(simp<;>omega)|grind [YG,Vc])) (hn:=(by first|omega|rfl|(simp<;>omega)|grind [YG,Vc]))) (Z1 1 (ia ((((Yh (ds.take ((t-1).toNat)))+k:Nat):Int)) ((((Yh (ds.take ((t-1).toNat)):Nat):Int))+((k:Int))) (iL (Zi [(((Yh (ds.take ((t-1).toNat)))+k:Nat):Int)]) 1 1 fun v2=>XX 0 [(32,Ze [(((Yh (ds.take ((t-1).toNat)))+k:Nat):Int)])] (ip 1 (Zi (Vc (Yh (ds.take (t-1).toNat)) k++[(((Yh (ds.take ((t-1).toNat)))+k:Nat):Int)])) (Zi (Vc (Yh (ds.take (t-1).toNat)) k)) (Zi [(((Yh (ds.take ((t-1).toNat)))+k:Nat):Int)]) v none 1 (Wq _) (Wq _) (TY _) (by simp<;>omega) (by simp [TX,Zi]) fun v3=>Z0 (az (Z1 1 (ZK k (Z0 (⟨_,_,_,(by first|omega|rfl|(simp<;>omega)|grind [YG,Vc]),⟨k+1,v3,(by first|omega|rfl|(simp<;>omega)|grind [YG,Vc]),rfl,rfl,rfl⟩,(wk [0] (fc (x:=ZV (Vc (Yh (ds.take (t-1).toNat)) k++[(((Yh (ds.take ((t-1).toNat)))+k:Nat):Int)]) v3) (Zk.slh _ (Yp Zi (OR _ _).symm)) (fc (x:=.i (k+1:Nat)) (li (by first|omega|rfl|(simp<;>omega)|grind [YG,Vc])) fl)))⟩)))))))))))))))
 exact ax 0 (ar (Z7 (r2 [0] [ZV (Vc (Yh (ds.take (t-1).toNat)) k) v] ⟨v,rfl,rfl⟩ (Zk.slh _ (Yp Zi (by rw [YG,Z6 Z5,hd1,show k=d.cons.length by omega];rfl))))))
theorem Zb6 (ds:List Zs) (frm:Int) (to_:Int) (hl_ds:ds.length<=4294967296:=by exact ob):Za 281 [ZI ds,.i frm,.i to_] [] (ZP (.i (T9 ds frm to_))):=by
 refine Zx 41 Tryz.func281 (Zf (Yj (ab 0 (ZR (fun fz gz m F h=>∃(k:Nat),(k<=ds.length)/\(QC frm to_ (ds.drop k) k=T9 ds frm to_)/\F=sF [0,1,2] fz [(7,.i k)]/\h=gz/\m=ds.length-k) _ _ _ ⟨0,ob,ob,rfl,rfl,rfl⟩ (wk [] (ZT fl)) ?_))))
 rintro m F h ⟨k,ZX,Z9,rfl,rfl,rfl⟩
 refine Y8 2 (iw (Vw ds) (ZN ((k:Int)<(ds.length:Int)) (fun Z5=>?_) (fun Z5=>?_)))
 ·refine ak (aq (ab 1 (ZM 2 ?_)))
  obtain ⟨x1,Z2⟩:=Zv ds k om
  refine Zg (Zq none (k:Int) 3 (Vh Z2)) (Z1 2 (iw (Vg x1.cons) (Xz 16 [0,1,2,7] [(29,.b (((x1.cons.length:Int)==0)&&(x1.frm==frm)))] (fun gz=>gz) ?_ (fun hj1=>?_))))
  ·refine W7 [0,1,2,7] [(38,.b ((((x1.cons.length:Int)==0)&&(x1.frm==frm))&&(x1.to_==to_)))] (fun gz=>gz) ?_ ?_
   ·refine Z1 1 (ib (b:=(((x1.cons.length:Int)==0)&&(x1.frm==frm))) 30 (fun Zb=>?_) (fun Zb=>?_))
    ·have Ya:((x1.cons.length:Int)=0)/\(x1.frm=frm):=((Yy Zr Zr)).1 Zb
     exact Z1 2 (Zg (Zq none (k:Int) 3 (Vh Z2)) (Z0 (wk [] (Zp (x1.to_==to_) Zb fl))))
    have YT:¬(((x1.cons.length:Int)=0)/\(x1.frm=frm)):=ZZ (Yy Zr Zr) Zb
    exact Z0 (wk [] (Zp false Zb fl))
   refine ac ((((x1.cons.length:Int)==0)&&(x1.frm==frm))&&(x1.to_==to_)) (p:=(((x1.cons.length:Int)=0)/\(x1.frm=frm))/\(x1.to_=to_)) (Yy (Yy Zr Zr) Zr) (fun Zd=>?_) (fun Zd=>?_)
   ·refine ZM 1 (ZK k (Z0 ?_))
    rw [ZH Z2] at Z9
    exact ZG (Zo (.i (k+1:Nat)) (li (by clear Z2;first|rfl|omega|grind [QC])))
   refine ak (az (Z1 1 (ZK k (Z0 ?_))))
   have hdr:=ZH Z2
   exact ZJ ⟨k+1,ob,(by rw [hdr] at Z9;clear hdr Z2;grind [QC]),rfl,rfl,rfl⟩ (wk [] (ZL k fl))
  refine Z1 2 (ib (b:=((x1.cons.length:Int)==0)) 21 (fun ZD=>?_) (fun ZD=>?_))
  ·have Xy:(x1.cons.length:Int)=0:=(Zr).1 ZD
   exact Z1 2 (Zg (Zq none (k:Int) 3 (Vh Z2)) (Z1 5 (Yb (wk [] (Zp (x1.frm==frm) ZD fl)) hj1)))
  have XE:¬((x1.cons.length:Int)=0):=ZZ Zr ZD
  exact Z1 8 (Yb (wk [] (Zp false ZD fl)) hj1)
 refine ax 0 (Zf ?_)
 try rw [YR (xs:=ds) (k:=k) om] at Z9
 exact ZG (Zo (.i (-1)) (li (by first|rfl|omega|grind [QC])))
theorem Rb (ds:List Zs) (t:Int) (hd:Wy ds:=by exact ob):Za 235 [ZI ds,.i t] [] (ZP (.b (XK ds t))):=by
 have hdn:=hd.len
 refine Zx 19 Tryz.func235 (Zf (ZM 2 (iw (Vw ds) (ZC [] (Tg t 1 (ds.length:Int)) (Z1 1 (ib (b:=(decide (1<=t/\t<=(ds.length:Int)))) 9 (fun Zb=>?_) (fun Zb=>?_)))))))
 ·have Ya:1<=t/\t<=(ds.length:Int):=(dq).1 Zb
  refine Z1 2 (ia ((t-1)) ((t)-(1)) ?_)
  obtain ⟨x1,Z2⟩:=Zv ds ((t-1).toNat) om
  exact Zg (Zq none (t-1) 3 (Vh Z2)) (Z1 2 (iw (Vg x1.cons) (Z7 (Zo (.b ((x1.cons.length:Int)==0)) (lb (by first|omega|rfl|(rw [Ex Ya Z2])|exact Hk YT))))))
 have YT:¬(1<=t/\t<=(ds.length:Int)):=ZZ dq Zb
 exact Z7 (Zo (.b false) (lb (by first|omega|rfl|(rw [Ex Ya Z2])|exact Hk YT)))
theorem Zbh (xs:LI) (ys:LI) (hl:xs.length+ys.length<=4294967296:=by exact ob):Za 170 [Ze xs,Ze ys] [] (fun r h=>∃(v:Value),r=ZV (xs++ys) v/\h=[.tail v 1]):=by
 refine Zx 9 Tryz.func170 (Zf (ZM 1 (ic [] (At xs) ?_)))
 rintro _ _ ⟨v1,rfl,rfl⟩
 exact Z1 1 (ip 0 (Zi (xs++ys)) (Zi xs) (Zi ys) v1 none 1 (Wq _) (Wq _) (TY _) (by simp<;>omega) (by simp [TX,Zi]) fun v2=>Z7 (r1 [0] ⟨v2,rfl,rfl⟩))
theorem R5 (ds:List Zs) (xs:LI) (hl_ds:ds.length<=4294967296:=by exact ob) (hl_xs:xs.length<=4294967296:=by exact ob):Za 127 [ZI ds,Ze xs] [] (ZP (.b (XP ds.length xs))):=by
 refine Zx 20 Tryz.func127 (Zf (Yj (ab 0 (ZR (fun fz gz m F h=>∃(k:Nat),(k<=xs.length)/\(XP ds.length (xs.drop k)=XP ds.length xs)/\F=sF [0,1] fz [(5,.i k)]/\h=gz/\m=xs.length-k) _ _ _ ⟨0,ob,ob,rfl,rfl,rfl⟩ (wk [] (ZT fl)) ?_))))
 rintro m F h ⟨k,ZX,Z9,rfl,rfl,rfl⟩
 refine Y8 2 (iw (Yk xs) (ZN ((k:Int)<(xs.length:Int)) (fun Z5=>?_) (fun Z5=>?_)))
 ·refine ak (aq (ab 1 (ZM 2 ?_)))
  obtain ⟨x1,Z2⟩:=Zv xs k om
  refine Zg (Zq none (k:Int) 1 (Yc Z2)) (Z1 2 (iw (Vw ds) (ZC [] (Tg x1 0 (ds.length:Int)) (Yt (!(decide (0<=x1/\x1<=(ds.length:Int)))) (p:=¬(0<=x1/\x1<=(ds.length:Int))) (Yi dq) (fun Zd=>?_) (fun Zd=>?_)))))
  ·refine Zf ?_
   rw [ZH Z2] at Z9
   exact ZG (Zo (.b false) (lb (by clear Z2;first|rfl|omega|grind [XP])))
  refine ak (az (Z1 1 (ZK k (Z0 ?_))))
  have hdr:=ZH Z2
  exact ZJ ⟨k+1,ob,(by rw [hdr] at Z9;clear hdr Z2;grind [XP]),rfl,rfl,rfl⟩ (wk [] (ZL k fl))
 refine ax 0 (Zf ?_)
 try rw [YR (xs:=xs) (k:=k) om] at Z9
 exact ZG (Zo (.b true) (lb (by first|rfl|omega|grind [XP])))
end Go.Abs
