/-
  A part of the proof of FnBalancedUptoSaid (see the last file): no condition.
-/
import Derived.Test.YtjmahledcmocoaaGreatBalA
import Derived.Test.YtjmahledcmocoaaGreatRows
import Derived.Deep.Slices
import Derived.ChangeArms
set_option linter.all false
set_option linter.unusedVariables false
set_option linter.unusedSimpArgs false
set_option linter.unusedSectionVars false
set_option maxRecDepth 10000
set_option maxHeartbeats 4000000
namespace Go.Abs
theorem Jm.mono {w:World} {G G':Y7} {v:Value} {k:Nat} {ls:List AV} (hA:VQ G w w G') (h:Jm w G v k ls):Jm w G' v k ls:=by
 rcases h with ⟨rfl,h0⟩|⟨g,len,cap,cur,el,rfl,h1,h2,h3,h4,h5⟩
 ·exact .inl ⟨rfl,h0⟩
 ·exact .inr ⟨g,len,cap,cur,el,rfl,h1,h2,h3,h4,h5.mono hA⟩
theorem TV.same {w:World} {G G':Y7} {r:Res} (hA:VQ G w w G') (h:TV w G r):TV w G' r:=by
 cases r with
 | obj b ls=>obtain ⟨cs,e,h1,h2⟩:=h;exact ⟨cs,e,h1,h2.mono hA⟩
 | tail v k=>exact h
 | ge s=>exact h
 | vec v ls=>
  rcases h with ⟨rfl,h0⟩|⟨g,cap,cur,el,rfl,h1,h2,h3,h4⟩
  ·exact .inl ⟨rfl,h0⟩
  ·exact .inr ⟨g,cap,cur,el,rfl,h1,h2,h3,h4.mono hA⟩
 | many ts=>exact h
 | own B m=>exact h
 | row v k ls=>exact h.mono hA
theorem Yr.alloc_rrow {w:World} {G:Y7} {h:List Res} (hh:Yr w G h) (cs:Array Value) (t:TypeId) {ls:List AV} {len cap k:Nat} (hcap:len<=cap) (Xl:cs.size=cap*k) (hl:ls.length=len*k)
  (hls:YP w G ls (cs.toList.take (len*k))) :
  Yr (w.alloc (.cells cs t)) G (.row (.slice (some ⟨w.heap.size,0,none⟩) len cap) k ls::h)/\YU w G h (w.alloc (.cells cs t)) G (.row (.slice (some ⟨w.heap.size,0,none⟩) len cap) k ls::h):=by
 have hA:VQ G w (w.alloc (.cells cs t)) G:=⟨fun b j hg=>Dg w _ (hh.lt b j hg),fun _ _ h=>h⟩
 refine hh.alloc (.cells cs t) (h':=[.row (.slice (some ⟨w.heap.size,0,none⟩) len cap) k ls]) (fun _ _ h=>h) (fun _ _ h=>.inl h) ?_ ?_ (Bm _ _) ?_
 ·intro r hr
  rw [XB.1 hr]
  exact .inr ⟨_,len,cap,cs,t,rfl,Cv w _,hcap,Xl,hl,hls.mono hA⟩
 ·intro r hr b j hf
  rw [XB.1 hr] at hf
  exact hf
 ·intro r hr b j hf hg
  rw [XB.1 hr] at hf
  have:=hh.lt b j hg
  have:b=w.heap.size:=hf
  omega
theorem Yr.rwrite {w:World} {G:Y7} {h2:List Res} {g len cap k:Nat} {ls ls':List AV} (hh:Yr w G (.row (.slice (some ⟨g,0,none⟩) len cap) k ls::h2)) {cs cs':Array Value} {e:TypeId}
  (hb:w.heap[g]? = some (.cells cs e (0,0))) (Xl:cs'.size=cs.size) (hle:len<=cap) (hcap:cs.size=cap*k) (hl:ls'.length=len*k) (hls:YP w G ls' (cs'.toList.take (len*k))) :
  Yr (w.setRow g cs') G (.row (.slice (some ⟨g,0,none⟩) len cap) k ls'::h2) /\
   YU w G (.row (.slice (some ⟨g,0,none⟩) len cap) k ls::h2) (w.setRow g cs') G (.row (.slice (some ⟨g,0,none⟩) len cap) k ls'::h2):=by
 have hmem:Res.row (.slice (some ⟨g,0,none⟩) len cap) k ls∈Res.row (.slice (some ⟨g,0,none⟩) len cap) k ls::h2:=Xh ..
 have hA:VQ G w (w.setRow g cs') G:=⟨fun c j hg=>by
  have hne:c≠g:=fun he=>hh.prot _ hmem c j he hg
  simp [World.cell?,VN w g c cs' hne],fun _ _ h=>h⟩
 have hpw:=WJ.1 hh.apart
 have hother:∀r∈h2,∀c j,r.fp c j->c≠g:=fun r hr c j hf hc=>hpw.1 r hr c j hc hf
 have e1:YU w G [.row (.slice (some ⟨g,0,none⟩) len cap) k ls] (w.setRow g cs') G [.row (.slice (some ⟨g,0,none⟩) len cap) k ls']:=by
  refine ⟨rfl,rfl,rfl,by simp [World.setRow],fun _ _ h=>h,?_,fun _ _ _ h=>.inl h,?_⟩
  ·intro c hc
   by_cases hcb:c=g
   ·subst hcb
    exact .inr ⟨cs,cs',e,(0,0),hb,setRow_heap w c cs cs' e (0,0) hb,Xl,fun j hj=>absurd ⟨_,Xh ..,rfl⟩ hj⟩
   ·exact .inl (VN w g c cs' hcb)
  ·rintro c j _ ⟨r,hr,hf⟩
   rw [XB.1 hr] at hf
   exact ⟨_,Xh ..,hf⟩
 have e2:Yr (w.setRow g cs') G [.row (.slice (some ⟨g,0,none⟩) len cap) k ls']:=by
  refine ⟨fun r hr=>?_,Bm _ _,fun r hr c j hf hg=>?_,fun c j hg=>?_⟩
  ·rw [XB.1 hr]
   exact .inr ⟨g,len,cap,cs',e,rfl,setRow_heap w g cs cs' e (0,0) hb,hle,Xl.trans hcap,hl,hls.mono hA⟩
  ·rw [XB.1 hr] at hf
   exact hh.prot _ hmem c j hf hg
  ·have:=hh.lt c j hg
   simpa [World.setRow] using this
 exact Yr.frame (h:=[.row (.slice (some ⟨g,0,none⟩) len cap) k ls]) (k:=h2) hh e1 e2
theorem Zah {w:World} {G:Y7} {h:List Res} {k:Nat} (hh:Yr w G h):Yr w G (.row (.slice none 0 0) k []::h)/\YU w G h w G (.row (.slice none 0 0) k []::h):=
 ⟨⟨fun r hr=>by
   rcases YG.1 hr with rfl|hr
   ·exact .inl ⟨rfl,rfl⟩
   ·exact hh.ok r hr,WJ.2 ⟨fun _ _ _ _ hf=>hf.elim,hh.apart⟩,fun r hr b o hf hg=>by
   rcases YG.1 hr with rfl|hr
   ·exact hf.elim
   ·exact hh.prot r hr b o hf hg,hh.lt⟩,
  ⟨rfl,rfl,rfl,X4 _,fun _ _ h=>h,fun _ _=>.inl rfl,fun _ _ _ h=>.inl h,fun b o _ ⟨r,hr,hf⟩=>by
   rcases YG.1 hr with rfl|hr
   ·exact hf.elim
   ·exact ⟨r,hr,hf⟩⟩⟩
theorem Jm.form {w:World} {G:Y7} {v:Value} {k:Nat} {ls:List AV} (h:Jm w G v k ls):∃a len cap,v=.slice a len cap/\ls.length=len*k:=by
 rcases h with ⟨rfl,rfl⟩|⟨g,len,cap,cur,e,rfl,_,_,_,h4,_⟩
 ·exact ⟨none,0,0,rfl,by simp⟩
 ·exact ⟨_,len,cap,rfl,h4⟩
theorem BX {w:World} {G:Y7} {v:Value} {k:Nat} {es:List AV} {h2:List Res} (hh:Yr w G (.row v k (Zl es)::h2)) (hes:∀y∈es,y.leaves.length=k) (hk:0<k) :
  ∃G',Yr w G' (.tail v k::h2)/\YU w G (.row v k (Zl es)::h2) w G' (.tail v k::h2)/\RV w G' (.sl es (some v)) v:=by
 have hpw:=WJ.1 hh.apart
 have hfl:=TC es hes
 rcases hh.ok _ (Xh ..) with ⟨rfl,h0⟩|⟨g,len,cap,cur,e,rfl,h1,h3,h4,h5,h6⟩
 ·have hes0:es=[]:=by
   cases es with
   | nil=>rfl
   | cons y r=>
    have h7:0<(r.length+1)*k:=Nat.mul_pos om hk
    rw [h0,YS] at hfl
    rw [<-hfl] at h7
    simp at h7
  subst hes0
  obtain ⟨k1,k2⟩:=Lx (sz:=k) (hh.sub (Bn _ _))
  refine ⟨G,k1,⟨rfl,rfl,rfl,X4 _,fun _ _ h=>h,fun _ _=>.inl rfl,fun _ _ _ h=>.inl h,?_⟩,.nil (by simp)⟩
  rintro b o _ ⟨r,hr,hf⟩
  rcases YG.1 hr with rfl|hr
  ·exact hf.elim
  ·exact ⟨r,XA _ hr,hf⟩
 ·have hlen:len=es.length:=Gx hk (h5.symm.trans hfl)
  subst hlen
  let G':Y7:=fun b o=>G b o∨(b=g/\o<es.length*k)
  have hA:VQ G w w G':=⟨fun _ _ _=>rfl,fun _ _ h=>.inl h⟩
  have hmem:Res.row (.slice (some ⟨g,0,none⟩) es.length cap) k (Zl es)∈Res.row (.slice (some ⟨g,0,none⟩) es.length cap) k (Zl es)::h2:=Xh ..
  refine ⟨G',⟨fun r hr=>?_,WJ.2 ⟨fun r hr b o f1 f2=>hpw.1 r hr b o f1.1 f2,hpw.2⟩,fun r hr b o hf hg=>?_,fun b o hg=>?_⟩,
   ⟨rfl,rfl,rfl,X4 _,fun _ _ h=>.inl h,fun _ _=>.inl rfl,fun b o _ hg=>hg.imp id fun ⟨e1,_⟩=>⟨_,hmem,e1⟩,?_⟩,?_⟩
  ·rcases YG.1 hr with rfl|hr
   ·exact .inr ⟨g,es.length,cap,cur,e,rfl,h1,h3,h4⟩
   ·exact (hh.ok r (XA _ hr)).same hA
  ·rcases YG.1 hr with rfl|hr2
   ·obtain ⟨hbg,hf2⟩:=hf
    rcases hg with hg|⟨_,hg⟩
    ·exact hh.prot _ hmem b o hbg hg
    ·omega
   ·rcases hg with hg|⟨hbg,_⟩
    ·exact hh.prot r (XA _ hr2) b o hf hg
    ·exact hpw.1 r hr2 b o hbg hf
  ·rcases hg with hg|⟨rfl,_⟩
   ·exact hh.lt b o hg
   ·exact (UH.1 h1).1
  ·rintro b o _ ⟨r,hr,hf⟩
   rcases YG.1 hr with rfl|hr
   ·exact ⟨_,hmem,hf.1⟩
   ·exact ⟨r,XA _ hr,hf⟩
  ·refine .sl (k:=k) (fun x hx=>by cases hx;rfl) h3 (Vc.of_flat es hes (Wm.of_cells (h6.mono hA) fun j u hj=>?_))
   have hjl:j<es.length*k:=by
    have:=(Xn.1 hj).1
    have h7:=h6.length
    omega
   rw [TG,Ze hjl] at hj
   refine ⟨?_,.inr ⟨rfl,by omega⟩⟩
   rw [Vb,cell_of_row w g j cur e (0,0) h1]
   simpa using hj
section
variable {P:Program} {n:Nat} {ops:Array Oper} {B:Fr->List Res->Prop} {k:Nat} {F:Fr} {h h2:List Res}
theorem RR {k:Nat}:Tm h (.row (.slice none 0 0) k []::h):=fun _ _ hh=>let ⟨a,b⟩:=Zah hh;⟨_,a,b⟩
theorem Zd7 (j:Nat) {v:Value} {kk m:Nat} {ls:List AV} (hl:CF P ops F k=some (.val v)) (hj:h[j]? = some (.row v kk ls)) (hm:ls.length=m*kk) (hk:0<kk):Xs P (ZA ops k) F h [] (.val (.int .i64 m)):=by
 unfold CF at hl
 generalize hoo:ZA ops k=o at hl
 obtain ⟨dst,op,type,pos,after,guard⟩:=o
 cases op<;>simp only at hl<;>try (cases hl)
 rename_i c
 obtain ⟨callee,args,tys⟩:=c
 simp only at hl
 split at hl
 ·rename_i x t hargs htys
  split at hl
  ·rename_i el hu
   simp only [Wc] at hl
   intro n w G a hF hh
   have hv:=hF.ev x
   rw [hl] at hv
   have hv:=hv.val_inv
   obtain ⟨ad,len,cap,rfl,hlen⟩:=Jm.form (hh.ok _ (Y4 hj))
   have:len=m:=Gx hk (hlen.symm.trans hm)
   subst this
   have e1:args=#[x]:=by rw [<-U1 (xs:=args),hargs]
   have e2:tys=#[t]:=by rw [<-U1 (xs:=tys),htys]
   subst e1;subst e2
   exact ⟨_,.val,fun w' _ _=>by simp [execOp,resolve,invoke,builtin,hv,Builtin.len_,Vn hu,goInt]⟩
  ·cases hl
 ·cases hl
def Is (ops:Array Oper) (F:Fr) (k:Nat):Option (TypeId × AV):=
 match (ZA ops k).op with
 | .load t x=>some (t,F.ev x)
 | _=>none
theorem Zd8 (j:Nat) {g len cap kk o:Nat} {ls zs:List AV} {t:TypeId} {y:AV} (hl:Is ops F k=some (t,.val (.pointer (some ⟨g,o,none⟩)))) (hj:h[j]? = some (.row (.slice (some ⟨g,0,none⟩) len cap) kk ls))
  (hz:(ls.drop o).take zs.length=zs) (hy:Ah P t zs=some y):Xs P (ZA ops k) F h [g] y:=by
 unfold Is at hl
 generalize hoo:ZA ops k=q at hl
 obtain ⟨dst,op,type,pos,after,guard⟩:=q
 cases op<;>simp only at hl<;>try (cases hl)
 rename_i t' x
 intro n w G a hF hh
 simp only [Wc,Prod.mk.injEq] at hl
 obtain ⟨rfl,hl⟩:=hl
 have hv:=hF.ev x
 rw [hl] at hv
 have hv:=hv.val_inv
 rcases hh.ok _ (Y4 hj) with ⟨h0,_⟩|⟨g',len',cap',cur,e,h0,h1,h2,h3,h4,h5⟩
 ·cases h0
 ·cases h0
  have hc:=(h5.drop o).take zs.length
  rw [hz] at hc
  obtain ⟨v,j1,j2⟩:=FQ (P:=P) (b:=g) (o:=o) hy hc
  refine ⟨v,j1,fun w' _ hw=>?_⟩
  have hrow:=hw g (by simp)
  rw [h1] at hrow
  simp only [execOp,hv]
  refine V3 ?_
  simp only [Instr.loadAt,Instr.sureAddr,Sem.run_bind,Sem.run_pure,Result.andThen_ok]
  refine j2 w' fun j u hj=>?_
  rw [cell_of_row w' g (o+j) cur e (0,0) hrow]
  rw [TG] at hj
  split at hj
  ·rw [Bh,TG] at hj
   split at hj
   ·simpa using hj
   ·cases hj
  ·cases hj
theorem Pd {K:Fr->List Res->Prop} {g len cap kk:Nat} {ls xs:List AV} {i:Nat} (hs:storeAt P ops F k=some (g,i,xs)) (hlt:i+xs.length<=ls.length)
  (hK:K F (.row (.slice (some ⟨g,0,none⟩) len cap) kk (ls.take i++xs++ls.drop (i+xs.length))::h2)):Wt P n (ZA ops k) F (.row (.slice (some ⟨g,0,none⟩) len cap) kk ls::h2) K:=by
 unfold storeAt at hs
 generalize hoo:ZA ops k=q at hs
 obtain ⟨dst,op,type,pos,after,guard⟩:=q
 cases op<;>simp only at hs<;>try (cases hs)
 rename_i t x z
 split at hs
 ·rename_i b' o' inf hx hi
  split at hs
  ·rename_i hc
   simp only [W2] at hc
   simp only [Wc,Prod.mk.injEq] at hs
   obtain ⟨rfl,rfl,hz⟩:=hs
   intro Q w G a hF hh
   have hvx:=hF.ev x
   rw [hx] at hvx
   have hvx:=hvx.val_inv
   have hvy:=hF.ev z
   have hcs:=hvy.cells hc.2.1
   rw [hz] at hcs hc
   have hone:=hcs.one_cells hc.2.2
   have Xl:inf.size=xs.length:=Ux hc.1
   have hlen:(a.eval z).cells.size=xs.length:=by have:=hcs.length;simpa using this
   rcases hh.ok (.row (.slice (some ⟨b',0,none⟩) len cap) kk ls) (Xh ..) with ⟨h0,_⟩|⟨g',len',cap',cur,e,h0,h1,h2',h3,h4,h5⟩
   ·cases h0
   ·cases h0
    have hlc:len*kk<=cap*kk:=Qt _ h2'
    have hst:=run_storeCells_at P b' o' e (a.eval z).cells.toList 0 cur w h1 (by simp [hlen];omega) hone
    simp only [C5,Kl] at hst
    have hr:(execOp a.eval { dst:=none,op:=.store t x z,type:=type,pos:=pos,after:=after,guard:=guard }).run P w =
      .ok .skip (w.setRow b' (cur.toList.take o'++(a.eval z).cells.toList++cur.toList.drop (o'+(a.eval z).cells.size)).toArray):=by
     simp only [execOp,hvx]
     simp [Instr.storeAt,Instr.sureAddr,storeVar,Q9 hi,hlen,Xl,hst]
    unfold Oper.wp
    rw [hr]
    have hcl:(a.eval z).cells.toList.length=xs.length:=by simpa using hlen
    obtain ⟨j1,j2⟩:=hh.rwrite (ls':=ls.take o'++xs++ls.drop (o'+xs.length)) (cs':=(cur.toList.take o'++(a.eval z).cells.toList++cur.toList.drop (o'+(a.eval z).cells.size)).toArray) h1
     (by simp [hlen];omega) h2' h3 (by simp;omega) (by
      rw [D5,hlen]
      have e1:(cur.toList.take o'++(a.eval z).cells.toList++cur.toList.drop (o'+xs.length)).take (len*kk) =
        (cur.toList.take (len*kk)).take o'++(a.eval z).cells.toList++(cur.toList.take (len*kk)).drop (o'+xs.length):=by
       have q1:(cur.toList.take o'++(a.eval z).cells.toList).length=o'+xs.length:=by simp [hlen];omega
       rw [List.take_append,q1,Vi om,List.take_take,VG om,List.drop_take]
      rw [e1]
      exact ((h5.take o').append hcs).append (h5.drop _))
    refine ⟨F,_,G,hK,?_,j1,j2⟩
    have:=hF.mono (j2.agree hh)
    simpa [Act.put] using this
  ·cases hs
 ·cases hs
theorem Z9f {K:Fr->List Res->Prop} {sz:Nat} (hd:Vq n (ZA ops k)=true) (ha:Tw P ops F k=some ([],0,sz))
  (hK:∀g,K (F.put (ZA ops k).dst (.val (.slice (some ⟨g,0,none⟩) 0 0))) (.row (.slice (some ⟨g,0,none⟩) 0 0) sz []::h)):Wt P n (ZA ops k) F h K:=by
 unfold Tw at ha
 generalize hoo:ZA ops k=q at ha hd hK
 obtain ⟨dst,op,type,pos,after,guard⟩:=q
 cases op<;>simp only at ha<;>try (cases ha)
 rename_i t ln parts
 split at ha
 case h_2=>cases ha
 rename_i e ht
 split at ha
 case h_2=>cases ha
 rename_i i hi
 split at ha
 case h_2=>cases ha
 rename_i hc
 simp only [W2] at hc
 split at ha
 case h_2=>cases ha
 rename_i ls' hf
 simp only [Wc,Prod.mk.injEq] at ha
 obtain ⟨rfl,rfl,Xl⟩:=ha
 intro Q w G a hF hh
 obtain ⟨cs,h1,h2⟩:=FP hF parts ht hi rfl hc.1 hc.2 hf
 have hr:(execOp a.eval { dst:=dst,op:=.buildSlice t 0 parts,type:=type,pos:=pos,after:=after,guard:=guard }).run P w =
   .ok (.value (.slice (some ⟨w.heap.size,0,none⟩) 0 0)) (w.alloc (.cells cs e)):=by
  simp only [execOp]
  exact V3 h2
 unfold Oper.wp
 rw [hr]
 have hlc:=h1.length
 simp only [Kl] at hlc
 obtain ⟨j1,j2⟩:=hh.alloc_rrow cs e (ls:=[]) (len:=0) (cap:=0) (k:=sz) (X4 _) (by simpa using hlc) (by simp) (by simpa using YP.nil)
 exact ⟨_,_,G,hK _,(hF.mono (j2.agree hh)).put (UM hd) .val,j1,j2⟩
theorem Z9d {K:Fr->List Res->Prop} {g sz:Nat} {xs:List AV} {hx:Option Value} (hd:Vq n (ZA ops k)=true) (ha:Uy P ops F k=some (.val (.slice (some ⟨g,0,none⟩) 0 0),.sl xs hx,sz))
  (hxs:∀y∈xs,y.leaves.length=sz) (hbound:xs.length<=4294967296)
  (hK:∀v:Hd,K (F.put (ZA ops k).dst (.val v.v)) (.row v.v sz (Zl xs)::h2)):Wt P n (ZA ops k) F (.row (.slice (some ⟨g,0,none⟩) 0 0) sz []::h2) K:=by
 unfold Uy at ha
 generalize hoo:ZA ops k=o at ha hd hK
 obtain ⟨dst,op,type,pos,after,guard⟩:=o
 cases op<;>simp only at ha<;>try (cases ha)
 rename_i c
 obtain ⟨callee,args,tys⟩:=c
 simp only at ha
 split at ha
 case h_2=>cases ha
 rename_i s x t t' hargs htys
 split at ha
 case h_2=>cases ha
 rename_i e htt ht
 have:=Ux htt
 subst this
 split at ha
 case h_2=>cases ha
 rename_i i hinfo
 split at ha
 case h_2=>cases ha
 rename_i z hz
 split at ha
 case h_2=>cases ha
 rename_i hb
 simp only [W2] at hb
 simp only [Wc,Prod.mk.injEq] at ha
 obtain ⟨h3,h4,hk1⟩:=ha
 have e1:args=#[s,x]:=by rw [<-U1 (xs:=args),hargs]
 have e2:tys=#[t,t]:=by rw [<-U1 (xs:=tys),htys]
 subst e1;subst e2
 have hzs:z.cells.size=sz:=by rw [Ux hb.1,hk1]
 have hby:=V5 hb.2
 intro Q w G a hF hh
 have v1:=hF.ev s
 have v2:=hF.ev x
 rw [h3] at v1
 rw [h4] at v2
 have v1:=v1.val_inv
 have v2:=v2.forget
 have finish:∀(v':Hd) w',(Builtin.append_ #[t,t] type #[.slice (some ⟨g,0,none⟩) 0 0,a.eval x]).run P w=.ok v'.v w'->Yr w' G (.row v'.v sz (Zl xs)::h2) ->
   YU w G (.row (.slice (some ⟨g,0,none⟩) 0 0) sz []::h2) w' G (.row v'.v sz (Zl xs)::h2) ->
   ({ dst:=dst,op:=.call { callee:=.builtin .append,args:=#[s,x],argTypes:=#[t,t] },type:=type,pos:=pos,after:=after,guard:=guard }:Oper).wp P a w
    (fun a' w'=>∃F' h' G',K F' h'/\FR w' G' n F' a'/\Yr w' G' h'/\YU w G (.row (.slice (some ⟨g,0,none⟩) 0 0) sz []::h2) w' G' h') Q:=by
  intro v' w' hr j1 j2
  have hrun:(execOp a.eval { dst:=dst,op:=.call { callee:=.builtin .append,args:=#[s,x],argTypes:=#[t,t] },type:=type,pos:=pos,after:=after,guard:=guard }).run P w=.ok (.value v'.v) w':=by
   simp only [execOp,resolve,invoke,builtin,Sem.run_bind,Sem.run_pure,Result.andThen_ok,Bk,Ul,Bj,v1,hr]
  unfold Oper.wp
  rw [hrun]
  exact ⟨_,_,G,hK v',(hF.mono (j2.agree hh)).put (UM hd) .val,j1,j2⟩
 by_cases hxe:xs=[]
 ·subst hxe
  cases v2q:a.eval x with
  | slice ad' l' c'=>
   rw [v2q] at v2
   cases v2<;>exact finish ⟨some ⟨g,0,none⟩,0,0⟩ _ (by rw [v2q];exact CP ht hinfo (X4 _) w) hh (YU.refl w G _)
  | _=>rw [v2q] at v2;cases v2
 ·generalize hax:a.eval x=ax at v2 finish
  cases v2 with
  | nil _=>exact absurd rfl hxe
  | sl hq hcc hm=>
   rename_i b o' k' c
   have hpos:0<xs.length:=Gv.2 hxe
   have hfm:=hm.flat_mem
   obtain ⟨news,hn,hnc⟩:=hfm.cells
   have hfl:=TC xs hxs
   have hnl:news.length=xs.length*i.size:=by rw [hn.length,hfl,hk1]
   have hnews:∀j u,news[j]? = some u->w.cell? ((⟨b,o',none⟩:Addr).add j)=some u:=fun j u hj=>by rw [Kt];exact (hnc j u hj).1
   have hbb:(0+xs.length)*i.bytes<=140737488355328:=by
    have:=Nat.mul_le_mul hbound hby
    rw [Vb]
    omega
   have hr:=run_append_grow (P:=P) w t type e i z ht hinfo hz ⟨g,0,none⟩ 0 0 [] (by simp) (fun j u hj=>by simp at hj) ⟨b,o',none⟩ xs.length c news hnl hnews om om (growslice_fits om hbb)
   simp only [Vb] at hr
   have Xc:=grownCap_ge w xs.length 0 e
   obtain ⟨j1,j2⟩:=hh.drew.alloc_rrow ([].toArray++news.toArray++Builtin.zeroCells z.cells (grownCap w xs.length 0 e-xs.length)) e
    (ls:=Zl xs) (len:=xs.length) (cap:=grownCap w xs.length 0 e) (k:=sz) Xc
    (by
     have q2:(grownCap w xs.length 0 e-xs.length)*sz=grownCap w xs.length 0 e*sz-xs.length*sz:=Nat.sub_mul ..
     have q3:xs.length*sz<=grownCap w xs.length 0 e*sz:=Qt _ Xc
     simp only [Array.size_append,D4,size_zeroCells,hzs,Xt,Vb,hnl,hk1]
     omega) hfl
    (by
     have q1:([].toArray++news.toArray++Builtin.zeroCells z.cells (grownCap w xs.length 0 e-xs.length)).toList.take (xs.length*sz)=news:=by
      simp only [CZ,Bl]
      rw [<-hk1,<-hnl]
      exact JN
     rw [q1]
     exact hn.mono (AB w G))
   have hs:List.Sublist (.row (.slice (some ⟨w.drew.heap.size,0,none⟩) xs.length (grownCap w xs.length 0 e)) sz (Zl xs)::h2)
     (.row (.slice (some ⟨w.drew.heap.size,0,none⟩) xs.length (grownCap w xs.length 0 e)) sz (Zl xs)::.row (.slice (some ⟨g,0,none⟩) 0 0) sz []::h2):=List.Sublist.cons_cons _ (Bn _ _)
   exact finish ⟨some ⟨w.heap.size,0,none⟩,xs.length,grownCap w xs.length 0 e⟩ _ hr (j1.sub hs) ((YU.drew w G _).trans (j2.sub' hs))
theorem PB {w:World} {G:Y7} {v:Hd} {kk m:Nat} {ls:List AV} (h:Jm w G v.v kk ls) (hm:ls.length=m*kk) (hk:0<kk) (h0:0<m):∃g c,v=⟨some ⟨g,0,none⟩,m,c⟩:=by
 obtain ⟨a,l,c⟩:=v
 rcases h with ⟨h1,h2⟩|⟨g,len,cap,cur,e,h1,h2,h3,h4,h5,h6⟩
 ·subst h2
  have:=Nat.mul_pos h0 hk
  rw [Xt] at hm
  omega
 ·cases h1
  have:l=m:=Gx hk (h5.symm.trans hm)
  subst this
  exact ⟨g,c,rfl⟩
theorem Ss (t j:Nat) {v:Hd} {kk:Nat} {es:List AV} {c:Code} {A:WY} (hF':F.get t=.h v) (hp:Wi [j] h=some [.row v.v kk (Zl es)]) (hes:∀y∈es,y.leaves.length=kk) (hk:0<kk)
  (H:Yw P n c A ((t,.sl es (some v.v))::F) (.tail v.v kk::XG [j] h)):Yw P n c A F h:=by
 intro w G a hF hh
 have hp':=Uf (Vw hp)
 obtain ⟨G',h1,h2',h3⟩:=BX (hh.perm hp') hes hk
 have e:=h2'.perm hp'.symm (Qb _)
 have hF2:=hF.mono (e.agree hh)
 have hv:=hF2.get t
 rw [hF'] at hv
 have hv:=hv.val_inv
 refine wp_mono (H w G' a ⟨hF2.defers,hF2.size,fun s=>?_⟩ h1) fun e' a' w' hc=>hc.trans e
 show RV w G' (match Nat.beq t s with|true=>_|false=>Fr.get F s) _
 cases hb:Nat.beq t s with
 | true=>
  have:=Ux hb
  subst this
  rw [hv]
  exact h3
 | false=>exact hF2.get s
theorem Zds (j i p:Nat) {u v:Value} {kk kv:Nat} {es ls:List AV} (hp:Wi [j,i] h=some [.row u kk (Zl es),.row v kv ls]) (hes:∀y∈es,y.leaves.length=kk) (hk:0<kk) (hl:ls[p]? = some (.val u)) :
  Tm h (.row v kv (ls.set p (.sl es (some u)))::.tail u kk::XG [j,i] h):=by
 intro w G hh
 have hp':=Uf (Vw hp)
 have hh':=hh.perm hp'
 obtain ⟨G',h1,h2',h3⟩:=BX (h2:=.row v kv ls::XG [j,i] h) hh' hes hk
 have e:=h2'.perm hp'.symm (Qb _)
 have h1:Yr w G' (.tail u kk::.row v kv ls::XG [j,i] h):=h1
 have perm:(Res.tail u kk::.row v kv ls::XG [j,i] h).Perm (.row v kv ls::.tail u kk::XG [j,i] h):=List.Perm.swap ..
 have h4:=h1.perm perm
 have e4:=e.perm (Qb _) perm
 have hset:∀{w:World} {G:Y7},RV w G (.sl es (some u)) u->Jm w G v kv ls->Jm w G v kv (ls.set p (.sl es (some u))):=by
  intro w G hu hr
  rcases hr with ⟨rfl,h0⟩|⟨g,len,cap,cur,el,rfl,k1,k2,k3,k4,k5⟩
  ·exact .inl ⟨rfl,by rw [h0];rfl⟩
  ·refine .inr ⟨g,len,cap,cur,el,rfl,k1,k2,k3,by rw [Uw];exact k4,?_⟩
   obtain ⟨c,c1,c2⟩:=k5.get p _ hl
   have:=c2.val_inv
   subst this
   have h6:=k5.set p hu
   rwa [show (cur.toList.take (len*kv)).set p c=cur.toList.take (len*kv) from by
    apply List.ext_getElem?
    intro q
    rw [List.getElem?_set]
    split
    ·rename_i hq;subst hq;split
     ·exact c1.symm
     ·rename_i hq2;rw [LM om]
    ·rfl] at h6
 refine ⟨G',⟨fun r hr=>?_,?_,fun r hr=>?_,h4.lt⟩,⟨e4.os,e4.tape,e4.output,e4.size,e4.sub,e4.same,e4.newG,fun b o hb ⟨r,hr,hf⟩=>e4.newfp b o hb ?_⟩⟩
 ·rcases YG.1 hr with rfl|hr
  ·exact hset h3 (h4.ok _ (Xh ..))
  ·exact h4.ok r (XA _ hr)
 ·have:=WJ.1 h4.apart
  refine WJ.2 ⟨fun r hr b o f1 f2=>this.1 r hr b o ?_ f2,this.2⟩
  cases v with
  | slice a _ _=>cases a with
   | none=>exact f1.elim
   | some a=>exact f1
  | _=>exact f1.elim
 ·rcases YG.1 hr with rfl|hr
  ·intro b o f1 hg
   refine h4.prot (.row v kv ls) (Xh ..) b o ?_ hg
   cases v with
   | slice a _ _=>cases a with
    | none=>exact f1.elim
    | some a=>exact f1
   | _=>exact f1.elim
  ·exact h4.prot r (XA _ hr)
 ·rcases YG.1 hr with rfl|hr
  ·refine ⟨.row v kv ls,Xh ..,?_⟩
   cases v with
   | slice a _ _=>cases a with
    | none=>exact hf.elim
    | some a=>exact hf
   | _=>exact hf.elim
  ·exact ⟨r,XA _ hr,hf⟩
def Qy:List Res->Option (List (Value × Nat))
 | []=>some []
 | .tail v k::r=>(Qy r).map ((v,k)::·)
 | .many ts::r=>(Qy r).map (ts++·)
 | _=>none
theorem BA {b o:Nat}:∀{hs:List Res} {L:List (Value × Nat)},Qy hs=some L->((∃p∈L,E6 p.1 p.2 b o)↔V0 hs b o)
 | [],L,h=>by cases h;simp [V0]
 | .tail v k::r,L,h=>by
  rw [Qy] at h
  cases hr:Qy r with
  | none=>rw [hr] at h;cases h
  | some L'=>
   rw [hr] at h
   cases h
   have ih:=BA (b:=b) (o:=o) hr
   have ht:Res.fp (.tail v k) b o↔E6 v k b o:=by
    cases v with
    | slice a _ _=>cases a<;>exact Iff.rfl
    | _=>exact Iff.rfl
   simp only [V0,YG,exists_eq_or_imp] at ih ⊢
   rw [ht,ih]
 | .many ts::r,L,h=>by
  rw [Qy] at h
  cases hr:Qy r with
  | none=>rw [hr] at h;cases h
  | some L'=>
   rw [hr] at h
   cases h
   have ih:=BA (b:=b) (o:=o) hr
   simp only [V0,YG,exists_eq_or_imp] at ih ⊢
   rw [<-ih]
   simp only [X8,Res.fp]
   constructor
   ·rintro ⟨p,hp|hp,hf⟩
    ·exact .inl ⟨p,hp,hf⟩
    ·exact .inr ⟨p,hp,hf⟩
   ·rintro (⟨p,hp,hf⟩|⟨p,hp,hf⟩)
    ·exact ⟨p,.inl hp,hf⟩
    ·exact ⟨p,.inr hp,hf⟩
 | .obj _ _::_,_,h=>by cases h
 | .ge _::_,_,h=>by cases h
 | .vec _ _::_,_,h=>by cases h
 | .own _ _::_,_,h=>by cases h
 | .row _ _ _::_,_,h=>by cases h
theorem H1 {w:World} {G:Y7}:∀{hs:List Res} {L:List (Value × Nat)},Qy hs=some L->(∀r∈hs,TV w G r)->hs.Pairwise JS->TV w G (.many L)
 | [],L,h,_,_=>by cases h;exact ⟨by simp,.nil⟩
 | .tail v k::r,L,h,h1,h2=>by
  rw [Qy] at h
  cases hr:Qy r with
  | none=>rw [hr] at h;cases h
  | some L'=>
   rw [hr] at h
   cases h
   have hpw:=WJ.1 h2
   obtain ⟨i1,i2⟩:=H1 (w:=w) (G:=G) hr (fun q hq=>h1 q (XA _ hq)) hpw.2
   refine ⟨fun p hp=>?_,WJ.2 ⟨fun p hp b o f1 f2=>?_,i2⟩⟩
   ·rcases YG.1 hp with rfl|hp
    ·exact h1 (.tail v k) (Xh ..)
    ·exact i1 p hp
   ·obtain ⟨q,hq,hf⟩:=(BA hr).1 ⟨p,hp,f2⟩
    refine hpw.1 q hq b o ?_ hf
    cases v with
    | slice a _ _=>cases a<;>exact f1
    | _=>exact f1
 | .many ts::r,L,h,h1,h2=>by
  rw [Qy] at h
  cases hr:Qy r with
  | none=>rw [hr] at h;cases h
  | some L'=>
   rw [hr] at h
   cases h
   have hpw:=WJ.1 h2
   obtain ⟨i1,i2⟩:=H1 (w:=w) (G:=G) hr (fun q hq=>h1 q (XA _ hq)) hpw.2
   obtain ⟨t1,t2⟩:=h1 (.many ts) (Xh ..)
   refine ⟨fun p hp=>?_,Jl.2 ⟨t2,i2,fun p hp q hq b o f1 f2=>?_⟩⟩
   ·rcases X8.1 hp with hp|hp
    ·exact t1 p hp
    ·exact i1 p hp
   ·obtain ⟨s,hs,hf⟩:=(BA hr).1 ⟨q,hq,f2⟩
    exact hpw.1 s hs b o ⟨p,hp,f1⟩ hf
 | .obj _ _::_,_,h,_,_=>by cases h
 | .ge _::_,_,h,_,_=>by cases h
 | .vec _ _::_,_,h,_,_=>by cases h
 | .own _ _::_,_,h,_,_=>by cases h
 | .row _ _ _::_,_,h,_,_=>by cases h
theorem Zdq (is:List Nat) {L:List (Value × Nat)} {hs:List Res} (hp:Wi is h=some hs) (hb:Qy hs=some L):Tm h (.many L::XG is h):=by
 intro w G hh
 have hp':=Uf (Vw hp)
 have hh':=hh.perm hp'
 have hpw:=Jl.1 hh'.apart
 have hmany:=H1 (w:=w) (G:=G) hb (fun r hr=>hh'.ok r (X8.2 (.inl hr))) hpw.1
 refine ⟨G,⟨fun r hr=>?_,WJ.2 ⟨fun r hr b o f1 f2=>?_,hpw.2.1⟩,fun r hr b o hf hg=>?_,hh'.lt⟩,
  ⟨rfl,rfl,rfl,X4 _,fun _ _ h=>h,fun _ _=>.inl rfl,fun _ _ _ h=>.inl h,fun b o _ ⟨r,hr,hf⟩=>?_⟩⟩
 ·rcases YG.1 hr with rfl|hr
  ·exact hmany
  ·exact hh'.ok r (X8.2 (.inr hr))
 ·exact hh'.cross ((BA hb).1 f1) ⟨r,hr,f2⟩
 ·rcases YG.1 hr with rfl|hr
  ·obtain ⟨q,hq,hf⟩:=(BA hb).1 hf
   exact hh'.prot q (X8.2 (.inl hq)) b o hf hg
  ·exact hh'.prot r (X8.2 (.inr hr)) b o hf hg
 ·refine (AM hp').2 ?_
  rcases YG.1 hr with rfl|hr
  ·exact JB.2 (.inl ((BA hb).1 hf))
  ·exact JB.2 (.inr ⟨r,hr,hf⟩)
end
end Go.Abs
section
namespace Go.Abs
structure Sd where
 fields:LI
 fv:Value
structure Se where
 frm:Int
 to_:Int
 cons:List Sd
 cv:Value
mutual
inductive GG where
 | mk (op num into:Int) (args:LI) (av:Value) (kids:List Ee) (kv:Value)
inductive Ee where
 | mk (steps:List GG) (sv:Value) (result:Int)
end
namespace GG
end GG
namespace Ee
end Ee
structure Sh where
 params:LI
 pv:Value
 lent:LI
 lv:Value
 result:Int
 body:Ee
structure Sf where
 decls:List Se
 dv:Value
 routines:List Sh
 rv:Value
inductive GC:List AV->List AV->Prop
 | nil:GC [] []
 | cons {x y:AV} {xs ys:List AV} (hl:x.leaves.length=y.leaves.length) (h:VR x.leaves y.leaves) (t:GC xs ys):GC (x::xs) (y::ys)
theorem Qj {es:List AV} {k:Nat} (h:es.all (fun y=>Nat.beq y.leaves.length k)=true):∀y∈es,y.leaves.length=k:=fun y hy=>Ux (Jk.1 h y hy)
abbrev rK (g:Hd) (k:Nat) (ls:List AV):Res:=.row g.v k ls
section
variable {P:Program} {n:Nat} {c:Code} {A:WY} {F:Fr} {h:List Res} {ops:Array Oper} {B:Fr->List Res->Prop} {k:Nat}
variable {T:List (Nat × List Nat)} {fuel:Nat} {done:List Nat}
theorem tB (is:List Nat) (hs:List Res) (L' L:List (Value × Nat)) (e:L'=L) (hp:Wi is h=some hs:=by kernel_rfl) (hb:Qy hs=some L':=by kernel_rfl):Tm h (.many L::XG is h):=e▸Zdq is hp hb
theorem rr {v:Value} {q:Nat} {ls ls':List AV} {t t':List Res} (h:ls=ls') (e:t=t'):Res.row v q ls::t=.row v q ls'::t':=h▸e▸rfl
theorem Z7q (j m:Nat) (v:Hd) (kk:Nat) (ls:List AV) (hm:ls.length=m*kk) (hk:0<kk:=by omega) (hl:CF P ops F k=some (.h v):=by kernel_rfl) (hj:h[j]? = some (rK v kk ls):=by kernel_rfl):Xs P (ZA ops k) F h [] (.i m):=
 Zd7 j hl hj hm hk
theorem Wj (b l c' q sz:Nat) (j:Int) (hq:j=(q:Int)/\q<l:=by omega) (hi:AS P ops F k=some (.val (.slice (some ⟨b,0,none⟩) l c'),j,sz):=by kernel_rfl):Xs P (ZA ops k) F h [] (.val (.pointer (some ⟨b,q*sz,none⟩))):=by
 have:=Rz (P:=P) (F:=F) (h:=h) hi om om
 rw [hq.1,U9,Vb] at this
 exact this
theorem Vl (j g len cap kk o:Nat) (ls zs:List AV) (t:TypeId) (y:AV) (hz:(ls.drop o).take zs.length=zs) (hl:Is ops F k=some (t,.val (.pointer (some ⟨g,o,none⟩))):=by kernel_rfl) (hj:h[j]? = some (.row (.slice (some ⟨g,0,none⟩) len cap) kk ls):=by kernel_rfl)
  (hy:Ah P t zs=some y:=by kernel_rfl):Xs P (ZA ops k) F h [g] y:=Zd8 j hl hj hz hy
theorem DC (j g len cap kk o:Nat) (xs ls:List AV) (ls':List AV) (hlt:o+xs.length<=ls.length) (he:ls.take o++xs++ls.drop (o+xs.length)=ls') (H:SI P n ops B (k+1) F (.row (.slice (some ⟨g,0,none⟩) len cap) kk ls'::XG [j] h)) (hk:X6 n ops F k=true:=by kernel_rfl)
  (hs:storeAt P ops F k=some (g,o,xs):=by kernel_rfl) (hp:Wi [j] h=some [.row (.slice (some ⟨g,0,none⟩) len cap) kk ls]:=by kernel_rfl):SI P n ops B k F h:=
 TE hk (Wt.perm (Uf (Vw hp)) (Pd hs hlt (by rw [he];exact H)))
theorem BB (i j:Nat) (js bs:List Nat) (g len cap kk o:Nat) (xs ls:List AV) (ls':List AV) (hlt:o+xs.length<=ls.length) (he:ls.take o++xs++ls.drop (o+xs.length)=ls')
  (H:YT P n ops B (T.filter fun t=>!WZ ops i t.1) fuel (done++[i]) F (.row (.slice (some ⟨g,0,none⟩) len cap) kk ls'::XG [j] h)) (hk:X6 n ops F i=true:=by kernel_rfl)
  (hs:storeAt P ops F i=some (g,o,xs):=by kernel_rfl) (hp:Wi [j] h=some [.row (.slice (some ⟨g,0,none⟩) len cap) kk ls]:=by kernel_rfl) (ho:VZ ops i T=bs:=by kernel_rfl)
  (hj:js.map (fun q=>(WA (XG [j] h))[q]?)=bs.map some:=by kernel_rfl):Vo P n ops B T fuel done F h i:=
 Kb [j] js bs hk (Vw hp) ho hj (Pd (h2:=[]) hs hlt (by rw [he];exact H))
theorem DB (sz:Nat) (hK:∀g,SI P n ops B (k+1) (F.put (ZA ops k).dst (.val (.slice (some ⟨g,0,none⟩) 0 0))) (.row (.slice (some ⟨g,0,none⟩) 0 0) sz []::h)) (hk:X6 n ops F k=true:=by kernel_rfl)
  (ha:Tw P ops F k=some ([],0,sz):=by kernel_rfl):SI P n ops B k F h:=TE hk (Z9f (VM hk).2.1 ha hK)
theorem NR (j g sz:Nat) (xs:List AV) (hx:Option Value) (hxs:∀y∈xs,y.leaves.length=sz) (hbound:xs.length<=4294967296) (hK:∀v:Hd,SI P n ops B (k+1) (F.put (ZA ops k).dst (.h v)) (rK v sz (Zl xs)::XG [j] h))
  (hk:X6 n ops F k=true:=by kernel_rfl) (ha:Uy P ops F k=some (.val (.slice (some ⟨g,0,none⟩) 0 0),.sl xs hx,sz):=by kernel_rfl) (hp:Wi [j] h=some [.row (.slice (some ⟨g,0,none⟩) 0 0) sz []]:=by kernel_rfl):SI P n ops B k F h:=
 TE hk (Wt.perm (Uf (Vw hp)) (Z9d (VM hk).2.1 ha hxs hbound hK))
theorem Z7p (t j:Nat) {v:Hd} {kk:Nat} (es:List AV) (hes:∀y∈es,y.leaves.length=kk) (H:Yw P n c A ((t,.sl es (some v.v))::F) (.tail v.v kk::XG [j] h)) (hk:0<kk:=by omega) (hF':F.get t=.h v:=by kernel_rfl)
  (hp:Wi [j] h=some [rK v kk (Zl es)]:=by kernel_rfl):Yw P n c A F h:=Ss t j hF' hp hes hk H
theorem IX {A xs ys B:List AV} {o:Nat} (hA:A.length=o) (hl:xs.length=ys.length):(A++(xs++B)).take o++ys++(A++(xs++B)).drop (o+ys.length)=A++(ys++B):=by
 subst hA
 rw [JN,<-hl,<-List.drop_drop,List.drop_left,List.drop_left,TT]
theorem Zaf {A xs B:List AV} {o:Nat} (hA:A.length=o):((A++(xs++B)).drop o).take xs.length=xs:=by
 subst hA
 rw [List.drop_left,JN]
theorem Qg (xs ys:List AV):Zl (xs++ys)=Zl xs++Zl ys:=by simp [Zl]
theorem Z3m:Zl []=[]:=rfl
theorem Lw (j:Nat) (v:Value) (q:Nat) (ls ls':List AV) (e:ls=ls') (hp:Wi [j] h=some [.row v q ls]:=by kernel_rfl):Tm h (.row v q ls'::XG [j] h):=by
 subst e
 intro w G hh
 have hp':=Uf (Vw hp)
 exact ⟨G,hh.perm hp',(YU.refl w G h).perm (Qb _) hp'⟩
end
end Go.Abs
end
section
namespace Go.Abs
theorem Yr.rgrow {w:World} {G:Y7} {h2:List Res} {g len len' cap k:Nat} {ls ls':List AV} (hh:Yr w G (.row (.slice (some ⟨g,0,none⟩) len cap) k ls::h2)) {cs cs':Array Value} {e:TypeId}
  (hb:w.heap[g]? = some (.cells cs e (0,0))) (Xl:cs'.size=cs.size) (hle:len'<=cap) (hcap:cs.size=cap*k) (hl:ls'.length=len'*k) (hls:YP w G ls' (cs'.toList.take (len'*k))) :
  Yr (w.setRow g cs') G (.row (.slice (some ⟨g,0,none⟩) len' cap) k ls'::h2) /\
   YU w G (.row (.slice (some ⟨g,0,none⟩) len cap) k ls::h2) (w.setRow g cs') G (.row (.slice (some ⟨g,0,none⟩) len' cap) k ls'::h2):=by
 have hmem:Res.row (.slice (some ⟨g,0,none⟩) len cap) k ls∈Res.row (.slice (some ⟨g,0,none⟩) len cap) k ls::h2:=Xh ..
 have hA:VQ G w (w.setRow g cs') G:=⟨fun c j hg=>by
  have hne:c≠g:=fun he=>hh.prot _ hmem c j he hg
  simp [World.cell?,VN w g c cs' hne],fun _ _ h=>h⟩
 have e1:YU w G [.row (.slice (some ⟨g,0,none⟩) len cap) k ls] (w.setRow g cs') G [.row (.slice (some ⟨g,0,none⟩) len' cap) k ls']:=by
  refine ⟨rfl,rfl,rfl,by simp [World.setRow],fun _ _ h=>h,?_,fun _ _ _ h=>.inl h,?_⟩
  ·intro c hc
   by_cases hcb:c=g
   ·subst hcb
    exact .inr ⟨cs,cs',e,(0,0),hb,setRow_heap w c cs cs' e (0,0) hb,Xl,fun j hj=>absurd ⟨_,Xh ..,rfl⟩ hj⟩
   ·exact .inl (VN w g c cs' hcb)
  ·rintro c j _ ⟨r,hr,hf⟩
   rw [XB.1 hr] at hf
   exact ⟨_,Xh ..,hf⟩
 have e2:Yr (w.setRow g cs') G [.row (.slice (some ⟨g,0,none⟩) len' cap) k ls']:=by
  refine ⟨fun r hr=>?_,Bm _ _,fun r hr c j hf hg=>?_,fun c j hg=>?_⟩
  ·rw [XB.1 hr]
   exact .inr ⟨g,len',cap,cs',e,rfl,setRow_heap w g cs cs' e (0,0) hb,hle,Xl.trans hcap,hl,hls.mono hA⟩
  ·rw [XB.1 hr] at hf
   exact hh.prot _ hmem c j hf hg
  ·have:=hh.lt c j hg
   simpa [World.setRow] using this
 exact Yr.frame (h:=[.row (.slice (some ⟨g,0,none⟩) len cap) k ls]) (k:=h2) hh e1 e2
section
variable {P:Program} {n:Nat} {ops:Array Oper} {k:Nat} {F:Fr} {h2:List Res}
theorem Pb {K:Fr->List Res->Prop} {v:Hd} {sz m:Nat} {ls xs:List AV} {hx:Option Value} (hd:Vq n (ZA ops k)=true) (ha:Uy P ops F k=some (.val v.v,.sl xs hx,sz))
  (hxs:∀y∈xs,y.leaves.length=sz) (hone:(Zl xs).all AV.one=true) (hm0:ls.length=m*sz) (hk0:0<sz) (hne:xs≠[]) (hbound:m+xs.length<=4294967296)
  (hK:∀v':Hd,K (F.put (ZA ops k).dst (.val v'.v)) (.row v'.v sz (ls++Zl xs)::h2)):Wt P n (ZA ops k) F (.row v.v sz ls::h2) K:=by
 unfold Uy at ha
 generalize hoo:ZA ops k=o at ha hd hK
 obtain ⟨dst,op,type,pos,after,guard⟩:=o
 cases op<;>simp only at ha<;>try (cases ha)
 rename_i c
 obtain ⟨callee,args,tys⟩:=c
 simp only at ha
 split at ha
 case h_2=>cases ha
 rename_i s x t t' hargs htys
 split at ha
 case h_2=>cases ha
 rename_i e htt ht
 have:=Ux htt
 subst this
 split at ha
 case h_2=>cases ha
 rename_i i hinfo
 split at ha
 case h_2=>cases ha
 rename_i z hz
 split at ha
 case h_2=>cases ha
 rename_i hb
 simp only [W2] at hb
 simp only [Wc,Prod.mk.injEq] at ha
 obtain ⟨h3,h4,hk1⟩:=ha
 have e1:args=#[s,x]:=by rw [<-U1 (xs:=args),hargs]
 have e2:tys=#[t,t]:=by rw [<-U1 (xs:=tys),htys]
 subst e1;subst e2
 have hzs:z.cells.size=sz:=by rw [Ux hb.1,hk1]
 have hby:=V5 hb.2
 have hfl:=TC xs hxs
 intro Q w G a hF hh
 have v1:=hF.ev s
 have v2:=hF.ev x
 rw [h3] at v1
 rw [h4] at v2
 have v1:=v1.val_inv
 have v2:=v2.forget
 have finish:∀(v':Hd) w',(Builtin.append_ #[t,t] type #[v.v,a.eval x]).run P w=.ok v'.v w'->Yr w' G (.row v'.v sz (ls++Zl xs)::h2)->YU w G (.row v.v sz ls::h2) w' G (.row v'.v sz (ls++Zl xs)::h2) ->
   ({ dst:=dst,op:=.call { callee:=.builtin .append,args:=#[s,x],argTypes:=#[t,t] },type:=type,pos:=pos,after:=after,guard:=guard }:Oper).wp P a w
    (fun a' w'=>∃F' h' G',K F' h'/\FR w' G' n F' a'/\Yr w' G' h'/\YU w G (.row v.v sz ls::h2) w' G' h') Q:=by
  intro v' w' hr j1 j2
  have hrun:(execOp a.eval { dst:=dst,op:=.call { callee:=.builtin .append,args:=#[s,x],argTypes:=#[t,t] },type:=type,pos:=pos,after:=after,guard:=guard }).run P w=.ok (.value v'.v) w':=by
   simp only [execOp,resolve,invoke,builtin,Sem.run_bind,Sem.run_pure,Result.andThen_ok,Bk,Ul,Bj,v1,hr]
  unfold Oper.wp
  rw [hrun]
  exact ⟨_,_,G,hK v',(hF.mono (j2.agree hh)).put (UM hd) .val,j1,j2⟩
 have hrow0:=hh.ok (.row v.v sz ls) (Xh ..)
 have hsub2:∀r:Res,List.Sublist (r::h2) (r::.row v.v sz ls::h2):=fun r=>List.Sublist.cons_cons _ (Bn _ _)
 have grown:∀(olds news:List Value) (old:Nat),YP w G ls olds->YP w G (Zl xs) news ->
   Yr (w.drew.alloc (.cells (olds.toArray++news.toArray++Builtin.zeroCells z.cells (grownCap w (m+xs.length) old e-(m+xs.length))) e)) G
    (.row (.slice (some ⟨w.heap.size,0,none⟩) (m+xs.length) (grownCap w (m+xs.length) old e)) sz (ls++Zl xs)::h2) /\
   YU w G (.row v.v sz ls::h2) (w.drew.alloc (.cells (olds.toArray++news.toArray++Builtin.zeroCells z.cells (grownCap w (m+xs.length) old e-(m+xs.length))) e)) G
    (.row (.slice (some ⟨w.heap.size,0,none⟩) (m+xs.length) (grownCap w (m+xs.length) old e)) sz (ls++Zl xs)::h2):=by
  intro olds news old ho hn
  have Xc:=grownCap_ge w (m+xs.length) old e
  have hol:=ho.length
  have hnl:=hn.length
  have hlen:(ls++Zl xs).length=(m+xs.length)*sz:=by rw [Ys,hm0,hfl,Qd]
  obtain ⟨j1,j2⟩:=hh.drew.alloc_rrow (olds.toArray++news.toArray++Builtin.zeroCells z.cells (grownCap w (m+xs.length) old e-(m+xs.length))) e
   (ls:=ls++Zl xs) (len:=m+xs.length) (cap:=grownCap w (m+xs.length) old e) (k:=sz) Xc
   (by
    have q2:(grownCap w (m+xs.length) old e-(m+xs.length))*sz=grownCap w (m+xs.length) old e*sz-(m+xs.length)*sz:=Nat.sub_mul ..
    have q3:(m+xs.length)*sz<=grownCap w (m+xs.length) old e*sz:=Qt _ Xc
    have q4:(m+xs.length)*sz=m*sz+xs.length*sz:=Qd ..
    simp only [Array.size_append,D4,size_zeroCells,hzs,hol,hnl,hm0,hfl]
    omega) hlen
   (by
    have:(olds.toArray++news.toArray++Builtin.zeroCells z.cells (grownCap w (m+xs.length) old e-(m+xs.length))).toList.take ((m+xs.length)*sz)=olds++news:=by
     simp only [CZ]
     rw [<-hlen,Ys,<-hol,<-hnl,<-Ys]
     exact JN
    rw [this]
    exact (ho.append hn).mono (AB w G))
  exact ⟨j1.sub (hsub2 _),(YU.drew w G _).trans (j2.sub' (hsub2 _))⟩
 generalize hax:a.eval x=ax at v2 finish
 cases v2 with
 | nil _=>exact absurd rfl hne
 | sl hq hcc hm=>
  rename_i b o' k' c
  have hpos:0<xs.length:=Gv.2 hne
  have hfm:=hm.flat_mem
  obtain ⟨news,hn,hnc⟩:=hfm.cells
  have hnl:news.length=xs.length*i.size:=by rw [hn.length,hfl,hk1]
  have hone':=hn.one_cells hone
  have hnews:∀j u,news[j]? = some u->w.cell? ((⟨b,o',none⟩:Addr).add j)=some u:=fun j u hj=>by rw [Kt];exact (hnc j u hj).1
  have hbb:(m+xs.length)*i.bytes<=140737488355328:=by
   have:=Nat.mul_le_mul hbound hby
   omega
  rcases hrow0 with ⟨hv0,hl0⟩|⟨g,len,cap,cur,el,hv0,hrow,hlc,hcur,hll,hcells⟩
  ·subst hl0
   have hm1:m=0:=by
    have:m*sz=0:=by simpa using hm0.symm
    rcases Nat.mul_eq_zero.1 this with h|h
    ·exact h
    ·omega
   subst hm1
   rw [hv0] at finish hh ⊢
   have hr:=run_append_nil (P:=P) w t type e i z ht hinfo hz ⟨b,o',none⟩ xs.length c news hnl hnews hpos om (by simp only [Vb] at hbb;omega)
   obtain ⟨j1,j2⟩:=grown [] news 0 .nil hn
   simp only [Vb,Array.empty_append,Bl] at j1 j2
   rw [hv0] at j2
   exact finish ⟨some ⟨w.heap.size,0,none⟩,xs.length,grownCap w xs.length 0 e⟩ _ hr (by simpa using j1) (by simpa using j2)
  ·have hlm:len=m:=Gx hk0 (hll.symm.trans hm0)
   subst hlm
   rw [hv0] at finish hh ⊢
   have q5:len*sz<=cap*sz:=Qt _ hlc
   have h1:(cur.toList.take (len*sz)).length=len*sz:=by rw [WB,Kl,hcur,VG q5]
   have hcl:cur.toList.length=cap*sz:=by rw [Kl,hcur]
   by_cases hroom:len+xs.length<=cap
   ·have q1:(len+xs.length)*sz<=cap*sz:=Qt _ hroom
    have q2:(len+xs.length)*sz=len*sz+xs.length*sz:=Qd ..
    have hfit:len*i.size+news.length<=cur.size:=by rw [hnl,hcur,hk1];omega
    have hr:=FM (P:=P) w t type e el i ht hinfo g len cap cur hrow ⟨b,o',none⟩ xs.length c news hnl hnews hone' hroom hfit
    rw [hk1] at hr
    have hnl':news.length=xs.length*sz:=by rw [hnl,hk1]
    obtain ⟨j1,j2⟩:=hh.rgrow (ls':=ls++Zl xs) (len':=len+xs.length) (cs':=(cur.toList.take (len*sz)++news++cur.toList.drop (len*sz+news.length)).toArray) hrow
     (by simp only [D4,Ys,h1,hnl',Bi,hcl,hcur];omega) hroom hcur (by rw [Ys,hll,hfl,q2]) (by
      have:(cur.toList.take (len*sz)++news++cur.toList.drop (len*sz+news.length)).toArray.toList.take ((len+xs.length)*sz)=cur.toList.take (len*sz)++news:=by
       rw [D5,q2,<-hnl']
       conv=>lhs;arg 1;rw [show len*sz+news.length=(cur.toList.take (len*sz)++news).length from by rw [Ys,h1]]
       exact JN
      rw [this]
      exact hcells.append hn)
    exact finish ⟨some ⟨g,0,none⟩,len+xs.length,cap⟩ _ hr j1 j2
   ·have hr:=run_append_grow (P:=P) w t type e i z ht hinfo hz ⟨g,0,none⟩ len cap (cur.toList.take (len*sz)) (by rw [hk1];exact h1) (fun j u hj=>by
     rw [Kt,cell_of_row w g _ cur el (0,0) hrow]
     rw [TG] at hj
     split at hj
     ·simpa using hj
     ·cases hj) ⟨b,o',none⟩ xs.length c news hnl hnews om om (growslice_fits om hbb)
    obtain ⟨j1,j2⟩:=grown (cur.toList.take (len*sz)) news cap hcells hn
    rw [hv0] at j2
    exact finish ⟨some ⟨w.heap.size,0,none⟩,len+xs.length,grownCap w (len+xs.length) cap e⟩ _ hr j1 j2
end
section
variable {P:Program} {n:Nat} {ops:Array Oper} {B:Fr->List Res->Prop} {k:Nat} {F:Fr} {h:List Res}
theorem Fc (j m:Nat) (v:Hd) (sz:Nat) (ls xs:List AV) (hx:Option Value) (hm0:ls.length=m*sz) (hxs:∀y∈xs,y.leaves.length=sz) (hone:(Zl xs).all AV.one=true) (hne:xs≠[]) (hbound:m+xs.length<=4294967296)
  (hK:∀v':Hd,SI P n ops B (k+1) (F.put (ZA ops k).dst (.h v')) (rK v' sz (ls++Zl xs)::XG [j] h)) (hk0:0<sz:=by omega)
  (hk:X6 n ops F k=true:=by kernel_rfl) (ha:Uy P ops F k=some (.h v,.sl xs hx,sz):=by kernel_rfl) (hp:Wi [j] h=some [rK v sz ls]:=by kernel_rfl):SI P n ops B k F h:=
 TE hk (Wt.perm (Uf (Vw hp)) (Pb (VM hk).2.1 ha hxs hone hm0 hk0 hne hbound hK))
end
end Go.Abs
namespace Go.Abs
section
variable {P:Program} {n:Nat} {ops:Array Oper} {B:Fr->List Res->Prop} {T:List (Nat × List Nat)} {fuel:Nat} {done:List Nat} {F:Fr} {h:List Res}
theorem H9 (i j m:Nat) (js bs:List Nat) (v:Hd) (sz:Nat) (ls xs:List AV) (hx:Option Value) (hm0:ls.length=m*sz) (hxs:∀y∈xs,y.leaves.length=sz) (hone:(Zl xs).all AV.one=true) (hne:xs≠[]) (hbound:m+xs.length<=4294967296)
  (hK:∀v':Hd,YT P n ops B (T.filter fun t=>!WZ ops i t.1) fuel (done++[i]) (F.put (ZA ops i).dst (.h v')) (rK v' sz (ls++Zl xs)::XG [j] h)) (hk0:0<sz:=by omega) (hk:X6 n ops F i=true:=by kernel_rfl)
  (ha:Uy P ops F i=some (.h v,.sl xs hx,sz):=by kernel_rfl) (hp:Wi [j] h=some [rK v sz ls]:=by kernel_rfl) (ho:VZ ops i T=bs:=by kernel_rfl)
  (hj:js.map (fun q=>(WA (XG [j] h))[q]?)=bs.map some:=by kernel_rfl):Vo P n ops B T fuel done F h i:=
 Kb [j] js bs hk (Vw hp) ho hj (Pb (h2:=[]) (VM hk).2.1 ha hxs hone hm0 hk0 hne hbound hK)
end
theorem WC.form {P:Program} {f:FuncId} {as1:List AV} {h0:List Res} {T:Hd->AV} {kk m:Nat} {ls:List AV} {hs:List Res} (H:WC P f as1 h0 (fun r h=>∃v:Hd,r=T v/\h=rK v kk ls::hs)) (hm:ls.length=m*kk) (hk:0<kk) (h1:0<m) :
  WC P f as1 h0 (fun r h=>∃(g c:Nat),r=T ⟨some ⟨g,0,none⟩,m,c⟩/\h=rK ⟨some ⟨g,0,none⟩,m,c⟩ kk ls::hs):=by
 intro w G vs hv hh
 refine (H w G vs hv hh).mono ?_
 rintro e w' ⟨u,r,h',G',he,⟨v,rfl,rfl⟩,hr,hh',hx⟩
 obtain ⟨g,c,rfl⟩:=PB (hh'.ok _ (Xh ..)) hm hk h1
 exact ⟨u,_,_,G',he,⟨g,c,rfl,rfl⟩,hr,hh',hx⟩
end Go.Abs
namespace Go.Abs
section
variable {h:List Res}
theorem Zdr (j i p:Nat) {u:Value} {kk b:Nat} {es ls:List AV} (hp:Wi [j,i] h=some [.row u kk (Zl es),.obj b ls]) (hes:∀y∈es,y.leaves.length=kk) (hk:0<kk) (hl:ls[p]? = some (.val u)) :
  Tm h (.obj b (ls.set p (.sl es (some u)))::.tail u kk::XG [j,i] h):=by
 intro w G hh
 have hp':=Uf (Vw hp)
 have hh':=hh.perm hp'
 obtain ⟨G',h1,h2',h3⟩:=BX (h2:=.obj b ls::XG [j,i] h) hh' hes hk
 have e:=h2'.perm hp'.symm (Qb _)
 have h1:Yr w G' (.tail u kk::.obj b ls::XG [j,i] h):=h1
 have perm:(Res.tail u kk::.obj b ls::XG [j,i] h).Perm (.obj b ls::.tail u kk::XG [j,i] h):=List.Perm.swap ..
 have h4:=h1.perm perm
 have e4:=e.perm (Qb _) perm
 have hset:∀{w:World} {G:Y7},RV w G (.sl es (some u)) u->TV w G (.obj b ls)->TV w G (.obj b (ls.set p (.sl es (some u)))):=by
  intro w G hu hr
  obtain ⟨cs,el,k1,k5⟩:=hr
  refine ⟨cs,el,k1,?_⟩
  obtain ⟨c,c1,c2⟩:=k5.get p _ hl
  have:=c2.val_inv
  subst this
  have h6:=k5.set p hu
  rwa [show cs.toList.set p c=cs.toList from by
   apply List.ext_getElem?
   intro q
   rw [List.getElem?_set]
   split
   ·rename_i hq;subst hq;split
    ·exact c1.symm
    ·rename_i hq2;rw [LM om]
   ·rfl] at h6
 refine ⟨G',⟨fun r hr=>?_,?_,fun r hr=>?_,h4.lt⟩,⟨e4.os,e4.tape,e4.output,e4.size,e4.sub,e4.same,e4.newG,fun b' o hb ⟨r,hr,hf⟩=>e4.newfp b' o hb ?_⟩⟩
 ·rcases YG.1 hr with rfl|hr
  ·exact hset h3 (h4.ok _ (Xh ..))
  ·exact h4.ok r (XA _ hr)
 ·have:=WJ.1 h4.apart
  exact WJ.2 ⟨fun r hr b' o f1 f2=>this.1 r hr b' o f1 f2,this.2⟩
 ·rcases YG.1 hr with rfl|hr
  ·exact fun b' o f1 hg=>h4.prot (.obj b ls) (Xh ..) b' o f1 hg
  ·exact h4.prot r (XA _ hr)
 ·rcases YG.1 hr with rfl|hr
  ·exact ⟨.obj b ls,Xh ..,hf⟩
  ·exact ⟨r,XA _ hr,hf⟩
theorem Tk (j i p:Nat) (u:Value) (kk b:Nat) (es ls:List AV) (hes:∀y∈es,y.leaves.length=kk) (hl:ls[p]? = some (.val u)) (hk:0<kk:=by omega) (hp:Wi [j,i] h=some [.row u kk (Zl es),.obj b ls]:=by kernel_rfl) :
  Tm h (.obj b (ls.set p (.sl es (some u)))::.tail u kk::XG [j,i] h):=Zdr j i p hp hes hk hl
end
end Go.Abs
namespace Go.Abs
section
variable {P:Program} {n:Nat} {ops:Array Oper} {k:Nat} {F:Fr} {h:List Res}
theorem Zd9 (j:Nat) {g l c m kk:Nat} {ls:List AV} (hi:CS P ops F k=some (.val (.slice (some ⟨g,0,none⟩) l c),(m:Int))) (hj:h[j]? = some (.row (.slice (some ⟨g,0,none⟩) l c) kk ls)) (hle:m<=l) :
  Xs P (ZA ops k) F h [] (.val (.slice (some ⟨g,0,none⟩) m c)):=by
 unfold CS at hi
 generalize hoo:ZA ops k=o at hi
 obtain ⟨dst,op,type,pos,after,guard⟩:=o
 cases op<;>simp only at hi<;>try (cases hi)
 rename_i t x lo hi' mx
 cases lo with
 | some _=>simp at hi
 | none=>
  cases hi' with
  | none=>simp at hi
  | some y=>
   cases mx with
   | some _=>simp at hi
   | none=>
    simp only at hi
    split at hi
    ·rename_i e ht
     split at hi
     ·rename_i inf hinf
      split at hi
      ·rename_i ik m' hm
       simp only [Wc,Prod.mk.injEq] at hi
       obtain ⟨hx,rfl⟩:=hi
       intro n w G a hF hh
       have v1:=hF.ev x
       rw [hx] at v1
       have v1:=v1.val_inv
       have v2:=hF.ev y
       rw [hm] at v2
       have v2:=v2.val_inv
       have hcap:l<=c:=by
        rcases hh.ok _ (Y4 hj) with ⟨h0,_⟩|⟨g',l',c',cur,el,h0,_,hc,_⟩
        ·cases h0
        ·cases h0;exact hc
       refine ⟨_,.val,fun w' _ _=>?_⟩
       simp only [execOp,v1,v2,Bq,Option.map_none]
       refine V3 ?_
       simp only [Instr.sliceAt,Sem.run_bind,Vn ht,Result.andThen_ok,Instr.slice]
       have hmm:(Instr.sliceBounds true l c none (some (.int ik (m:Int))) none).run P w'=.ok (0,m,c) w':=by
        have ZB:=fun q=>CQ (P:=P) (c:=q) (v:=.int ik (m:Int)) (y:=c) rfl om om w'
        simp [Instr.sliceBounds,ZB]
       rw [hmm]
       have hz:∀a:Addr,a.add 0=a:=fun a=>by simp [Addr.add]
       simp only [Result.andThen_ok,Q9 hinf,Nat.zero_mul,hz]
       by_cases h0:c=0<;>simp [h0]
      ·cases hi
     ·cases hi
    ·cases hi
theorem Ib (j g l c m kk:Nat) (ls:List AV) (hle:m<=l:=by omega) (hi:CS P ops F k=some (.val (.slice (some ⟨g,0,none⟩) l c),(m:Int)):=by kernel_rfl) (hj:h[j]? = some (.row (.slice (some ⟨g,0,none⟩) l c) kk ls):=by kernel_rfl) :
  Xs P (ZA ops k) F h [] (.val (.slice (some ⟨g,0,none⟩) m c)):=Zd9 j hi hj hle
variable {B:Fr->List Res->Prop}
end
end Go.Abs
end
namespace Go.Abs
theorem Y5 {α:Type} {xs:List α} {k:Nat} {x:α} (h:xs[k]? = some x):xs.drop k=x::xs.drop (k+1):=by
 have hk:=(Xn.1 h).1
 rw [Sc hk]
 congr 1
 rw [Km hk] at h
 exact TU h
theorem Xe {α:Type} {xs:List α} {k:Nat} (h:xs.length<=k):xs.drop k=[]:=Gt h
theorem V4 {α:Type} {xs:List α} {k:Nat} {x:α} (h:xs[k]? = some x):xs.take (k+1)=xs.take k++[x]:=by
 rw [List.take_add_one,h];rfl
def YL:List Zf->Nat
 | []=>0
 | d::ds=>d.cons.length+YL ds
theorem Di (xs ys:List Zf):YL (xs++ys)=YL xs+YL ys:=by
 induction xs with
 | nil=>simp [YL]
 | cons d ds ih=>simp [YL,ih];omega
structure WD (ds:List Zf):Prop where
 len:ds.length<=4
 cons:∀d∈ds,d.cons.length<=3
 fields:∀d∈ds,∀c∈d.cons,c.fields.length<=3
theorem Z1k {ds:List Zf} {m:Nat} (h:∀d∈ds,d.cons.length<=m):YL ds<=ds.length*m:=by
 induction ds with
 | nil=>simp [YL]
 | cons d ds ih=>
  have h1:=h d (by simp)
  have h2:=ih (fun x hx=>h x (by simp [hx]))
  simp only [YL,YS,Qd];omega
theorem WD.sum {ds:List Zf} (h:WD ds):YL ds<=12:=by
 have:=Z1k h.cons
 have:=h.len
 have:ds.length*3<=4*3:=Qt 3 h.len
 omega
theorem WD.take {ds:List Zf} (h:WD ds) (k:Nat):WD (ds.take k):=
 ⟨by have:=h.len;simp;omega,fun d hd=>h.cons d (Qc hd),fun d hd=>h.fields d (Qc hd)⟩
theorem WD.cons_at {ds:List Zf} (h:WD ds) {k:Nat} {d:Zf} (hd:ds[k]? = some d):d.cons.length<=3:=h.cons d (Y4 hd)
theorem WD.fields_at {ds:List Zf} (h:WD ds) {k j:Nat} {d:Zf} {c:Yj} (hd:ds[k]? = some d) (hc:d.cons[j]? = some c):c.fields.length<=3:=
 h.fields d (Y4 hd) c (Y4 hc)
def T4 (c:Int):List Zf->Nat->Nat->Int × LI
 | [],_,_=>(-1,[])
 | d::ds,i,first=>
  if (first:Int)<=c/\c<=((first+d.cons.length:Nat):Int)-1 then ((i:Int)+1,(d.cons[(c-first).toNat]?.map (·.fields)).getD []) else T4 c ds (i+1) (first+d.cons.length)
def Wa (ds:List Zf) (c:Int):Int:=(T4 c ds 0 0).1
def ZU (ds:List Zf) (c:Int):LI:=(T4 c ds 0 0).2
theorem H6 {c:Int}:∀{ds:List Zf} {i first:Nat},(T4 c ds i first=(-1,[]) ∨
  ∃k d x,ds[k]? = some d/\(first+YL (ds.take k):Int)<=c/\c<first+YL (ds.take k)+d.cons.length/\d.cons[(c-(first+YL (ds.take k))).toNat]? = some x/\T4 c ds i first=((i:Int)+k+1,x.fields))
 | [],_,_=>.inl rfl
 | d::ds,i,first=>by
  rw [T4]
  split
  ·rename_i h
   have hlt:(c-first).toNat<d.cons.length:=by omega
   refine .inr ⟨0,d,d.cons[(c-first).toNat],rfl,by simp [YL];omega,by simp [YL];omega,?_,?_⟩
   ·simp [YL]
   ·rw [Km hlt];simp
  ·rcases H6 (c:=c) (ds:=ds) (i:=i+1) (first:=first+d.cons.length) with h|⟨k,e,x,h1,h2,h3,h4,h5⟩
   ·exact .inl h
   ·refine .inr ⟨k+1,e,x,by simpa using h1,by simp [YL];omega,by simp [YL];omega,?_,?_⟩
    ·rw [<-h4];congr 3;simp [YL];omega
    ·rw [h5];congr 1;omega
theorem H7 {ds:List Zf} {c:Int} (h:¬Wa ds c<1) :
  ∃k d x,ds[k]? = some d/\(YL (ds.take k):Int)<=c/\d.cons[(c-YL (ds.take k)).toNat]? = some x/\Wa ds c=(k:Int)+1/\ZU ds c=x.fields:=by
 rcases H6 (c:=c) (ds:=ds) (i:=0) (first:=0) with h1|⟨k,d,x,h1,h2,_,h4,h5⟩
 ·simp [Wa,h1] at h
 ·exact ⟨k,d,x,h1,by simpa using h2,by simpa using h4,by simp [Wa,h5],by simp [ZU,h5]⟩
theorem Ex {ds:List Zf} {c:Int} (h:Wa ds c<1):ZU ds c=[]/\Wa ds c=-1:=by
 rcases H6 (c:=c) (ds:=ds) (i:=0) (first:=0) with h1|⟨k,d,x,h1,h2,_,h4,h5⟩
 ·simp [ZU,Wa,h1]
 ·simp [Wa,h5] at h;omega
def Vu (first:Int):Nat->LI
 | 0=>[]
 | n+1=>first::Vu (first+1) n
theorem OZ (first:Int) (n:Nat):Vu first (n+1)=Vu first n++[first+n]:=by
 induction n generalizing first with
 | zero=>simp [Vu]
 | succ n ih=>rw [Vu,ih (first+1),Vu];simp;omega
@[simp] theorem Z90 (first:Int) (n:Nat):(Vu first n).length=n:=by
 induction n generalizing first with
 | zero=>rfl
 | succ n ih=>simp [Vu,ih]
def ZW (ds:List Zf) (t:Int):LI:=
 if 1<=t/\t<=ds.length then Vu (YL (ds.take (t-1).toNat)) (((ds[(t-1).toNat]?).map (·.cons.length)).getD 0) else []
def K6 (frm to_:Int):List Zf->Nat->Int
 | [],_=>-1
 | d::ds,i=>if d.cons.length=0/\d.frm=frm/\d.to_=to_ then (i:Int)+1 else K6 frm to_ ds (i+1)
def Ua (ds:List Zf) (frm to_:Int):Int:=K6 frm to_ ds 0
def XT (ds:List Zf) (t:Int):Bool:=decide (1<=t/\t<=ds.length)&&((ds[(t-1).toNat]?).map fun d=>decide (d.cons.length=0)).getD false
theorem Fj {ds:List Zf} {t:Int} {x:Zf} (h:1<=t/\t<=ds.length) (hx:ds[(t-1).toNat]? = some x):((x.cons.length:Int)==0)=XT ds t:=by
 rw [XT,hx,Xq];simp [h]
theorem I6 {ds:List Zf} {t:Int} (h:¬(1<=t/\t<=ds.length)):false=XT ds t:=by
 rw [XT,Xq];simp only [Bool.false_eq_true,W2,decide_eq_true_eq,h,false_and]
def We (m:Nat) (xs:LI):Bool:=xs.all fun t=>decide (0<=t/\t<=m)
end Go.Abs
section
namespace Go.Abs
section
variable {h:List Res}
end
end Go.Abs
namespace Go.Abs
section
variable {P:Program} {ops:Array Oper} {k:Nat} {F:Fr} {h:List Res}
end
end Go.Abs
end
namespace Go.Abs
section
variable {P:Program} {n:Nat} {ops:Array Oper} {B:Fr->List Res->Prop} {k:Nat} {F:Fr} {h:List Res} {T:List (Nat × List Nat)} {fuel:Nat} {done:List Nat}
theorem Pc {K:Fr->List Res->Prop} {ls:List AV} {len sz:Nat} (hd:Vq n (ZA ops k)=true) (ha:Tw P ops F k=some (ls,len,sz)) (hlen:ls.length=len*sz)
  (hK:∀g,K (F.put (ZA ops k).dst (.val (.slice (some ⟨g,0,none⟩) len len))) (.row (.slice (some ⟨g,0,none⟩) len len) sz ls::h)):Wt P n (ZA ops k) F h K:=by
 unfold Tw at ha
 generalize hoo:ZA ops k=q at ha hd hK
 obtain ⟨dst,op,type,pos,after,guard⟩:=q
 cases op<;>simp only at ha<;>try (cases ha)
 rename_i t ln parts
 split at ha
 case h_2=>cases ha
 rename_i e ht
 split at ha
 case h_2=>cases ha
 rename_i i hi
 split at ha
 case h_2=>cases ha
 rename_i hc
 simp only [W2] at hc
 split at ha
 case h_2=>cases ha
 rename_i ls' hf
 simp only [Wc,Prod.mk.injEq] at ha
 obtain ⟨rfl,rfl,Xl⟩:=ha
 intro Q w G a hF hh
 obtain ⟨cs,h1,h2⟩:=FP hF parts ht hi rfl hc.1 hc.2 hf
 have hr:(execOp a.eval { dst:=dst,op:=.buildSlice t ln parts,type:=type,pos:=pos,after:=after,guard:=guard }).run P w =
   .ok (.value (.slice (some ⟨w.heap.size,0,none⟩) ln ln)) (w.alloc (.cells cs e)):=by
  simp only [execOp]
  exact V3 h2
 unfold Oper.wp
 rw [hr]
 have hlc:=h1.length
 simp only [Kl] at hlc
 obtain ⟨j1,j2⟩:=hh.alloc_rrow cs e (ls:=ls') (len:=ln) (cap:=ln) (k:=sz) (X4 _) (by rw [hlc];exact hlen) hlen (by rw [<-hlen,<-hlc];simpa [Vi] using h1)
 exact ⟨_,_,G,hK _,(hF.mono (j2.agree hh)).put (UM hd) .val,j1,j2⟩
theorem UE (es es':List AV) (he:es=es') (len sz:Nat) (hK:∀v,SI P n ops B (k+1) (F.put (ZA ops k).dst (.sl es' (some v))) (.tail v sz::h)) (hk:X6 n ops F k=true:=by kernel_rfl)
  (ha:Tw P ops F k=some (Zl es,len,sz):=by kernel_rfl) (hlen:es.length=len:=by kernel_rfl) (hall:JV es sz=true:=by kernel_rfl):SI P n ops B k F h:=by
 subst he;exact iL es len sz hK hk ha hlen hall
theorem Wy (i:Nat) (js bs:List Nat) (es es':List AV) (he:es=es') (len sz:Nat) (hK:∀v,YT P n ops B (T.filter fun t=>!WZ ops i t.1) fuel (done++[i]) (F.put (ZA ops i).dst (.sl es' (some v))) (.tail v sz::h))
  (hk:X6 n ops F i=true:=by kernel_rfl) (ha:Tw P ops F i=some (Zl es,len,sz):=by kernel_rfl) (hlen:es.length=len:=by kernel_rfl) (hall:JV es sz=true:=by kernel_rfl)
  (ho:VZ ops i T=bs:=by kernel_rfl) (hj:js.map (fun j=>(WA h)[j]?)=bs.map some:=by kernel_rfl):Vo P n ops B T fuel done F h i:=by
 subst he;exact dL i js bs es len sz hK hk ha hlen hall ho hj
theorem iKN (ls:List AV) (len sz:Nat) (hK:∀g,SI P n ops B (k+1) (F.put (ZA ops k).dst (.val (.slice (some ⟨g,0,none⟩) len len))) (.row (.slice (some ⟨g,0,none⟩) len len) sz ls::h)) (hlen:ls.length=len*sz:=by rfl) (hk:X6 n ops F k=true:=by kernel_rfl)
  (ha:Tw P ops F k=some (ls,len,sz):=by kernel_rfl):SI P n ops B k F h:=TE hk (Pc (VM hk).2.1 ha hlen hK)
theorem dKN (i:Nat) (js bs:List Nat) (ls:List AV) (len sz:Nat) (hK:∀g,YT P n ops B (T.filter fun t=>!WZ ops i t.1) fuel (done++[i]) (F.put (ZA ops i).dst (.val (.slice (some ⟨g,0,none⟩) len len))) (.row (.slice (some ⟨g,0,none⟩) len len) sz ls::h)) (hlen:ls.length=len*sz:=by rfl)
  (hk:X6 n ops F i=true:=by kernel_rfl) (ha:Tw P ops F i=some (ls,len,sz):=by kernel_rfl) (ho:VZ ops i T=bs:=by kernel_rfl) (hj:js.map (fun j=>(WA h)[j]?)=bs.map some:=by kernel_rfl):Vo P n ops B T fuel done F h i:=
 Kb (h1:=[]) (h2:=h) [] js bs hk rfl ho hj (Pc (VM hk).2.1 ha hlen hK)
end
theorem WC.frz {P:Program} {f:FuncId} {as1:List AV} {h0:List Res} {E:Type} {kk:Nat} {es:E->List AV} {hs:E->List Res} {Q:E->Prop} (H:WC P f as1 h0 (fun r h=>∃(e:E) (v:Hd),r=.h v/\h=rK v kk (Zl (es e))::hs e/\Q e)) (hes:∀e,∀y∈es e,y.leaves.length=kk) (hk:0<kk) :
  WC P f as1 h0 (fun r h=>∃(e:E) (v:Value),r=.sl (es e) (some v)/\h=.tail v kk::hs e/\Q e):=by
 intro w G vs hv hh
 refine (H w G vs hv hh).mono ?_
 rintro e w' ⟨u,r,h',G',he,⟨x,v,rfl,rfl,hq⟩,hr,hh',hx⟩
 obtain ⟨G2,h1,h2,h3⟩:=BX hh' (hes x) hk
 have hrv:=hr.val_inv
 subst hrv
 exact ⟨_,_,_,G2,he,⟨x,v.v,rfl,rfl,hq⟩,h3,h1,hx.trans h2⟩
theorem EV {es:List AV} {sz k:Nat} {y:AV} (h:∀x∈es,x.leaves.length=sz) (hy:y.leaves.length=sz) (hk:k<es.length):(Zl es).take (k*sz)++y.leaves++(Zl es).drop (k*sz+y.leaves.length)=Zl (es.set k y):=by
 obtain ⟨x,hx⟩:=KA (xs:=es) (j:=k) hk
 have hxl:=h x (Y4 hx)
 have e1:es=es.take k++(x::es.drop (k+1)):=by rw [<-Y5 hx,T1]
 have e2:es.set k y=es.take k++(y::es.drop (k+1)):=by rw [Ec,Ze hk]
 have hl:(Zl (es.take k)).length=k*sz:=by rw [TC (k:=sz) _ (fun z hz=>h z (Qc hz)),WB,VG om]
 have e3:Zl es=Zl (es.take k)++(x.leaves++Zl (es.drop (k+1))):=by
  conv=>lhs;rw [e1,Qg]
  simp [Zl]
 rw [e2,Qg,e3,IX hl (by rw [hxl,hy])]
 simp [Zl]
theorem Z2s (ds:List Zf) (k:Nat) (d:Zf):X1 (ds.set k d)=(X1 ds).set k (Bw d):=by simp [X1,List.map_set]
theorem BJ (xs:List Zf):(Zl (X1 xs)).length=xs.length*3:=by rw [TC (k:=3) _ (J9 xs)];simp
theorem ER {ds:List Zf} {k:Nat} (d:Zf) (hk:k<ds.length):(Zl (X1 ds)).take (k*3)++QK d++(Zl (X1 ds)).drop (k*3+3)=Zl (X1 (ds.set k d)):=by
 rw [Z2s];exact EV (y:=Bw d) (J9 ds) rfl (by simpa using hk)
theorem HC (xs ys:List Zf):Zl (X1 xs)++Zl (X1 ys)=Zl (X1 (xs++ys)):=by rw [Z2r,Qg]
section
variable {P:Program} {n:Nat} {ops:Array Oper} {B:Fr->List Res->Prop} {k:Nat} {F:Fr} {h:List Res}
theorem Fb (j m:Nat) {v:Hd} {kk:Nat} {ls:List AV} (hm:ls.length=m*kk) (h0:0<m) (H:∀g c',v=⟨some ⟨g,0,none⟩,m,c'⟩->SI P n ops B k F h) (hk:0<kk:=by omega) (hj:h[j]? = some (rK v kk ls):=by kernel_rfl):SI P n ops B k F h:=by
 intro Q w G a hF hh hq
 obtain ⟨g,c',e⟩:=PB (hh.ok _ (Y4 hj)) hm hk h0
 exact H g c' e Q w G a hF hh hq
end
section
variable {P:Program} {n:Nat} {ops:Array Oper} {B:Fr->List Res->Prop} {k:Nat} {F:Fr} {h:List Res}
def H8 (P:Program) (ops:Array Oper) (F:Fr) (k:Nat):Option (IntKind × Int):=
 match (ZA ops k).op with
 | .convert s d x=>match P.underlying s,P.underlying d,F.ev x with
  | some (.int _),some (.int q),.val (.int _ z)=>some (q,z)
  | _,_,_=>none
 | _=>none
theorem kCv (q:IntKind) (z z':Int) (e:q.wrap z=z') (hc:H8 P ops F k=some (q,z):=by kernel_rfl):Xs P (ZA ops k) F h [] (.val (.int q z')):=by
 unfold H8 at hc
 generalize hoo:ZA ops k=o at hc
 obtain ⟨dst,op,type,pos,after,guard⟩:=o
 cases op<;>simp only at hc<;>try (cases hc)
 rename_i s d x
 split at hc
 ·rename_i q1 q2 q3 z2 h1 h2 h3
  cases hc
  intro n w G ac hF hh
  have v1:=hF.ev x
  rw [h3] at v1
  have v1:=v1.val_inv
  refine ⟨_,.val,fun w' _ _=>?_⟩
  simp only [execOp,v1]
  refine V3 ?_
  simp [convert,Vn h1,Vn h2,Conv.intToInt,e]
 ·cases hc
theorem LL {z:Int} (h:0<=z/\z<=9223372036854775807):IntKind.i64.wrap z=z:=IntWalk.i64_in _ om
theorem CD (z:Int) (hz:0<=z/\z<=255) (hc:H8 P ops F k=some (.i64,z):=by kernel_rfl):Xs P (ZA ops k) F h [] (.i z):=kCv .i64 z z (LL om) hc
def AF (ops:Array Oper) (F:Fr) (k:Nat) (b:BinOp):Option (Int × Int):=
 match (ZA ops k).op with
 | .binOp c _ x y _=>if c==b then match F.ev x,F.ev y with
  | .val (.int .i64 z),.val (.int .i64 u)=>some (z,u)
  | _,_=>none else none
 | _=>none
theorem Ic (a b:Int) (hb:0<b) (ha:0<=a/\a<=9223372036854775807) (hc:AF ops F k .quo=some (a,b):=by kernel_rfl):Xs P (ZA ops k) F h [] (.i (a / b)):=by
 unfold AF at hc
 generalize hoo:ZA ops k=o at hc
 obtain ⟨dst,op,type,pos,after,guard⟩:=o
 cases op<;>simp only at hc<;>try (cases hc)
 rename_i bop t x y yt
 cases bop<;>simp only [Zo,reduceCtorEq,if_false,if_true] at hc<;>try (cases hc)
 split at hc
 ·rename_i z yk h1 h2
  cases hc
  intro n' w G ac hF hh
  have v1:=hF.ev x
  have v2:=hF.ev y
  rw [h1] at v1
  rw [h2] at v2
  have v1:=v1.val_inv
  have v2:=v2.val_inv
  refine ⟨_,.val,fun w' _ _=>?_⟩
  simp only [execOp,v1,v2]
  refine V3 ?_
  have e1:a.tdiv b=a / b:=Int.tdiv_eq_ediv_of_nonneg ha.1
  have e2:IntKind.i64.wrap (a / b)=a / b:=LL ⟨Int.ediv_nonneg ha.1 om,Int.le_trans (Int.ediv_le_self b ha.1) ha.2⟩
  have e3:b≠0:=by omega
  simp [eqGuard,binOp,Op.intDiv,e1,e2,e3]
 ·cases hc
theorem DE (a b:Int) (hb:0<b) (ha:0<=a) (hc:AF ops F k .rem=some (a,b):=by kernel_rfl):Xs P (ZA ops k) F h [] (.i (a % b)):=by
 unfold AF at hc
 generalize hoo:ZA ops k=o at hc
 obtain ⟨dst,op,type,pos,after,guard⟩:=o
 cases op<;>simp only at hc<;>try (cases hc)
 rename_i bop t x y yt
 cases bop<;>simp only [Zo,reduceCtorEq,if_false,if_true] at hc<;>try (cases hc)
 split at hc
 ·rename_i z yk h1 h2
  cases hc
  intro n' w G ac hF hh
  have v1:=hF.ev x
  have v2:=hF.ev y
  rw [h1] at v1
  rw [h2] at v2
  have v1:=v1.val_inv
  have v2:=v2.val_inv
  refine ⟨_,.val,fun w' _ _=>?_⟩
  simp only [execOp,v1,v2]
  refine V3 ?_
  have e1:a.tmod b=a % b:=Int.tmod_eq_emod_of_nonneg ha
  have e3:b≠0:=by omega
  simp [eqGuard,binOp,Op.intDiv,e1,e3]
 ·cases hc
theorem BR (a b:Nat) (hb:0<b) (ha:a<=9223372036854775807) (hc:AF ops F k .quo=some ((a:Int),(b:Int)):=by kernel_rfl):Xs P (ZA ops k) F h [] (.i (a / b:Nat)):=by
 rw [Int.natCast_ediv];exact Ic a b om om hc
theorem Fl (a b:Nat) (hb:0<b) (_ha:a<=9223372036854775807) (hc:AF ops F k .rem=some ((a:Int),(b:Int)):=by kernel_rfl):Xs P (ZA ops k) F h [] (.i (a % b:Nat)):=by
 rw [Int.natCast_emod];exact DE a b om om hc
def Ar (a b:Int):Int:=IntKind.i64.wrap ((BitVec.ofInt 64 a ^^^ BitVec.ofInt 64 b).toNat:Int)
theorem Gn {a b:Int} (ha:0<=a/\a<4611686018427387904) (hb:0<=b/\b<4611686018427387904):0<=Ar a b/\Ar a b<4611686018427387904:=by
 obtain ⟨x,rfl⟩:=Int.eq_ofNat_of_zero_le ha.1
 obtain ⟨y,rfl⟩:=Int.eq_ofNat_of_zero_le hb.1
 have h1:(BitVec.ofInt 64 (x:Int) ^^^ BitVec.ofInt 64 (y:Int)).toNat=x ^^^ y:=by
  rw [BitVec.toNat_xor,BitVec.toNat_ofInt,BitVec.toNat_ofInt]
  have e1:((x:Int) % ((2 ^ 64:Nat):Int)).toNat=x:=by omega
  have e2:((y:Int) % ((2 ^ 64:Nat):Int)).toNat=y:=by omega
  rw [e1,e2]
 have h2:x ^^^ y<2 ^ 62:=Nat.xor_lt_two_pow om om
 rw [Ar,h1,LL om]
 omega
theorem Oj (a b:Int) (hc:AF ops F k .xor=some (a,b):=by kernel_rfl):Xs P (ZA ops k) F h [] (.i (Ar a b)):=by
 unfold AF at hc
 generalize hoo:ZA ops k=o at hc
 obtain ⟨dst,op,type,pos,after,guard⟩:=o
 cases op<;>simp only at hc<;>try (cases hc)
 rename_i bop t x y yt
 cases bop<;>simp only [Zo,reduceCtorEq,if_false,if_true] at hc<;>try (cases hc)
 split at hc
 ·rename_i z yk h1 h2
  cases hc
  intro n' w G ac hF hh
  have v1:=hF.ev x
  have v2:=hF.ev y
  rw [h1] at v1
  rw [h2] at v2
  have v1:=v1.val_inv
  have v2:=v2.val_inv
  refine ⟨_,.val,fun w' _ _=>?_⟩
  simp only [execOp,v1,v2]
  refine V3 ?_
  simp [eqGuard,binOp,Op.intBits,IntKind.bits]
  exact Ym (fun z:Nat=>IntKind.i64.wrap (z:Int)) (by rw [BitVec.toNat_xor,BitVec.toNat_ofInt,BitVec.toNat_ofInt];rfl)
 ·cases hc
end
end Go.Abs
section
namespace Go.Abs
inductive Z1 where
 | mk (op num:Int) (kids:List Z1)
namespace Z1
def op:Z1->Int|.mk a _ _=>a
def num:Z1->Int|.mk _ a _=>a
def kids:Z1->List Z1|.mk _ _ a=>a
end Z1
structure Func where
 params:LI
 result:Int
 body:Z1
structure W4 where
 decls:List Zf
 funcs:List Func
instance:Inhabited Z1:=⟨.mk 0 0 []⟩
mutual
def Hr:Z1->AV
 | .mk op num kids=>.agg [.i op,.i num,.sl (Yq kids) none]
def Yq:List Z1->List AV
 | []=>[]
 | e::r=>Hr e::Yq r
end
abbrev Y2 (e:Z1):AV:=.agg [.i e.op,.i e.num,.sl (Yq e.kids) none]
abbrev YX (e:Z1):List AV:=[.i e.op,.i e.num,.sl (Yq e.kids) none]
abbrev Xx (xs:List Z1):AV:=.sl (Yq xs) none
abbrev Ql (xs:List Z1) (v:Value):AV:=.sl (Yq xs) (some v)
abbrev Db (f:Func):AV:=.agg [Z4 f.params,.i f.result,.i f.body.op,.i f.body.num,Xx f.body.kids]
abbrev Fp (f:Func):List AV:=[Z4 f.params,.i f.result,.i f.body.op,.i f.body.num,Xx f.body.kids]
def Xp (xs:List Func):List AV:=xs.map Db
abbrev Fx (xs:List Func):AV:=.sl (Xp xs) none
abbrev JU (p:W4):AV:=.agg [ZT p.decls,Fx p.funcs]
abbrev Ii (p:W4):List AV:=[ZT p.decls,Fx p.funcs]
abbrev GJ (z:Int):AV:=.val (.int .u8 z)
def TJ (xs:LI):List AV:=xs.map GJ
abbrev U8 (xs:LI):AV:=.sl (TJ xs) none
theorem Z2t (e:Z1):Hr e=Y2 e:=by cases e;rw [Hr];rfl
theorem XI:∀xs:List Z1,Yq xs=xs.map Y2
 | []=>by rw [Yq];rfl
 | s::ss=>by rw [Yq,XI ss,Z2t];rfl
theorem Cj {xs:List Z1} {j:Nat} {x:Z1} (h:xs[j]? = some x):(Yq xs)[j]? = some (Y2 x):=by simp [XI,h]
theorem EG {xs:List Func} {j:Nat} {x:Func} (h:xs[j]? = some x):(Xp xs)[j]? = some (Db x):=by simp [Xp,h]
theorem Cf {xs:LI} {j:Nat} {x:Int} (h:xs[j]? = some x):(TJ xs)[j]? = some (GJ x):=by simp [TJ,h]
@[simp] theorem Hs (xs:List Z1):(Yq xs).length=xs.length:=by simp [XI]
@[simp] theorem Ck (xs:List Func):(Xp xs).length=xs.length:=by simp [Xp]
@[simp] theorem Ky (xs:LI):(TJ xs).length=xs.length:=by simp [TJ]
theorem Jz (xs ys:List Z1):Yq (xs++ys)=Yq xs++Yq ys:=by simp [XI]
theorem Z2u (xs ys:List Func):Xp (xs++ys)=Xp xs++Xp ys:=by simp [Xp]
theorem Hn (xs:LI) (n:Nat):(TJ xs).take n=TJ (xs.take n):=by simp [TJ]
theorem Hm (xs:LI) (n:Nat):(TJ xs).drop n=TJ (xs.drop n):=by simp [TJ]
theorem T8 (xs:List Z1):∀y∈Yq xs,y.leaves.length=3:=by intro y hy;simp only [XI,W8] at hy;obtain ⟨x,_,rfl⟩:=hy;rfl
theorem EH (xs:List Func):∀y∈Xp xs,y.leaves.length=5:=by intro y hy;simp only [Xp,W8] at hy;obtain ⟨x,_,rfl⟩:=hy;rfl
theorem Z2p (xs:LI):∀y∈TJ xs,y.leaves.length=1:=by intro y hy;simp only [TJ,W8] at hy;obtain ⟨x,_,rfl⟩:=hy;rfl
theorem JA (xs:List Z1):(Zl (Yq xs)).all AV.one=true:=Jb fun y hy=>by simp only [XI,W8] at hy;obtain ⟨x,_,rfl⟩:=hy;rfl
end Go.Abs
end
section
namespace Go.Abs
open Go.Proofs Go.Proofs.YtjmahledcmocoaaGreat
section
variable {H:Type} {enc:TypeId × Value->H} {w:World}
def GA (w:World):Y7:=fun b _=>b<w.heap.size
abbrev Tr (enc:TypeId × Value->H) (w:World) (n:Nat) (t:TypeId) (cs:List Value) (x:DataW H × List MemPlace):Prop:=DataW.trod enc Tryz.prog w 0 (fun _=>true) true n t cs=some x
theorem OM {w:World} {a:Addr} {v:Value} (h:w.cell? a=some v):a.block<w.heap.size/\a.spot=none:=by
 unfold World.cell? at h
 split at h
 ·rename_i c e fr hb
  split at h
  ·cases h
  ·rename_i hs
   exact ⟨(UH.1 hb).1,by simpa using hs⟩
 ·cases h
theorem Mv {α:Type} {c:α->Nat}:∀{xs:List α} {ds:List (DataW H)},xs.length=ds.length->(∀(i:Nat) a d,xs[i]? = some a->ds[i]? = some d->c a+1<=Rows.uptoBulk d)->(xs.map fun a=>c a+1).sum<=Rows.uptoBulkAll ds
 | [],[],_,_=>X4 _
 | a::r,d::ds,hl,h=>by
  have h0:=h 0 a d rfl rfl
  have h1:=Mv (c:=c) (xs:=r) (ds:=ds) (by simpa using hl) fun i a d ha hd=>h (i+1) a d (by simpa using ha) (by simpa using hd)
  rw [Ul,List.sum_cons,Rows.uptoBulkAll]
  omega
theorem Ps {α:Type} {f:α->AV} {G:Y7} {k b:Nat} (hf:∀x,(f x).leaves.length=k):∀{xs:List α} {o:Nat},(∀(i:Nat) a,xs[i]? = some a->Wm w G b (o+i*k) (f a).leaves)->Vc w G k b o (xs.map f)
 | [],_,_=>.nil
 | x::r,o,h=>by
  refine .cons (hf x) (by have:=h 0 x rfl;simpa using this) (Ps hf fun i a ha=>?_)
  have:=h (i+1) a (by simpa using ha)
  rw [show o+(i+1)*k=o+k+i*k by rw [Qd];omega] at this
  exact this
theorem Za0 {α:Type} [Inhabited α] {t e k:Nat} (ht:Tryz.prog.underlying t=some (.slice e)) (hk:Tryz.prog.cellsOf e=k) (h0:0<k) (f:α->AV) (hf:∀x,(f x).leaves.length=k) (c:α->Nat) (Q:α->Prop) {n:Nat} {cs:List Value} {x:DataW H × List MemPlace}
  (h:Tr enc w n t cs x) (el:∀m cs y,m<n->Tr enc w m e cs y->∃a:α,YP w (GA w) (f a).leaves cs/\c a+1<=Rows.uptoBulk y.1/\Q a) :
  ∃(v:Value) (xs:List α),cs=[v]/\RV w (GA w) (.sl (xs.map f) none) v/\(xs.map fun a=>c a+1).sum+1<=Rows.uptoBulk x.1/\∀a∈xs,Q a:=by
 rcases DataW.trod_slice ht h with ⟨rfl,rfl⟩|⟨a,len,cap,elems,rest,m,rfl,rfl,rfl,_,hlc,_,hlen,hel,_,_⟩
 ·exact ⟨_,[],rfl,.nil (by simp),by simp [Rows.uptoBulk],by simp⟩
 ·rw [hk] at hel
  have hone:∀i,i<len->∃z:α,∃cs' y,w.cells? 0 (a.add (i*k)) k=some cs'/\elems[i]? = some y/\YP w (GA w) (f z).leaves cs'/\c z+1<=Rows.uptoBulk y.1/\Q z:=by
   intro i hi
   have h1:=hel i hi
   rw [Km om] at h1
   obtain ⟨cs',h2,h3⟩:=Option.bind_eq_some_iff.1 h1
   obtain ⟨z,hz1,hz2,hz3⟩:=el m cs' _ om h3
   exact ⟨z,cs',_,h2,Km om,hz1,hz2,hz3⟩
  obtain ⟨V,hV⟩:=Go.Deep.choose_lt hone
  refine ⟨_,(List.range len).map V,rfl,?_,?_,?_⟩
  ·cases hl0:len with
   | zero=>exact .nil (by simp)
   | succ q=>
    have hsp:a.spot=none:=by
     obtain ⟨cs',y,g1,_⟩:=hV 0 om
     obtain ⟨_,g2,g3⟩:=World.cells?_some g1
     have g4:=g3 0 h0
     rw [Km om] at g4
     have g5:=(OM g4).2
     simpa [Addr.add] using g5
    obtain ⟨b,o,sp⟩:=a
    simp only at hsp
    subst hsp
    rw [<-hl0]
    have hll:(((List.range len).map V).map f).length=len:=by simp
    have:=RV.sl (w:=w) (G:=GA w) (es:=((List.range len).map V).map f) (hv:=none) (b:=b) (o:=o) (k:=k) (cap:=cap) (by simp) (by rw [hll];exact hlc) (Ps hf fun i z hz=>by
     have hi:i<len:=by have:=(Xn.1 hz).1;simpa using this
     have hz':V i=z:=by simpa [hi] using hz
     obtain ⟨cs',y,g1,_,g2,_⟩:=hV i hi
     rw [hz'] at g2
     obtain ⟨_,g3,g4⟩:=World.cells?_some g1
     refine Wm.of_cells g2 fun j u hj=>?_
     have hjl:j<k:=by have:=(Xn.1 hj).1;omega
     have g5:=(g4 j hjl).trans hj
     rw [Addr.add_lit,Addr.add_lit] at g5
     exact ⟨g5,(OM g5).1⟩)
    rw [hll] at this
    exact this
  ·have:=Mv (c:=c) (xs:=(List.range len).map V) (ds:=elems.map (·.1)) (by simp [hlen]) fun i z d hz hd=>by
    have hi:i<len:=by have:=(Xn.1 hz).1;simpa using this
    have hz':V i=z:=by simpa [hi] using hz
    obtain ⟨cs',y,_,g1,_,g2,_⟩:=hV i hi
    rw [T0,g1] at hd
    simp only [Bq,Wc] at hd
    rw [<-hd,<-hz']
    exact g2
   simp only [Rows.uptoBulk]
   omega
  ·intro z hz
   obtain ⟨i,hi,rfl⟩:=W8.1 hz
   obtain ⟨_,_,_,_,_,_,g⟩:=hV i (List.mem_range.1 hi)
   exact g
theorem Z9y {n:Nat} {cs:List Value} {x:DataW H × List MemPlace} (h:Tr enc w n 5 cs x):∃z:Int,cs=[.int .u8 z]/\Rows.uptoBulk x.1=1/\0<=z/\z<=255:=by
 obtain ⟨z,rfl,rfl,hw⟩:=DataW.trod_int Tryz.underlying5 h
 refine ⟨z,rfl,rfl,?_⟩
 simpa [Lit.wf,IntKind.min,IntKind.max,IntKind.signed,IntKind.bits] using hw
theorem Z9z {n:Nat} {cs:List Value} {x:DataW H × List MemPlace} (h:Tr enc w n 22 cs x):∃(v:Value) (xs:LI),cs=[v]/\RV w (GA w) (U8 xs) v/\∀z∈xs,0<=z/\z<=255:=by
 obtain ⟨v,xs,h1,h2,h3,h4⟩:=Za0 Tryz.underlying22 (k:=1) kr om (fun z:Int=>GJ z) (fun _=>rfl) (fun _=>0) (fun z=>0<=z/\z<=255) h fun m cs y _ hy=>by
  obtain ⟨z,rfl,hb,hz⟩:=Z9y hy
  exact ⟨z,.cons .val .nil,Nat.le_of_eq hb.symm,hz⟩
 exact ⟨v,xs,h1,h2,h4⟩
end
end Go.Abs
end
namespace Go.Abs
structure Sg where
 params:LI
 result:Int
abbrev LT (f:Sg):AV:=.agg [.sl (Z6 f.params) none,.i f.result,.i 0,.i 0,.sl [] none]
def Ud (fs:List Sg):List AV:=fs.map LT
theorem Hv {xs:List Sg} {j:Nat} {x:Sg} (h:xs[j]? = some x):(Ud xs)[j]? = some (LT x):=by simp [Ud,h]
@[simp] theorem MX (xs:List Sg):(Ud xs).length=xs.length:=by simp [Ud]
theorem MW (xs:List Sg):∀y∈Ud xs,y.leaves.length=5:=by intro y hy;simp only [Ud,W8] at hy;obtain ⟨x,_,rfl⟩:=hy;rfl
theorem Z2y (xs:List Sg):(Zl (Ud xs)).all AV.one=true:=Jb fun y hy=>by simp only [Ud,W8] at hy;obtain ⟨x,_,rfl⟩:=hy;rfl
mutual
def Z5.sz:Z5->Nat
 | .mk _ _ _ args kids=>1+args.length+X7 kids
def Z8.sz:Z8->Nat
 | .mk steps _=>1+Ye steps
def Ye:List Z5->Nat
 | []=>0
 | s::r=>s.sz+Ye r
def X7:List Z8->Nat
 | []=>0
 | b::r=>b.sz+X7 r
end
theorem Z5.sz_pos (s:Z5):1<=s.sz:=by cases s;rw [Z5.sz];omega
theorem Z8.sz_pos (b:Z8):1<=b.sz:=by cases b;rw [Z8.sz];omega
theorem KS (l:List Z5):l.length<=Ye l:=by
 induction l with
 | nil=>simp
 | cons s r ih=>have:=s.sz_pos;simp only [YS,Ye];omega
theorem Ms (l:List Z8):l.length<=X7 l:=by
 induction l with
 | nil=>simp
 | cons s r ih=>have:=s.sz_pos;simp only [YS,X7];omega
theorem Rs {l:List Z5} {k:Nat} {s:Z5} (h:l[k]? = some s):s.sz<=Ye l:=by
 induction l generalizing k with
 | nil=>simp at h
 | cons t r ih=>
  cases k with
  | zero=>simp at h;subst h;simp only [Ye];omega
  | succ k=>have:=ih (k:=k) (by simpa using h);simp only [Ye];omega
theorem Z0i {l:List Z8} {k:Nat} {s:Z8} (h:l[k]? = some s):s.sz<=X7 l:=by
 induction l generalizing k with
 | nil=>simp at h
 | cons t r ih=>
  cases k with
  | zero=>simp at h;subst h;simp only [X7];omega
  | succ k=>have:=ih (k:=k) (by simpa using h);simp only [X7];omega
theorem Z5.sz_eq (s:Z5):s.sz=1+s.args.length+X7 s.kids:=by cases s;rw [Z5.sz];rfl
theorem Z8.sz_eq (b:Z8):b.sz=1+Ye b.steps:=by cases b;rw [Z8.sz];rfl
theorem JJ {b:Z8} {k:Nat} {s:Z5} (h:b.steps[k]? = some s):s.sz<b.sz:=by have:=Rs h;have:=b.sz_eq;omega
theorem Tt {s:Z5} {k:Nat} {b:Z8} (h:s.kids[k]? = some b):b.sz<s.sz:=by have:=Z0i h;have:=s.sz_eq;omega
theorem Qe (s:Z5):s.args.length<s.sz:=by have:=s.sz_eq;omega
theorem Tv (s:Z5):s.kids.length<s.sz:=by have:=s.sz_eq;have:=Ms s.kids;omega
theorem U0 (b:Z8):b.steps.length<b.sz:=by have:=b.sz_eq;have:=KS b.steps;omega
structure JR (ds:List Zf):Prop where
 len:ds.length<=4194304
 cons:∀d∈ds,d.cons.length<=4194304
 fields:∀d∈ds,∀c∈d.cons,c.fields.length<=4194304
theorem JR.cons_at {ds:List Zf} (h:JR ds) {k:Nat} {d:Zf} (hd:ds[k]? = some d):d.cons.length<=4194304:=h.cons d (Y4 hd)
def J7 (m:Nat) (c:Yj):Bool:=decide (c.fields.length<=3)&&We m c.fields
def QB (d:Zf):List Zf->Bool
 | []=>false
 | e::r=>if e.cons.length=0/\e.frm=d.frm/\e.to_=d.to_ then true else QB d r
def TB (m:Nat):List Yj->Bool
 | []=>true
 | c::r=>if J7 m c=true then TB m r else false
def UA (ds:List Zf) (d:Zf) (i:Nat):Bool:=
 if 0<d.cons.length then (if d.cons.length<=3/\d.frm=0/\d.to_=0 then TB ds.length d.cons else false)
 else if QB d (ds.take i)=true then false else decide (0<=d.frm/\d.frm<=ds.length)&&decide (0<=d.to_/\d.to_<=ds.length)
def BD (ds:List Zf) (i:Nat):Bool:=(ds[i]?.map fun d=>UA ds d i).getD false
theorem Dj {ds:List Zf} {i:Nat} {d:Zf} (h:ds[i]? = some d):BD ds i=UA ds d i:=by rw [BD,h];rfl
def T6 (ds:List Zf):List Zf->Nat->Bool
 | [],_=>true
 | _::r,i=>if BD ds i=true then T6 ds r (i+1) else false
def WO (ds:List Zf):Bool:=decide (ds.length<=4)&&T6 ds ds 0
theorem ML {m:Nat} {cs:List Yj}:TB m cs=true↔∀c∈cs,J7 m c=true:=by
 induction cs with
 | nil=>simp [TB]
 | cons c r ih=>
  rw [TB]
  split
  ·rename_i h;simp [ih,h]
  ·rename_i h;simp [h]
theorem Hb {ds:List Zf}:∀{l:List Zf} {i:Nat},T6 ds l i=true↔∀j<l.length,BD ds (i+j)=true
 | [],i=>by simp [T6]
 | d::r,i=>by
  rw [T6]
  split
  ·rename_i h
   rw [Hb (l:=r)]
   constructor
   ·intro hq j hj
    cases j with
    | zero=>exact h
    | succ j=>have:=hq j (by simpa using hj);rwa [show i+(j+1)=i+1+j by omega]
   ·intro hq j hj
    have:=hq (j+1) (by simpa using hj)
    rwa [show i+(j+1)=i+1+j by omega] at this
  ·rename_i h
   simp only [Bool.false_eq_true,false_iff]
   intro hq
   exact h (hq 0 (by simp))
theorem Ze4 {ds:List Zf} (h:WO ds=true):WD ds:=by
 simp only [WO,W2,decide_eq_true_eq] at h
 obtain ⟨h1,h2⟩:=h
 rw [Hb] at h2
 have key:∀d∈ds,∃i,UA ds d i=true:=fun d hd=>by
  obtain ⟨i,hi⟩:=List.mem_iff_getElem?.1 hd
  have:=h2 i (Xn.1 hi).1
  rw [Vb,Dj hi] at this
  exact ⟨i,this⟩
 have hc:∀d∈ds,0<d.cons.length->d.cons.length<=3/\TB ds.length d.cons=true:=fun d hd hp=>by
  obtain ⟨i,hi⟩:=key d hd
  rw [UA,Ze hp] at hi
  split at hi
  ·rename_i h;exact ⟨h.1,hi⟩
  ·cases hi
 refine ⟨h1,fun d hd=>?_,fun d hd c hc'=>?_⟩
 ·by_cases hp:0<d.cons.length
  ·exact (hc d hd hp).1
  ·omega
 ·have:=ML.1 (hc d hd (List.length_pos_of_mem hc')).2 c hc'
  simp only [J7,W2,decide_eq_true_eq] at this
  exact this.1
def KP (m:Nat) (f:Sg):Bool:=decide (f.params.length<=3)&&(We m f.params&&decide (0<=f.result/\f.result<=m))
def KQ (m:Nat):List Sg->Bool
 | []=>true
 | f::r=>if KP m f=true then KQ m r else false
def EQ:List Sg->Bool
 | []=>false
 | f::_=>decide (f.params.length=0)&&decide (f.result=0)
theorem Z3d {fs:List Sg} {x:Sg} (h:fs[0]? = some x):EQ fs=(decide (x.params.length=0)&&decide (x.result=0)):=by
 cases fs with
 | nil=>simp at h
 | cons f r=>simp at h;subst h;rfl
def QY (ds:List Zf) (fs:List Sg):Bool:=
 WO ds&&(decide (1<=fs.length/\fs.length<=4)&&(KQ ds.length fs&&EQ fs))
def Qk (ps:LI):LI->Option Int->Bool
 | [],_=>true
 | v::r,prev=>if (0<=v/\v<=(ps.length:Int)-1)/\ps[v.toNat]?≠some 0/\(∀p,prev=some p->p<v) then Qk ps r (some v) else false
theorem Ip {ps r:LI} {v:Int} {prev:Option Int} (h:(0<=v/\v<=(ps.length:Int)-1)/\ps[v.toNat]?≠some 0/\(∀p,prev=some p->p<v)):Qk ps (v::r) prev=Qk ps r (some v):=by
 rw [Qk,Ze h]
theorem Fu {ps r:LI} {v:Int} {prev:Option Int} (h:¬((0<=v/\v<=(ps.length:Int)-1)/\ps[v.toNat]?≠some 0/\(∀p,prev=some p->p<v))):Qk ps (v::r) prev=false:=by
 rw [Qk,Z7 h]
def KY (ps ls:LI):Bool:=Qk ps ls none
def KL:List Yg->Bool
 | []=>true
 | r::rs=>if KY r.params r.lent=true then KL rs else false
def Ut (r:Yg):Sg:=⟨r.params,r.result⟩
def VL (n:Zp):Bool:=decide (n.routines.length<=4)&&(QY n.decls (n.routines.map Ut)&&KL n.routines)
end Go.Abs
section
namespace Go.Abs
def Xz {α:Type} (xs:List α) (i:Int):Option α:=if 0<=i/\i<=(xs.length:Int)-1 then xs[i.toNat]? else none
theorem TX {α:Type} {xs:List α} {i:Int} {x:α} (h:0<=i/\i<=(xs.length:Int)-1) (hx:xs[i.toNat]? = some x):Xz xs i=some x:=by rw [Xz,Ze h,hx]
theorem K7 {α:Type} {xs:List α} {i:Int} (h:¬(0<=i/\i<=(xs.length:Int)-1)):Xz xs i=none:=by rw [Xz,Z7 h]
theorem Kw {α:Type} {xs:List α} {i:Int} {x:α} (h:Xz xs i=some x):(0<=i/\i<=(xs.length:Int)-1)/\xs[i.toNat]? = some x:=by
 rw [Xz] at h
 split at h
 ·rename_i h1;exact ⟨h1,h⟩
 ·cases h
def UX (vars:LI):LI->LI->Bool
 | [],[]=>true
 | a::as1,t::ts=>if Xz vars a=some t then UX vars as1 ts else false
 | _,_=>false
def W7 (vars args types:LI):Bool:=UX vars args types
theorem RT {vars:LI}:∀{args types:LI},args.length≠types.length->UX vars args types=false
 | [],[],h=>absurd rfl h
 | [],_::_,_=>rfl
 | _::_,[],_=>rfl
 | a::as1,t::ts,h=>by
  rw [UX]
  split
  ·exact RT (by simpa using h)
  ·rfl
theorem Zdw {vars args types:LI} {k:Nat} {a t:Int} (ha:args[k]? = some a) (ht:types[k]? = some t) (h:Xz vars a=some t) :
  UX vars (args.drop k) (types.drop k)=UX vars (args.drop (k+1)) (types.drop (k+1)):=by
 rw [Y5 ha,Y5 ht,UX,Ze h]
theorem RS {vars args types:LI} {k:Nat} {a t:Int} (ha:args[k]? = some a) (ht:types[k]? = some t) (h:Xz vars a≠some t) :
  UX vars (args.drop k) (types.drop k)=false:=by
 rw [Y5 ha,Y5 ht,UX,Z7 h]
theorem Zdv {vars args types:LI} {k:Nat} (ha:args.length<=k) (ht:types.length<=k):UX vars (args.drop k) (types.drop k)=true:=by
 rw [Xe ha,Xe ht];rfl
def VC (op:Int):Bool:=op==0||(op==6||(op==8||(op==9||op==10)))
def XL (op:Int):Bool:=decide (0<=op/\op<=11)
def YA (op:Int):Bool:=decide (14<=op/\op<=17)
def Uk (vars:LI) (op into:Int):Bool:=
 if into=0 then true else if op=6 then ((Xz vars (into-1)).map fun t=>decide (0<t)).getD false else false
def Kv (ds:List Zf) (ps:LI) (res:Int):Int:=Ua ds (ps.getLast?.getD 0) res
def Kg (ds:List Zf) (vars:LI) (op:Int) (args:LI) (r:Yg):Int:=
 if op=9 then (if W7 vars args r.params=true then r.result else -1)
 else if r.params.length=0∨0<r.lent.length∨¬W7 vars args (r.params.take (r.params.length-1))=true then -1
 else Kv ds r.params r.result
def Tx (n:Zp) (vars:LI) (op num:Int) (args:LI):Int:=
 match Xz n.routines num with
 | none=>-1
 | some r=>Kg n.decls vars op args r
def Qf (ds:List Zf) (vars:LI) (op:Int) (args:LI):Int:=
 match args with
 | [a]=>match Xz vars a with
  | some t=>if t=0 then -1 else if (op≠14/\op≠15)/\XT ds t=true then -1 else 0
  | none=>-1
 | _=>-1
def Qw (ds:List Zf) (vars:LI) (args:LI):Int:=
 match args with
 | [a,b]=>match Xz vars a with
  | some t=>if XT ds t=true then
    (match ds[(t-1).toNat]? with
     | some d=>if W7 vars [b] [d.frm]=true then d.to_ else -1
     | none=>-1) else -1
  | none=>-1
 | _=>-1
def Xm (ds:List Zf) (op num:Int):List LI:=if op=7 then [[],[]] else (ZW ds num).map (ZU ds)
mutual
def Ya (n:Zp) (vars:LI):Z5->Int
 | .mk op num into args kids=>
  if (num≠0/\¬VC op=true)∨¬Uk vars op into=true∨(0<kids.length/\op≠7/\op≠8) then -1
  else if op=0 then (if args.length=0/\(-999<=num/\num<=999) then 0 else -1)
  else if op=1∨op=2∨op=3∨op=4 then (if W7 vars args [0,0]=true then 0 else -1)
  else if op=5 then (if W7 vars args [0]=true then 0 else -1)
  else if op=6 then (if 0<Wa n.decls num/\W7 vars args (ZU n.decls num)=true then Wa n.decls num else -1)
  else if op=7 then (if W7 vars args [0]=true then (if (Xm n.decls op num).length=0∨kids.length≠(Xm n.decls op num).length then -1 else WV n vars kids (Xm n.decls op num) true 0) else -1)
  else if op=8 then (if W7 vars args [num]=true then (if (Xm n.decls op num).length=0∨kids.length≠(Xm n.decls op num).length then -1 else WV n vars kids (Xm n.decls op num) true 0) else -1)
  else if op=9∨op=10 then Tx n vars op num args
  else if op=11 then Qw n.decls vars args
  else if op=14∨op=15∨op=16∨op=17 then Qf n.decls vars op args
  else -1
def WV (n:Zp) (vars:LI):List Z8->List LI->Bool->Int->Int
 | [],_,_,t=>t
 | b::bs,more,first,t=>
  match more with
  | []=>-1
  | m::ms=>if Xi n (vars++m) b<0∨(first=false/\Xi n (vars++m) b≠t) then -1 else WV n vars bs ms false (Xi n (vars++m) b)
def Ws (n:Zp):List Z5->LI->Option LI
 | [],vars=>some vars
 | s::r,vars=>if Ya n vars s<0 then none else Ws n r (if XL s.op=true then vars++[Ya n vars s] else vars)
def Xi (n:Zp) (vars:LI):Z8->Int
 | .mk steps result=>match Ws n steps vars with
  | none=>-1
  | some vs=>(Xz vs result).getD (-1)
end
def Tu (n:Zp) (vars:LI) (op num:Int) (kids:List Z8):Int:=
 if (Xm n.decls op num).length=0∨kids.length≠(Xm n.decls op num).length then -1 else WV n vars kids (Xm n.decls op num) true 0
mutual
def AT:Z5->Int->Int
 | .mk _ _ _ _ kids,left=>Q7 kids left
def WG:Z8->Int->Int
 | .mk steps _,left=>TN steps left
def TN:List Z5->Int->Int
 | [],left=>left
 | s::r,left=>if left<1 then -1 else if AT s (left-1)<0 then -1 else TN r (AT s (left-1))
def Q7:List Z8->Int->Int
 | [],left=>left
 | b::r,left=>if WG b left<0 then -1 else Q7 r (WG b left)
end
def TF (b:Z8):Int:=if WG b 600<0 then -1 else 600-WG b 600
def QR (n:Zp):List Yg->Bool
 | []=>true
 | r::rs=>if ¬TF r.body<0/\Xi n r.params r.body=r.result then QR n rs else false
def XU (n:Zp):Bool:=VL n&&QR n n.routines
theorem Io:(∀(s:Z5) (l:Int),0<=l->AT s l<=l)/\(∀(b:Z8) (l:Int),0<=l->WG b l<=l):=by
 have key:∀m:Nat,(∀s:Z5,s.sz<=m->∀l:Int,0<=l->AT s l<=l)/\(∀b:Z8,b.sz<=m->∀l:Int,0<=l->WG b l<=l):=by
  intro m
  induction m with
  | zero=>exact ⟨fun s h=>by have:=s.sz_pos;omega,fun s h=>by have:=s.sz_pos;omega⟩
  | succ m ih=>
   refine ⟨fun s hs l hl=>?_,fun b hb l hl=>?_⟩
   ·cases s with
    | mk op num into args kids=>
     rw [AT]
     have hk:X7 kids<=m:=by rw [Z5.sz] at hs;omega
     clear hs
     induction kids generalizing l with
     | nil=>rw [Q7];exact Int.le_refl _
     | cons b r ihr=>
      rw [X7] at hk
      have:=ih.2 b om l hl
      rw [Q7]
      split
      ·omega
      ·have:=ihr (WG b l) om om;omega
   ·cases b with
    | mk steps res=>
     rw [WG]
     have hk:Ye steps<=m:=by rw [Z8.sz] at hb;omega
     clear hb
     induction steps generalizing l with
     | nil=>rw [TN];exact Int.le_refl _
     | cons s r ihr=>
      rw [Ye] at hk
      rw [TN]
      split
      ·omega
      ·have:=ih.1 s om (l-1) om
       split
       ·omega
       ·have:=ihr (AT s (l-1)) om om;omega
 exact ⟨fun s l hl=>(key s.sz).1 s (X4 _) l hl,fun b l hl=>(key b.sz).2 b (X4 _) l hl⟩
end Go.Abs
namespace Go.Abs
theorem Zcs {l:List Z5} {k:Nat} {s:Z5} (h:l[k]? = some s):k+s.sz<=Ye l:=by
 induction l generalizing k with
 | nil=>simp at h
 | cons t r ih=>
  cases k with
  | zero=>simp at h;subst h;simp only [Ye];omega
  | succ k=>have:=ih (k:=k) (by simpa using h);have:=t.sz_pos;simp only [Ye];omega
theorem C1 {b:Z8} {k:Nat} {s:Z5} (h:b.steps[k]? = some s):k+s.sz<b.sz:=by have:=Zcs h;have:=b.sz_eq;omega
structure X0 (n:Zp):Prop where
 decls:WD n.decls
 len:n.routines.length<=4
 params:∀r∈n.routines,r.params.length<=3
 lent:∀r∈n.routines,r.lent.length<=4194304
theorem X0.params_at {n:Zp} (h:X0 n) {k:Nat} {r:Yg} (hr:n.routines[k]? = some r):r.params.length<=3:=h.params r (Y4 hr)
theorem X0.lent_at {n:Zp} (h:X0 n) {k:Nat} {r:Yg} (hr:n.routines[k]? = some r):r.lent.length<=4194304:=h.lent r (Y4 hr)
theorem SV {ds:List Zf} {num:Int} {k:Nat} {x:Int} (h:(ZW ds num)[k]? = some x):(Xm ds 8 num)[k]? = some (ZU ds x):=by
 rw [Xm,Z7 om,T0,h];rfl
end Go.Abs
namespace Go.Abs
theorem Iz {ds:List Zf} (hd:WD ds) (t:Int):(ZW ds t).length<=3:=by
 rw [ZW]
 split
 ·rename_i h
  obtain ⟨d,hd1⟩:=KA (xs:=ds) (j:=(t-1).toNat) om
  rw [hd1,Z90]
  exact hd.cons_at hd1
 ·simp
theorem U4 {ds:List Zf} (hd:WD ds) (c:Int):(ZU ds c).length<=3:=by
 by_cases h:Wa ds c<1
 ·rw [(Ex h).1];simp
 ·obtain ⟨k,d,x,h1,_,h3,_,h5⟩:=H7 h
  rw [h5];exact hd.fields_at h1 h3
theorem Ej {ds:List Zf} (hd:WD ds) {op num:Int} {k:Nat} {m:LI} (h:(Xm ds op num)[k]? = some m):m.length<=3:=by
 have hm:=Y4 h
 rw [Xm] at hm
 split at hm
 ·simp at hm;subst hm;simp
 ·obtain ⟨c,_,rfl⟩:=W8.1 hm;exact U4 hd c
theorem Ku {α:Type} {xs:List α} {x:α} (h:xs.length=1) (hx:xs[0]? = some x):xs=[x]:=by
 cases xs with
 | nil=>simp at h
 | cons a r=>
  cases r with
  | nil=>simp at hx;rw [hx]
  | cons b r=>simp at h
theorem Cb {ds:List Zf} {us args:LI} {op:Int} (h:args.length≠1):Qf ds us op args=-1:=by
 cases args with
 | nil=>rfl
 | cons a r=>
  cases r with
  | nil=>simp at h
  | cons b r=>rfl
theorem Cc {ds:List Zf} {us args:LI} {op a:Int} (h:args=[a]) (hi:¬(0<=a/\a<=(us.length:Int)-1)):Qf ds us op args=-1:=by
 subst h;rw [Qf];simp only [K7 hi]
theorem Ca {ds:List Zf} {us args:LI} {op a t:Int} (h:args=[a]) (hi:0<=a/\a<=(us.length:Int)-1) (ht:us[a.toNat]? = some t) :
  Qf ds us op args=if t=0 then -1 else if (op≠14/\op≠15)/\XT ds t=true then -1 else 0:=by
 subst h;rw [Qf];simp only [TX hi ht]
theorem Zac {n:Zp} {us args:LI} {op num:Int} {r:Yg} (hi:0<=num/\num<=(n.routines.length:Int)-1) (hr:n.routines[num.toNat]? = some r) :
  Tx n us op num args=Kg n.decls us op args r:=by
 rw [Tx];simp only [TX hi hr]
theorem Zae {n:Zp} {us args:LI} {op num:Int} (hi:¬(0<=num/\num<=(n.routines.length:Int)-1)):Tx n us op num args=-1:=by
 rw [Tx];simp only [K7 hi]
theorem NH {xs:LI} {x:Int} (h:xs[xs.length-1]? = some x):xs.getLast?.getD 0=x:=by
 rw [List.getLast?_eq_getElem?,h];rfl
theorem Ox {n:Zp} {us:LI} {bs:List Z8} {ms:List LI} {b:Z8} {m:LI} {k:Nat} {t:Int} (hb:bs[k]? = some b) (hm:ms[k]? = some m)
  (h:¬(Xi n (us++m) b<0∨(k:Int)>0/\Xi n (us++m) b≠t)) :
  WV n us (bs.drop k) (ms.drop k) (decide (k=0)) t=WV n us (bs.drop (k+1)) (ms.drop (k+1)) (decide (k+1=0)) (Xi n (us++m) b):=by
 rw [Y5 hb,Y5 hm,WV,Z7]
 ·simp
 ·rintro (q|⟨q1,q2⟩)
  ·exact h (.inl q)
  ·exact h (.inr ⟨by simp at q1;omega,q2⟩)
theorem Ov {n:Zp} {us:LI} {bs:List Z8} {ms:List LI} {b:Z8} {m:LI} {k:Nat} {t:Int} (hb:bs[k]? = some b) (hm:ms[k]? = some m)
  (h:Xi n (us++m) b<0∨(k:Int)>0/\Xi n (us++m) b≠t) :
  WV n us (bs.drop k) (ms.drop k) (decide (k=0)) t=-1:=by
 rw [Y5 hb,Y5 hm,WV,Ze]
 rcases h with q|⟨q1,q2⟩
 ·exact .inl q
 ·exact .inr ⟨by simp;omega,q2⟩
theorem Ow {n:Zp} {us:LI} {bs:List Z8} {ms:List LI} {k:Nat} {f:Bool} {t:Int} (hb:bs.length<=k):WV n us (bs.drop k) (ms.drop k) f t=t:=by
 rw [Xe hb,WV]
end Go.Abs
end
namespace Go.Abs
theorem An (n:Zp) (us:LI) (s:Z5):Ya n us s =
  if (s.num≠0/\¬VC s.op=true)∨¬Uk us s.op s.into=true∨(0<s.kids.length/\s.op≠7/\s.op≠8) then -1
  else if s.op=0 then (if s.args.length=0/\(-999<=s.num/\s.num<=999) then 0 else -1)
  else if s.op=1∨s.op=2∨s.op=3∨s.op=4 then (if W7 us s.args [0,0]=true then 0 else -1)
  else if s.op=5 then (if W7 us s.args [0]=true then 0 else -1)
  else if s.op=6 then (if 0<Wa n.decls s.num/\W7 us s.args (ZU n.decls s.num)=true then Wa n.decls s.num else -1)
  else if s.op=7 then (if W7 us s.args [0]=true then Tu n us s.op s.num s.kids else -1)
  else if s.op=8 then (if W7 us s.args [s.num]=true then Tu n us s.op s.num s.kids else -1)
  else if s.op=9∨s.op=10 then Tx n us s.op s.num s.args
  else if s.op=11 then Qw n.decls us s.args
  else if s.op=14∨s.op=15∨s.op=16∨s.op=17 then Qf n.decls us s.op s.args
  else -1:=by
 cases s with
 | mk op num into args kids=>rw [Ya];rfl
theorem En (n:Zp) (us:LI) (b:Z8):Xi n us b=match Ws n b.steps us with
  | none=>-1
  | some vs=>(Xz vs b.result).getD (-1):=by
 cases b with
 | mk st r=>rw [Xi];rfl
theorem M7 {α:Type} {xs:List α} {x:α} (h:xs.length=2) (hx:xs[0]? = some x):∃y,xs=[x,y]:=by
 match xs,h with
 | [a,b],_=>simp at hx;subst hx;exact ⟨b,rfl⟩
theorem UI {ds:List Zf} {us args:LI} (h:args.length≠2):Qw ds us args=-1:=by
 match args,h with
 | [],_=>rfl
 | [_],_=>rfl
 | [_,_],h=>simp at h
 | _::_::_::_,_=>rfl
theorem UJ {ds:List Zf} {us args:LI} {a:Int} (hl:args.length=2) (h:args[0]? = some a) (hi:¬(0<=a/\a<=(us.length:Int)-1)):Qw ds us args=-1:=by
 obtain ⟨y,rfl⟩:=M7 hl h;rw [Qw];simp only [K7 hi]
theorem Uz {ds:List Zf} {us args:LI} {a t:Int} (hl:args.length=2) (h:args[0]? = some a) (hi:0<=a/\a<=(us.length:Int)-1) (ht:us[a.toNat]? = some t) :
  Qw ds us args=if XT ds t=true then
    (match ds[(t-1).toNat]? with
     | some d=>if W7 us (args.drop 1) [d.frm]=true then d.to_ else -1
     | none=>-1) else -1:=by
 obtain ⟨y,rfl⟩:=M7 hl h;rw [Qw];simp only [TX hi ht];rfl
theorem SM {ds:List Zf} {us args:LI} {a t:Int} {d:Zf} (hl:args.length=2) (h:args[0]? = some a) (hi:0<=a/\a<=(us.length:Int)-1) (ht:us[a.toNat]? = some t)
  (hA:XT ds t=true) (hd:ds[(t-1).toNat]? = some d):Qw ds us args=if W7 us (args.drop 1) [d.frm]=true then d.to_ else -1:=by
 rw [Uz hl h hi ht,Ze hA];simp only [hd]
theorem I7 {ds:List Zf} {t:Int} (h:XT ds t=true):1<=t/\t<=ds.length:=by
 simp only [XT,W2,decide_eq_true_eq] at h;exact h.1
theorem OF (b:Z8) (l:Int):WG b l=TN b.steps l:=by cases b;rw [WG];rfl
theorem Ft (s:Z5) (l:Int):AT s l=Q7 s.kids l:=by cases s;rw [AT];rfl
structure Tl (n:Zp):Prop where
 decls:JR n.decls
 len:n.routines.length<=4194304
 params:∀r∈n.routines,r.params.length<=4194304
 lent:∀r∈n.routines,r.lent.length<=4194304
 body:∀r∈n.routines,r.body.sz<=10000000
theorem Ld {m:Nat} {fs:List Sg} (h:KQ m fs=true):∀f∈fs,KP m f=true:=by
 induction fs with
 | nil=>simp
 | cons f r ih=>
  rw [KQ] at h
  split at h
  ·rename_i h1
   intro g hg
   rcases YG.1 hg with rfl|hg
   ·exact h1
   ·exact ih h g hg
  ·cases h
theorem Ix {n:Zp} (hz:Tl n) (h:VL n=true):X0 n:=by
 simp only [VL,QY,W2,decide_eq_true_eq] at h
 obtain ⟨h1,⟨h2,h3,h4,h5⟩,h6⟩:=h
 refine ⟨Ze4 h2,h1,fun r hr=>?_,hz.lent⟩
 have:=Ld h4 (Ut r) (W8.2 ⟨r,hr,rfl⟩)
 simp only [KP,W2,decide_eq_true_eq] at this
 exact this.1
def gI (xs:LI) (i:Int):Int:=xs[i.toNat]?.getD 0
theorem Vr {xs:LI} {i:Int} {x:Int} (h:xs[i.toNat]? = some x):gI xs i=x:=by rw [gI,h];rfl
structure Zt where
 vars:LI
 own:LI
 par:LI
 con:LI
 fst:LI
 tok:LI
def Zt.grow (L:Zt) (t own par:Int):Zt:=⟨L.vars++[t],L.own++[own],L.par++[par],L.con++[-1],L.fst++[-1],L.tok++[-1]⟩
def Uv (L:Zt) (v:Int):Option Zt:=if gI L.own v<1 then none else some { L with own:=L.own.set v.toNat (gI L.own v-1) }
def Qv (own par ln:LI):Nat->Int->Bool
 | 0,_=>false
 | k+1,v=>if gI own v<1/\¬v∈ln then (if gI par v<0 then false else Qv own par ln k (gI par v)) else true
def Wd (L:Zt) (ln:LI) (v:Int):Bool:=Qv L.own L.par ln (v.toNat+1) v
def T3:LI->Int->LI->LI
 | own,_,[]=>own
 | own,p,f::r=>T3 (if f≠0 then own.set p.toNat (gI own p+1) else own) (p+1) r
def Q8 (ds:List Zf) (L:Zt) (op x:Int):Option Zt:=
 if gI L.con x<0∨(op=17/\0<=gI L.tok x) then none
 else match Uv L x with
  | none=>none
  | some L1=>some { L1 with
    own:=T3 L1.own (gI L.fst x) (ZU ds (gI L.con x))
    tok:=if op=17 then L.tok.set x.toNat (ZU ds (gI L.con x)).length else L.tok }
def T5 (op:Int):Bool:=op==6||(op==9||(op==10||op==11))
def Ag (n:Zp) (op num:Int):LI:=if op=9 then ((n.routines[num.toNat]?).map (·.lent)).getD [] else []
def WH (n:Zp) (op num:Int) (i:Nat):Bool:=decide ((i:Int)∈Ag n op num)
def TA (n:Zp) (vars:LI) (op num a:Int) (i:Nat):Bool:=T5 op&&(gI vars a != 0&&!WH n op num i)
def Q2 (n:Zp) (op num:Int):LI->Nat->Zt->Option Zt
 | [],_,L=>some L
 | a::r,i,L=>if TA n L.vars op num a i=true then (match Uv L a with
   | none=>none
   | some L1=>Q2 n op num r (i+1) L1) else Q2 n op num r (i+1) L
def KE (n:Zp) (op num:Int) (ln:LI) (L:Zt):LI->Nat->Bool
 | [],_=>true
 | a::r,i=>if WH n op num i=true/\¬Wd L ln a=true then false else KE n op num ln L r (i+1)
def KF (L:Zt) (into:Int) (m:Nat):Option Zt:=
 if 0<into then (if gI L.tok (into-1)≠m then none else some { L with tok:=L.tok.set (into-1).toNat (-1) }) else some L
def UC (n:Zp) (ln:LI) (L:Zt) (op num into:Int) (args:LI):Option Zt:=
 match Q2 n op num args 0 L with
 | none=>none
 | some L1=>if KE n op num ln L1 args 0=true then KF L1 into args.length else none
def WX:LI->LI->Bool
 | o::os,t::ts=>if o≠0∨0<=t then false else WX os ts
 | _,_=>true
def Zt.take (L:Zt) (m:Nat):Zt:=⟨L.vars.take m,L.own.take m,L.par.take m,L.con.take m,L.fst.take m,L.tok.take m⟩
def Un (L:Zt) (m:Nat):Option Zt:=if WX (L.own.drop m) (L.tok.drop m)=true then some (L.take m) else none
def KC (L:Zt) (par:Int):LI->Zt
 | []=>L
 | t::r=>KC (L.grow t 0 par) par r
def Jr (ds:List Zf) (L:Zt) (x c:Int):Zt:=
 KC { L with con:=L.con.set x.toNat c,fst:=L.fst.set x.toNat L.vars.length } x (ZU ds c)
def Vt (ds:List Zf) (L:Zt) (op num:Int) (args:LI) (i:Nat):Zt:=
 if op=8 then Jr ds L (gI args 0) (gI (ZW ds num) i) else L
def QP (lent:LI):LI->Nat->Zt->Zt
 | [],_,L=>L
 | t::r,i,L=>QP lent r (i+1) (L.grow t (if t≠0/\¬(i:Int)∈lent then 1 else 0) (-1))
def Up (r:Yg):Zt:=QP r.lent r.params 0 ⟨[],[],[],[],[],[]⟩
def Jy (L:Zt) (ln:LI) (v:Int):Option Zt:=if Wd L ln v=true then some { L with own:=L.own.set v.toNat (gI L.own v+1) } else none
def Qm (n:Zp) (ln:LI) (L:Zt) (op num into:Int) (args:LI) (ch:Option Zt):Option Zt:=
 if op=14 then Jy L ln (gI args 0)
 else if op=15 then Uv L (gI args 0)
 else if op=16∨op=17 then Q8 n.decls L op (gI args 0)
 else if op=7∨op=8 then (if op=8/\¬Wd L ln (gI args 0)=true then none else ch)
 else UC n ln L op num into args
def Kz (L:Zt) (op t:Int) (r:Option Zt):Option Zt:=
 match r with
 | none=>none
 | some L1=>if XL op=true then some (L1.grow t (if t≠0 then 1 else 0) (-1)) else some L1
def AW (L:Zt) (first:Option Zt) (rest:Zt->Bool):Option Zt:=
 match first with
 | none=>none
 | some one=>if rest one=true then some { L with own:=one.own,tok:=one.tok } else none
def FV (one:Zt) (two:Option Zt) (rest:Bool):Bool:=
 match two with
 | none=>false
 | some two=>if one.own=two.own/\one.tok=two.tok then rest else false
def CW (r:Option Zt) (f:Zt->Option Zt):Option Zt:=match r with|none=>none|some L=>f L
def VV (m:Nat) (res:Int) (L:Zt):Option Zt:=CW (if gI L.vars res≠0 then Uv L res else some L) fun L2=>Un L2 m
mutual
def Uj (n:Zp) (ln:LI) (L:Zt):Z5->Option Zt
 | .mk op num into args kids=>Kz L op (Ya n L.vars (.mk op num into args kids)) (Qm n ln L op num into args (Q5 n ln L op num args kids))
def Q5 (n:Zp) (ln:LI) (L:Zt) (op num:Int) (args:LI):List Z8->Option Zt
 | []=>none
 | b::bs=>AW L (V8 n ln (Vt n.decls L op num args 0) L.vars.length b) fun one=>Kc n ln L op num args one bs 1
def Kc (n:Zp) (ln:LI) (L:Zt) (op num:Int) (args:LI) (one:Zt):List Z8->Nat->Bool
 | [],_=>true
 | b::bs,i=>FV one (V8 n ln (Vt n.decls L op num args i) L.vars.length b) (Kc n ln L op num args one bs (i+1))
def Vg (n:Zp) (ln:LI) (L:Zt):List Z5->Option Zt
 | []=>some L
 | s::r=>CW (Uj n ln L s) fun L1=>Vg n ln L1 r
def V8 (n:Zp) (ln:LI) (L:Zt) (m:Nat):Z8->Option Zt
 | .mk steps result=>CW (Vg n ln L steps) (VV m result)
end
theorem Lq (n:Zp) (ln:LI) (L:Zt) (s:Z5):Uj n ln L s=Kz L s.op (Ya n L.vars s) (Qm n ln L s.op s.num s.into s.args (Q5 n ln L s.op s.num s.args s.kids)):=by
 cases s with
 | mk op num into args kids=>rw [Uj];rfl
theorem J3 (n:Zp) (ln:LI) (L:Zt) (m:Nat) (b:Z8):V8 n ln L m b=CW (Vg n ln L b.steps) (VV m b.result):=by
 cases b with
 | mk st r=>rw [V8];rfl
def UK (n:Zp) (r:Yg):Bool:=
 match V8 n r.lent (Up r) r.params.length r.body with
 | none=>false
 | some L=>(Un L 0).isSome
def Vp (n:Zp):List Yg->Bool
 | []=>true
 | r::rs=>if UK n r=true then Vp n rs else false
def Vj (n:Zp):Bool:=XU n&&Vp n n.routines
structure Wp (L:Zt):Prop where
 own:L.own.length=L.vars.length
 par:L.par.length=L.vars.length
 con:L.con.length=L.vars.length
 fst:L.fst.length=L.vars.length
 tok:L.tok.length=L.vars.length
structure X5 (ds:List Zf) (L:Zt) (q:Int):Prop where
 len:Wp L
 down:∀j:Int,0<=j->j<L.vars.length->gI L.par j<j
 arm:∀x:Int,0<=x->x<L.vars.length->0<=gI L.con x->0<=gI L.fst x/\gI L.fst x+(ZU ds (gI L.con x)).length<=L.vars.length
 nn:∀x∈L.own,0<=x
 bd:∀x∈L.own,x<=q
end Go.Abs
section
namespace Go.Abs
end Go.Abs
namespace Go.Abs
theorem Z8k {n:Zp} {op num:Int} {r:Yg} (h:op=9) (hr:n.routines[num.toNat]? = some r):Ag n op num=r.lent:=by
 rw [Ag,Ze h,hr];rfl
end Go.Abs
namespace Go.Abs
theorem Su {own par ln:LI} {N:Int} (hd:∀j:Int,0<=j->j<N->gI par j<j):∀(k:Nat) (v:Int),0<=v->v<N->v.toNat+1<=k->Qv own par ln k v=Qv own par ln (v.toNat+1) v:=by
 intro k
 induction k using Nat.strongRecOn with
 | ind k ih=>
  intro v h0 hN hk
  cases k with
  | zero=>omega
  | succ k=>
   rw [Qv,Qv]
   split
   ·split
    ·rfl
    ·have hdv:=hd v h0 hN
     rw [ih k om (gI par v) om om om]
     rw [ih v.toNat om (gI par v) om om om]
   ·rfl
theorem LZ {own par ln:LI} {N j x1 x2:Int} {r:Bool} (h1:gI own j=x1) (h2:gI par j=x2) (hj:0<=j/\j<N) (hx:x1<1/\¬j∈ln) (h0:¬x2<0) (hd:∀i:Int,0<=i->i<N->gI par i<i)
  (h:Qv own par ln (j.toNat+1) j=r):Qv own par ln (x2.toNat+1) x2=r:=by
 rw [Qv,h1,h2,Ze hx,Z7 h0] at h
 have hdv:=hd j hj.1 hj.2
 rw [<-h,Su hd j.toNat x2 om om om]
theorem LY {own par ln:LI} {j x1 x2:Int} {r:Bool} (h1:gI own j=x1) (h2:gI par j=x2) (hx:x1<1/\¬j∈ln) (h0:x2<0) (h:Qv own par ln (j.toNat+1) j=r):false=r:=by
 rw [Qv,h1,h2,Ze hx,Ze h0] at h;exact h
theorem M0 {own par ln:LI} {j x1:Int} {r:Bool} (h1:gI own j=x1) (hx:¬(x1<1/\¬j∈ln)) (h:Qv own par ln (j.toNat+1) j=r):true=r:=by
 rw [Qv,h1,Z7 hx] at h;exact h
end Go.Abs
namespace Go.Abs
theorem QV {L L':Zt} {v:Int} (h:Uv L v=some L'):1<=gI L.own v/\L'.vars=L.vars/\L'.par=L.par/\L'.con=L.con/\L'.fst=L.fst/\L'.tok=L.tok/\L'.own=L.own.set v.toNat (gI L.own v-1):=by
 rw [Uv] at h
 split at h
 ·cases h
 ·cases h;exact ⟨by omega,rfl,rfl,rfl,rfl,rfl,rfl⟩
theorem HM {xs:LI} {v:Int} (h:gI xs v≠0):gI xs v∈xs:=by
 rw [gI] at h ⊢
 cases hx:xs[v.toNat]? with
 | none=>rw [hx] at h;exact absurd rfl h
 | some y=>exact Y4 hx
theorem KN {xs:LI} {i:Nat} {a x:Int} (h:x∈xs.set i a):x∈xs∨x=a:=List.mem_or_eq_of_mem_set h
theorem X5.take {ds:List Zf} {L L':Zt} {q v:Int} (hk:X5 ds L q) (h:Uv L v=some L'):X5 ds L' q:=by
 obtain ⟨t1,t2,t3,t4,t5,t6,t7⟩:=QV h
 obtain ⟨f1,f2,f3,f4,f5⟩:=hk.len
 have hm:=HM (xs:=L.own) (v:=v) om
 refine ⟨⟨by rw [t7,t2,Uw];exact f1,by rw [t3,t2];exact f2,by rw [t4,t2];exact f3,by rw [t5,t2];exact f4,by rw [t6,t2];exact f5⟩,?_,?_,?_,?_⟩
 ·rw [t2,t3];exact hk.down
 ·rw [t2,t4,t5];exact hk.arm
 ·rw [t7];intro x hx
  rcases KN hx with hx|rfl
  ·exact hk.nn x hx
  ·omega
 ·rw [t7];intro x hx
  rcases KN hx with hx|rfl
  ·exact hk.bd x hx
  ·have:=hk.bd _ hm;omega
end Go.Abs
end
namespace Go.Abs
theorem Lz {us:LI}:∀{args tys:LI},UX us args tys=true->args.length=tys.length/\∀a∈args,0<=a/\a<us.length
 | [],[],_=>⟨rfl,by simp⟩
 | [],_::_,h=>by cases h
 | _::_,[],h=>by cases h
 | a::as1,t::ts,h=>by
  rw [UX] at h
  split at h
  ·rename_i h1
   obtain ⟨q1,q2⟩:=Lz h
   refine ⟨by simp [q1],fun x hx=>?_⟩
   rcases YG.1 hx with rfl|hx
   ·have:=(Kw h1).1;omega
   ·exact q2 x hx
  ·cases h
theorem Ou {n:Zp} {us:LI}:∀{bs:List Z8} {ms:List LI} {f:Bool} {t:Int},0<=t->0<=WV n us bs ms f t ->
  ∀(i:Nat) (b:Z8) (m:LI),bs[i]? = some b->ms[i]? = some m->0<=Xi n (us++m) b
 | [],_,_,_,_,_,i,b,m,hb,_=>by simp at hb
 | b::bs,[],_,_,_,h,_,_,_,_,hm=>by simp at hm
 | b::bs,m::ms,f,t,ht,h,i,c,l,hc,hl=>by
  rw [WV] at h
  split at h
  ·omega
  ·rename_i hq
   have h0:0<=Xi n (us++m) b:=by
    rcases Int.lt_or_le (Xi n (us++m) b) 0 with q|q
    ·exact absurd (.inl q) hq
    ·exact q
   cases i with
   | zero=>simp at hc hl;subst hc hl;exact h0
   | succ i=>exact Ou h0 h i c l (by simpa using hc) (by simpa using hl)
structure JT (n:Zp) (us:LI) (s:Z5):Prop where
 args:∀a∈s.args,0<=a/\a<us.length
 one:(s.op=7∨s.op=8∨(14<=s.op/\s.op<=17))->∃a,s.args=[a]
 num:s.op=9->0<=s.num/\s.num<n.routines.length
 into:s.into≠0->1<=s.into/\s.into<=us.length
 kids:(s.op=7∨s.op=8)->s.kids.length=(Xm n.decls s.op s.num).length/\(Xm n.decls s.op s.num).length≠0 /\
  ∀(i:Nat) (b:Z8) (m:LI),s.kids[i]? = some b->(Xm n.decls s.op s.num)[i]? = some m->0<=Xi n (us++m) b
theorem Z80 {n:Zp} {us:LI} {op num:Int} {kids:List Z8} (h:0<=Tu n us op num kids) :
  kids.length=(Xm n.decls op num).length/\(Xm n.decls op num).length≠0/\∀(i:Nat) (b:Z8) (m:LI),kids[i]? = some b->(Xm n.decls op num)[i]? = some m->0<=Xi n (us++m) b:=by
 rw [Tu] at h
 split at h
 ·omega
 ·rename_i hq
  exact ⟨by omega,by omega,Ou (Int.le_refl 0) h⟩
theorem OL {xs:LI} (h:xs.length=1):∃a,xs=[a]:=by
 match xs,h with
 | [a],_=>exact ⟨a,rfl⟩
theorem E4 {n:Zp} {us:LI} {s:Z5} (h:0<=Ya n us s):JT n us s:=by
 rw [An] at h
 split at h
 ·omega
 rename_i h0
 have hinto:s.into≠0->1<=s.into/\s.into<=us.length:=by
  intro hi
  have hv:Uk us s.op s.into=true:=by
   cases q:Uk us s.op s.into with
   | true=>rfl
   | false=>exact absurd (.inr (.inl (by rw [q];simp))) h0
  rw [Uk,Z7 hi] at hv
  split at hv
  ·cases ha:Xz us (s.into-1) with
   | none=>rw [ha] at hv;cases hv
   | some t=>have:=(Kw ha).1;omega
  ·cases hv
 have mk:(∀a∈s.args,0<=a/\a<us.length)->((s.op=7∨s.op=8∨(14<=s.op/\s.op<=17))->∃a,s.args=[a])->(s.op=9->0<=s.num/\s.num<n.routines.length) ->
   ((s.op=7∨s.op=8)->0<=Tu n us s.op s.num s.kids)->JT n us s:=fun a b c d=>⟨a,b,c,hinto,fun q=>Z80 (d q)⟩
 have ty:∀{tys},W7 us s.args tys=true->s.args.length=tys.length/\∀a∈s.args,0<=a/\a<us.length:=fun q=>Lz q
 split at h
 ·rename_i h1
  split at h
  ·rename_i h2
   exact mk (by rw [List.eq_nil_of_length_eq_zero h2.1];simp) om om om
  ·omega
 split at h
 ·split at h
  ·rename_i h1 h2;exact mk (ty h2).2 om om om
  ·omega
 split at h
 ·split at h
  ·rename_i h1 h2;exact mk (ty h2).2 om om om
  ·omega
 split at h
 ·split at h
  ·rename_i h1 h2;exact mk (ty h2.2).2 om om om
  ·omega
 split at h
 ·split at h
  ·rename_i h1 h2;exact mk (ty h2).2 (fun _=>OL (by simpa using (ty h2).1)) om (fun _=>h)
  ·omega
 split at h
 ·split at h
  ·rename_i h1 h2;exact mk (ty h2).2 (fun _=>OL (by simpa using (ty h2).1)) om (fun _=>h)
  ·omega
 split at h
 ·rename_i hop
  rw [Tx] at h
  cases hr:Xz n.routines s.num with
  | none=>rw [hr] at h;simp at h
  | some r=>
   rw [hr] at h
   simp only at h
   have hn:=(Kw hr).1
   rw [Kg] at h
   split at h
   ·split at h
    ·rename_i h2;exact mk (ty h2).2 om om om
    ·omega
   ·split at h
    ·omega
    ·rename_i h2
     have h3:W7 us s.args (r.params.take (r.params.length-1))=true:=by
      cases q:W7 us s.args (r.params.take (r.params.length-1)) with
      | true=>rfl
      | false=>exact absurd (.inr (.inr (by rw [q];simp))) h2
     exact mk (ty h3).2 om om om
 split at h
 ·rename_i hop
  rcases he:s.args with _|⟨a,_|⟨b,_|⟨c,r⟩⟩⟩
  ·rw [he,show Qw n.decls us []=-1 from rfl] at h;omega
  ·rw [he,show Qw n.decls us [a]=-1 from rfl] at h;omega
  ·rw [he,Qw] at h
   cases ha:Xz us a with
   | none=>rw [ha] at h;simp at h
   | some t=>
    rw [ha] at h
    simp only at h
    split at h
    ·cases hd:n.decls[(t-1).toNat]? with
     | none=>rw [hd] at h;simp at h
     | some d=>
      rw [hd] at h
      simp only at h
      split at h
      ·rename_i h3
       have h4:=(Lz h3).2 b (by simp)
       have h5:=(Kw ha).1
       refine mk (fun x hx=>?_) om om om
       rw [he] at hx
       rcases YG.1 hx with rfl|hx
       ·omega
       ·rw [XB.1 hx];exact h4
      ·omega
    ·omega
  ·rw [he,show Qw n.decls us (a::b::c::r)=-1 from rfl] at h;omega
 split at h
 ·rename_i hop
  rcases he:s.args with _|⟨a,_|⟨b,r⟩⟩
  ·rw [he,show Qf n.decls us s.op []=-1 from rfl] at h;omega
  ·rw [he,Qf] at h
   cases ha:Xz us a with
   | none=>rw [ha] at h;simp at h
   | some t=>
    have h5:=(Kw ha).1
    refine mk (fun x hx=>?_) (fun _=>⟨a,he⟩) om om
    rw [he] at hx
    rw [XB.1 hx];omega
  ·rw [he,show Qf n.decls us s.op (a::b::r)=-1 from rfl] at h;omega
 ·omega
def Qa (n:Zp) (us:LI) (s:Z5):LI:=if XL s.op=true then us++[Ya n us s] else us
theorem Hf {L L':Zt} {ln:LI} {v:Int} (h:Jy L ln v=some L'):L'.vars=L.vars/\L'.par=L.par/\L'.con=L.con/\L'.fst=L.fst/\L'.tok=L.tok/\L'.own=L.own.set v.toNat (gI L.own v+1):=by
 rw [Jy] at h
 split at h
 ·cases h;exact ⟨rfl,rfl,rfl,rfl,rfl,rfl⟩
 ·cases h
theorem GO:∀(fs:LI) (own:LI) (p:Int),(T3 own p fs).length=own.length
 | [],own,p=>rfl
 | f::r,own,p=>by rw [T3,GO r];split<;>simp
theorem HK {xs:LI} {q v:Int} (h:∀x∈xs,x<=q) (hq:0<=q):gI xs v<=q:=by
 by_cases h0:gI xs v=0
 ·omega
 ·exact h _ (HM h0)
theorem HN {xs:LI} {v:Int} (h:∀x∈xs,0<=x):0<=gI xs v:=by
 by_cases h0:gI xs v=0
 ·omega
 ·exact h _ (HM h0)
theorem GQ:∀(fs:LI) (own:LI) (p:Int),(∀x∈own,0<=x)->∀x∈T3 own p fs,0<=x
 | [],own,p,h=>h
 | f::r,own,p,h=>by
  rw [T3]
  refine GQ r _ _ fun x hx=>?_
  split at hx
  ·rcases KN hx with hx|rfl
   ·exact h x hx
   ·have:=HN (v:=p) h;omega
  ·exact h x hx
theorem GN:∀(fs:LI) (own:LI) (p q:Int),0<=q->(∀x∈own,x<=q)->∀x∈T3 own p fs,x<=q+fs.length
 | [],own,p,q,hq,h=>by intro x hx;have:=h x hx;simp;omega
 | f::r,own,p,q,hq,h=>by
  intro x hx
  rw [T3] at hx
  have:=GN r _ _ (q+1) om (fun y hy=>by
   split at hy
   ·rcases KN hy with hy|rfl
    ·have:=h y hy;omega
    ·have:=HK (v:=p) h hq;omega
   ·have:=h y hy;omega) x hx
  simp only [YS];omega
theorem ID {ds:List Zf} {L L':Zt} {op v:Int} (h:Q8 ds L op v=some L'):L'.vars=L.vars/\L'.par=L.par/\L'.con=L.con/\L'.fst=L.fst/\L'.tok.length=L.tok.length /\
  ∃L1,Uv L v=some L1/\L'.own=T3 L1.own (gI L.fst v) (ZU ds (gI L.con v)):=by
 rw [Q8] at h
 split at h
 ·cases h
 ·cases ht:Uv L v with
  | none=>rw [ht] at h;cases h
  | some L1=>
   rw [ht] at h
   simp only at h
   obtain ⟨t1,t2,t3,t4,t5,t6,t7⟩:=QV ht
   cases h
   refine ⟨t2,t3,t4,t5,?_,L1,rfl,rfl⟩
   split
   ·rw [Uw]
   ·rfl
theorem F7 {n:Zp} {op num:Int} {ds:List Zf} {q:Int}:∀{as1:LI} {i:Nat} {L L':Zt},X5 ds L q->Q2 n op num as1 i L=some L'->X5 ds L' q/\L'.vars=L.vars/\L'.par=L.par/\L'.con=L.con/\L'.fst=L.fst/\L'.tok=L.tok
 | [],i,L,L',hk,h=>by rw [Q2] at h;cases h;exact ⟨hk,rfl,rfl,rfl,rfl,rfl⟩
 | a::r,i,L,L',hk,h=>by
  rw [Q2] at h
  split at h
  ·cases ht:Uv L a with
   | none=>rw [ht] at h;cases h
   | some L1=>
    rw [ht] at h
    obtain ⟨t1,t2,t3,t4,t5,t6,t7⟩:=QV ht
    obtain ⟨k1,k2,k3,k4,k5,k6⟩:=F7 (hk.take ht) h
    exact ⟨k1,k2.trans t2,k3.trans t3,k4.trans t4,k5.trans t5,k6.trans t6⟩
  ·exact F7 hk h
theorem X5.le {ds:List Zf} {L:Zt} {q q':Int} (h:X5 ds L q) (hq:q<=q'):X5 ds L q':=⟨h.len,h.down,h.arm,h.nn,fun x hx=>Int.le_trans (h.bd x hx) hq⟩
theorem X5.turn {ds:List Zf} {L L':Zt} {q q':Int} (hk:X5 ds L q) (h1:L'.vars=L.vars) (h2:L'.par=L.par) (h3:L'.con=L.con) (h4:L'.fst=L.fst) (h5:L'.tok.length=L.tok.length) (h6:L'.own.length=L.own.length)
  (h7:∀x∈L'.own,0<=x) (h8:∀x∈L'.own,x<=q'):X5 ds L' q':=by
 obtain ⟨f1,f2,f3,f4,f5⟩:=hk.len
 refine ⟨⟨by rw [h6,h1];exact f1,by rw [h2,h1];exact f2,by rw [h3,h1];exact f3,by rw [h4,h1];exact f4,by rw [h5,h1];exact f5⟩,?_,?_,h7,h8⟩
 ·rw [h1,h2];exact hk.down
 ·rw [h1,h3,h4];exact hk.arm
theorem AO {xs ys:LI} {j:Int} (h:j.toNat<xs.length):gI (xs++ys) j=gI xs j:=by
 rw [gI,gI,D0 h]
theorem HL {xs:LI} {y:Int} {j:Int} (h:j.toNat=xs.length):gI (xs++[y]) j=y:=by
 rw [gI,h];simp
theorem X5.grow {ds:List Zf} {L:Zt} {q t o p:Int} (hk:X5 ds L q) (hp:p<L.vars.length) (ho:0<=o/\o<=q):X5 ds (L.grow t o p) q:=by
 obtain ⟨f1,f2,f3,f4,f5⟩:=hk.len
 refine ⟨⟨by simp [Zt.grow,f1],by simp [Zt.grow,f2],by simp [Zt.grow,f3],by simp [Zt.grow,f4],by simp [Zt.grow,f5]⟩,?_,?_,?_,?_⟩
 ·intro j hj hl
  simp only [Zt.grow,Ys,Gw] at hl ⊢
  by_cases hlt:j<L.vars.length
  ·rw [AO om];exact hk.down j hj hlt
  ·rw [HL om];omega
 ·intro x hx hl
  simp only [Zt.grow,Ys,Gw] at hl ⊢
  by_cases hlt:x<L.vars.length
  ·rw [AO om,AO om]
   intro hc
   have:=hk.arm x hx hlt hc
   exact ⟨this.1,by omega⟩
  ·rw [HL om];omega
 ·intro x hx
  simp only [Zt.grow,X8,XB] at hx
  rcases hx with hx|rfl
  ·exact hk.nn x hx
  ·exact ho.1
 ·intro x hx
  simp only [Zt.grow,X8,XB] at hx
  rcases hx with hx|rfl
  ·exact hk.bd x hx
  ·exact ho.2
theorem HO {xs:LI} {k:Nat} {a:Int} {j:Int} (h:xs.length<=j.toNat/\j.toNat<xs.length+k):gI (xs++List.replicate k a) j=a:=by
 rw [gI,D3 h.1,List.getElem?_replicate,Ze om];rfl
theorem EX {xs:LI} {x j c:Int} (h:j.toNat=x.toNat) (hl:x.toNat<xs.length):gI (xs.set x.toNat c) j=c:=by
 rw [gI,h,List.getElem?_set_self hl];rfl
theorem EY {xs:LI} {x j c:Int} (h:j.toNat≠x.toNat):gI (xs.set x.toNat c) j=gI xs j:=by
 rw [gI,gI,List.getElem?_set_ne (fun q=>h q.symm)]
theorem HU {p:Int}:∀(fs:LI) (L:Zt),KC L p fs=⟨L.vars++fs,L.own++List.replicate fs.length 0,L.par++List.replicate fs.length p,L.con++List.replicate fs.length (-1),
  L.fst++List.replicate fs.length (-1),L.tok++List.replicate fs.length (-1)⟩
 | [],L=>by simp [KC]
 | t::r,L=>by rw [KC,HU r];simp [Zt.grow,LO]
theorem SR {ds:List Zf} {L:Zt} {q x c:Int} (hk:X5 ds L q) (hq:0<=q) (hx:0<=x/\x<L.vars.length):X5 ds (Jr ds L x c) q/\(Jr ds L x c).vars=L.vars++ZU ds c:=by
 obtain ⟨f1,f2,f3,f4,f5⟩:=hk.len
 rw [Jr,HU]
 refine ⟨⟨⟨by simp [f1],by simp [f2],by simp [f3],by simp [f4],by simp [f5]⟩,?_,?_,?_,?_⟩,rfl⟩
 ·intro j hj hl
  simp only [Ys] at hl ⊢
  by_cases hlt:j<L.vars.length
  ·rw [AO om];exact hk.down j hj hlt
  ·rw [HO om];omega
 ·intro y hy hl
  simp only [Ys] at hl ⊢
  by_cases hlt:y<L.vars.length
  ·rw [AO (by simp;omega),AO (by simp;omega)]
   by_cases he:y.toNat=x.toNat
   ·rw [EX he om,EX he om]
    intro _
    exact ⟨by omega,by simp⟩
   ·rw [EY he,EY he]
    intro hc
    have:=hk.arm y hy hlt hc
    exact ⟨this.1,by omega⟩
  ·rw [HO (by simp;omega)];omega
 ·intro y hy
  simp only [X8,List.mem_replicate] at hy
  rcases hy with hy|⟨_,rfl⟩
  ·exact hk.nn y hy
  ·exact Int.le_refl 0
 ·intro y hy
  simp only [X8,List.mem_replicate] at hy
  rcases hy with hy|⟨_,rfl⟩
  ·exact hk.bd y hy
  ·exact hq
theorem CE {n:Zp} {L:Zt} {q:Int} {s:Z5} {i:Nat} {m:LI} (hk:X5 n.decls L q) (hq:0<=q) (hf:JT n L.vars s) (hop:s.op=7∨s.op=8) (hm:(Xm n.decls s.op s.num)[i]? = some m) :
  X5 n.decls (Vt n.decls L s.op s.num s.args i) q/\(Vt n.decls L s.op s.num s.args i).vars=L.vars++m:=by
 rw [Vt]
 split
 ·rename_i h8
  obtain ⟨a,ha⟩:=hf.one om
  have hb:=hf.args a (by rw [ha];simp)
  have hg:gI s.args 0=a:=by rw [ha];rfl
  rw [Xm,Z7 om,T0] at hm
  cases hc:(ZW n.decls s.num)[i]? with
  | none=>rw [hc] at hm;cases hm
  | some c=>
   rw [hc] at hm
   cases hm
   have hgc:gI (ZW n.decls s.num) (i:Int)=c:=by rw [gI];simp [hc]
   rw [hg,hgc]
   exact SR hk hq hb
 ·rename_i h8
  rw [Xm,Ze om] at hm
  have:m=[]:=by
   match i,hm with
   | 0,hm=>simpa using hm.symm
   | 1,hm=>simpa using hm.symm
   | i+2,hm=>simp at hm
  subst this
  exact ⟨hk,by simp⟩
theorem RH {n:Zp}:∀{l:List Z5} {us vs:LI},Ws n l us=some vs->us.length<=vs.length
 | [],us,vs,h=>by rw [Ws] at h;cases h;exact X4 _
 | s::r,us,vs,h=>by
  rw [Ws] at h
  split at h
  ·cases h
  ·have:=RH h
   split at this
   ·simp only [Ys,Gw] at this;omega
   ·exact this
theorem NI {n:Zp} {ln:LI} {L L':Zt} {op num into q:Int} {args:LI} {ds:List Zf} (hk:X5 ds L q) (h:UC n ln L op num into args=some L'):X5 ds L' q/\L'.vars=L.vars:=by
 rw [UC] at h
 cases ht:Q2 n op num args 0 L with
 | none=>rw [ht] at h;cases h
 | some L1=>
  rw [ht] at h
  simp only at h
  obtain ⟨k1,k2,k3,k4,k5,k6⟩:=F7 hk ht
  split at h
  ·rw [KF] at h
   split at h
   ·split at h
    ·cases h
    ·cases h
     exact ⟨k1.turn rfl rfl rfl rfl (by simp) rfl k1.nn k1.bd,k2⟩
   ·cases h;exact ⟨k1,k2⟩
  ·cases h
theorem Z1u {L L':Zt} {m:Nat} (h:Un L m=some L'):L'=L.take m/\WX (L.own.drop m) (L.tok.drop m)=true:=by
 rw [Un] at h
 split at h
 ·rename_i hz;cases h;exact ⟨rfl,hz⟩
 ·cases h
theorem Ly {r:Option Zt} {f:Zt->Option Zt} {L:Zt} (h:CW r f=some L):∃L1,r=some L1/\f L1=some L:=by
 cases r with
 | none=>cases h
 | some L1=>exact ⟨L1,rfl,h⟩
theorem In (n:Zp) (hn:X0 n) (ln:LI):∀m:Nat,
  (∀(s:Z5) (L L':Zt) (q:Int),s.sz<=m->X5 n.decls L q->0<=q->0<=Ya n L.vars s->Uj n ln L s=some L'->X5 n.decls L' (q+4*s.sz)/\L'.vars=Qa n L.vars s) /\
  (∀(b:Z8) (L O:Zt) (q:Int) (k:Nat),b.sz<=m->X5 n.decls L q->0<=q->0<=Xi n L.vars b->k<=L.vars.length->V8 n ln L k b=some O ->
   (O.own.length=k/\O.tok.length=k/\(∀x∈O.own,0<=x/\x<=q+4*b.sz))/\Wp O/\O.vars.length=k):=by
 intro m
 induction m with
 | zero=>exact ⟨fun s _ _ _ h=>by have:=s.sz_pos;omega,fun s _ _ _ _ h=>by have:=s.sz_pos;omega⟩
 | succ m ih=>
  have hs:∀(s:Z5) (L L':Zt) (q:Int),s.sz<=m+1->X5 n.decls L q->0<=q->0<=Ya n L.vars s->Uj n ln L s=some L'->X5 n.decls L' (q+4*s.sz)/\L'.vars=Qa n L.vars s:=by
   intro s L L' q Xl hk hq hty h
   have hp:=s.sz_pos
   have hf:=E4 hty
   obtain ⟨f1,f2,f3,f4,f5⟩:=hk.len
   rw [Lq] at h
   unfold Kz at h
   cases hpk:Qm n ln L s.op s.num s.into s.args (Q5 n ln L s.op s.num s.args s.kids) with
   | none=>rw [hpk] at h;cases h
   | some L1=>
    rw [hpk] at h
    simp only at h
    have key:X5 n.decls L1 (q+4*s.sz)/\L1.vars=L.vars:=by
     rw [Qm] at hpk
     split at hpk
     ·obtain ⟨d1,d2,d3,d4,d5,d6⟩:=Hf hpk
      refine ⟨hk.turn d1 d2 d3 d4 (by rw [d5]) (by rw [d6,Uw]) ?_ ?_,d1⟩
      ·rw [d6];intro x hx
       rcases KN hx with hx|rfl
       ·exact hk.nn x hx
       ·have:=HN (v:=gI s.args 0) hk.nn;omega
      ·rw [d6];intro x hx
       rcases KN hx with hx|rfl
       ·have:=hk.bd x hx;omega
       ·have:=HK (v:=gI s.args 0) hk.bd hq;omega
     split at hpk
     ·exact ⟨(hk.take hpk).le om,(QV hpk).2.1⟩
     split at hpk
     ·rename_i hop
      obtain ⟨d1,d2,d3,d4,d5,Lt,ht,d6⟩:=ID hpk
      have hkt:=hk.take ht
      have h3:=U4 hn.decls (gI L.con (gI s.args 0))
      refine ⟨hk.turn d1 d2 d3 d4 d5 ?_ ?_ ?_,d1⟩
      ·rw [d6,GO,(QV ht).2.2.2.2.2.2,Uw]
      ·rw [d6];exact GQ _ _ _ hkt.nn
      ·rw [d6];intro x hx
       have:=GN _ _ _ q hq hkt.bd x hx;omega
     split at hpk
     ·rename_i hop
      split at hpk
      ·cases hpk
      ·cases hks:s.kids with
       | nil=>rw [hks,Q5] at hpk;cases hpk
       | cons b bs=>
        rw [hks,Q5] at hpk
        unfold AW at hpk
        cases hb:V8 n ln (Vt n.decls L s.op s.num s.args 0) L.vars.length b with
        | none=>rw [hb] at hpk;cases hpk
        | some one=>
         rw [hb] at hpk
         simp only at hpk
         split at hpk
         ·cases hpk
          obtain ⟨q1,q2,q3⟩:=hf.kids hop
          have hks0:s.kids[0]? = some b:=by rw [hks];rfl
          obtain ⟨a0,ha0⟩:=KA (xs:=Xm n.decls s.op s.num) (j:=0) om
          obtain ⟨k1,k2⟩:=CE hk hq hf hop ha0
          have hbz:=Tt hks0
          obtain ⟨⟨r1,r2,r3⟩,_⟩:=ih.2 b _ one q L.vars.length om k1 hq (by rw [k2];exact q3 0 b a0 hks0 ha0) (by rw [k2];simp) hb
          refine ⟨hk.turn rfl rfl rfl rfl (by simp only;omega) (by simp only;omega) (fun x hx=>(r3 x hx).1) (fun x hx=>?_),rfl⟩
          have:=(r3 x hx).2;omega
         ·cases hpk
     ·obtain ⟨k1,k2⟩:=NI hk hpk
      exact ⟨k1.le om,k2⟩
    split at h
    ·rename_i hd
     cases h
     refine ⟨key.1.grow om ?_,by rw [Qa,Ze hd];simp [Zt.grow,key.2]⟩
     split<;>omega
    ·rename_i hd
     cases h
     exact ⟨key.1,by rw [Qa,Z7 hd];exact key.2⟩
  refine ⟨hs,?_⟩
  intro b L O q k Xl hk hq hty hkl h
  have hsteps:∀(l:List Z5) (L L':Zt) (q:Int) (vs:LI),Ye l<=m->X5 n.decls L q->0<=q->Ws n l L.vars=some vs->Vg n ln L l=some L'->X5 n.decls L' (q+4*Ye l)/\L'.vars=vs:=by
   intro l
   induction l with
   | nil=>intro L L' q vs _ hk _ h1 h2;rw [Ws] at h1;rw [Vg] at h2;cases h1;cases h2;exact ⟨by simpa [Ye] using hk,rfl⟩
   | cons s r ihr=>
    intro L L' q vs hz hk hq h1 h2
    rw [Ye] at hz
    rw [Vg] at h2
    obtain ⟨L1,e1,e2⟩:=Ly h2
    rw [Ws] at h1
    split at h1
    ·cases h1
    ·rename_i h0
     obtain ⟨k1,k2⟩:=hs s L L1 q om hk hq om e1
     obtain ⟨k3,k4⟩:=ihr L1 L' (q+4*s.sz) vs om k1 om (by rw [k2];exact h1) e2
     exact ⟨k3.le (by rw [Ye];omega),k4⟩
  have hbz:=b.sz_eq
  rw [J3] at h
  obtain ⟨L1,e1,e2⟩:=Ly h
  rw [En] at hty
  cases hv:Ws n b.steps L.vars with
  | none=>rw [hv] at hty;simp at hty
  | some vs=>
   obtain ⟨k1,k2⟩:=hsteps b.steps L L1 q vs om hk hq hv e1
   have hlen:=RH hv
   rw [VV] at e2
   obtain ⟨L2,e3,e4⟩:=Ly e2
   have k3:X5 n.decls L2 (q+4*Ye b.steps)/\L2.vars=L1.vars:=by
    split at e3
    ·exact ⟨k1.take e3,(QV e3).2.1⟩
    ·cases e3;exact ⟨k1,rfl⟩
   obtain ⟨rfl,_⟩:=Z1u e4
   obtain ⟨g1,g2,g3,g4,g5⟩:=k3.1.len
   have hl2:L2.vars.length=vs.length:=by rw [k3.2,k2]
   refine ⟨⟨by simp [Zt.take];omega,by simp [Zt.take];omega,fun x hx=>?_⟩,⟨by simp [Zt.take];omega,by simp [Zt.take];omega,by simp [Zt.take];omega,by simp [Zt.take];omega,by simp [Zt.take];omega⟩,by simp [Zt.take];omega⟩
   have hx':x∈L2.own:=Qc hx
   have:=k3.1.nn x hx'
   have:=k3.1.bd x hx'
   omega
theorem G8 {n:Zp} (hn:X0 n) {ln:LI} {s:Z5} {L L':Zt} {q:Int} (hk:X5 n.decls L q) (hq:0<=q) (hty:0<=Ya n L.vars s) (h:Uj n ln L s=some L'):X5 n.decls L' (q+4*s.sz)/\L'.vars=Qa n L.vars s:=
 (In n hn ln s.sz).1 s L L' q (X4 _) hk hq hty h
theorem Mp {n:Zp} (hn:X0 n) {ln:LI} {b:Z8} {L O:Zt} {q:Int} {k:Nat} (hk:X5 n.decls L q) (hq:0<=q) (hty:0<=Xi n L.vars b) (hkl:k<=L.vars.length) (h:V8 n ln L k b=some O) :
  O.own.length=k/\O.tok.length=k/\(∀x∈O.own,0<=x/\x<=q+4*b.sz):=
 ((In n hn ln b.sz).2 b L O q k (X4 _) hk hq hty hkl h).1
theorem B5 {n:Zp} (hn:X0 n) {ln:LI} {s:Z5} {L L1:Zt} {q:Int} (hk:X5 n.decls L q) (hq:0<=q) (hf:JT n L.vars s)
  (hpk:Qm n ln L s.op s.num s.into s.args (Q5 n ln L s.op s.num s.args s.kids)=some L1):X5 n.decls L1 (q+4*s.sz)/\L1.vars=L.vars:=by
 have hp:=s.sz_pos
 obtain ⟨f1,f2,f3,f4,f5⟩:=hk.len
 rw [Qm] at hpk
 split at hpk
 ·obtain ⟨d1,d2,d3,d4,d5,d6⟩:=Hf hpk
  refine ⟨hk.turn d1 d2 d3 d4 (by rw [d5]) (by rw [d6,Uw]) ?_ ?_,d1⟩
  ·rw [d6];intro x hx
   rcases KN hx with hx|rfl
   ·exact hk.nn x hx
   ·have:=HN (v:=gI s.args 0) hk.nn;omega
  ·rw [d6];intro x hx
   rcases KN hx with hx|rfl
   ·have:=hk.bd x hx;omega
   ·have:=HK (v:=gI s.args 0) hk.bd hq;omega
 split at hpk
 ·exact ⟨(hk.take hpk).le om,(QV hpk).2.1⟩
 split at hpk
 ·rename_i hop
  obtain ⟨d1,d2,d3,d4,d5,Lt,ht,d6⟩:=ID hpk
  have hkt:=hk.take ht
  have h3:=U4 hn.decls (gI L.con (gI s.args 0))
  refine ⟨hk.turn d1 d2 d3 d4 d5 ?_ ?_ ?_,d1⟩
  ·rw [d6,GO,(QV ht).2.2.2.2.2.2,Uw]
  ·rw [d6];exact GQ _ _ _ hkt.nn
  ·rw [d6];intro x hx
   have:=GN _ _ _ q hq hkt.bd x hx;omega
 split at hpk
 ·rename_i hop
  split at hpk
  ·cases hpk
  ·cases hks:s.kids with
   | nil=>rw [hks,Q5] at hpk;cases hpk
   | cons b bs=>
    rw [hks,Q5] at hpk
    unfold AW at hpk
    cases hb:V8 n ln (Vt n.decls L s.op s.num s.args 0) L.vars.length b with
    | none=>rw [hb] at hpk;cases hpk
    | some one=>
     rw [hb] at hpk
     simp only at hpk
     split at hpk
     ·cases hpk
      obtain ⟨q1,q2,q3⟩:=hf.kids hop
      have hks0:s.kids[0]? = some b:=by rw [hks];rfl
      obtain ⟨a0,ha0⟩:=KA (xs:=Xm n.decls s.op s.num) (j:=0) om
      obtain ⟨k1,k2⟩:=CE hk hq hf hop ha0
      have hbz:=Tt hks0
      obtain ⟨r1,r2,r3⟩:=Mp hn k1 hq (by rw [k2];exact q3 0 b a0 hks0 ha0) (by rw [k2];simp) hb
      refine ⟨hk.turn rfl rfl rfl rfl (by simp only;omega) (by simp only;omega) (fun x hx=>(r3 x hx).1) (fun x hx=>?_),rfl⟩
      have:=(r3 x hx).2;omega
     ·cases hpk
 ·obtain ⟨k1,k2⟩:=NI hk hpk
  exact ⟨k1.le om,k2⟩
end Go.Abs
section
namespace Go.Abs
theorem GU {ds:List Zf} {op num:Int} {i:Nat} {m:LI} (h8:op=8) (h:(Xm ds op num)[i]? = some m):∃c,(ZW ds num)[i]? = some c/\m=ZU ds c:=by
 rw [Xm,Z7 om,T0] at h
 cases hc:(ZW ds num)[i]? with
 | none=>rw [hc] at h;cases h
 | some c=>rw [hc] at h;cases h;exact ⟨c,rfl,rfl⟩
theorem Z7u {ds:List Zf} {L:Zt} {op num x c:Int} {args:LI} {i:Nat} (h8:op=8) (hx:args[0]? = some x) (hc:(ZW ds num)[i]? = some c):Vt ds L op num args i=Jr ds L x c:=by
 have h1:gI args 0=x:=by rw [gI];simp [hx]
 have h2:gI (ZW ds num) (i:Int)=c:=by rw [gI];simp [hc]
 rw [Vt,Ze h8,h1,h2]
theorem Z7v {ds:List Zf} {L:Zt} {op num:Int} {args:LI} {i:Nat} (h8:¬op=8):Vt ds L op num args i=L:=by rw [Vt,Z7 h8]
theorem Z7z {n:Zp} {ln:LI} {L:Zt} {op num:Int} {args:LI} {kids:List Z8} {kb:Z8} (h:kids[0]? = some kb) :
  Q5 n ln L op num args kids=AW L (V8 n ln (Vt n.decls L op num args 0) L.vars.length kb) fun one=>Kc n ln L op num args one (kids.drop 1) 1:=by
 cases kids with
 | nil=>simp at h
 | cons b bs=>simp at h;subst h;rw [Q5];rfl
theorem DF {n:Zp} {ln:LI} {L one:Zt} {op num:Int} {args:LI} {kids:List Z8} {kb:Z8} {k:Nat} (h:kids[k]? = some kb) :
  Kc n ln L op num args one (kids.drop k) k=FV one (V8 n ln (Vt n.decls L op num args k) L.vars.length kb) (Kc n ln L op num args one (kids.drop (k+1)) (k+1)):=by
 rw [Y5 h,Kc]
def J5 (n:Zp) (ln:LI) (L:Zt) (s:Z5):Option Zt:=
 if s.op=8/\¬Wd L ln (gI s.args 0)=true then none else Q5 n ln L s.op s.num s.args s.kids
theorem Z0v {n:Zp} {ln:LI} {L:Zt} {s:Z5} (h8:s.op=8) (ha:¬Wd L ln (gI s.args 0)=true):J5 n ln L s=none:=by rw [J5,Ze ⟨h8,ha⟩]
theorem MC {n:Zp} {ln:LI} {L:Zt} {s:Z5} {kb:Z8} (h:¬(s.op=8/\¬Wd L ln (gI s.args 0)=true)) (hk:s.kids[0]? = some kb) :
  J5 n ln L s=AW L (V8 n ln (Vt n.decls L s.op s.num s.args 0) L.vars.length kb) fun one=>Kc n ln L s.op s.num s.args one (s.kids.drop 1) 1:=by
 rw [J5,Z7 h,Z7z hk]
theorem Jc {xs:LI} {x:Int} (h:xs[0]? = some x):gI xs 0=x:=by rw [gI];simp [h]
end Go.Abs
namespace Go.Abs
theorem Wp.grow {L:Zt} {t o p:Int} (h:Wp L):Wp (L.grow t o p):=by
 obtain ⟨f1,f2,f3,f4,f5⟩:=h
 exact ⟨by simp [Zt.grow,f1],by simp [Zt.grow,f2],by simp [Zt.grow,f3],by simp [Zt.grow,f4],by simp [Zt.grow,f5]⟩
theorem Wp.arm {L:Zt} {i j:Nat} {c d:Int} (h:Wp L):Wp ⟨L.vars,L.own,L.par,L.con.set i c,L.fst.set j d,L.tok⟩:=by
 obtain ⟨f1,f2,f3,f4,f5⟩:=h
 exact ⟨f1,f2,by simp [f3],by simp [f4],f5⟩
end Go.Abs
namespace Go.Abs
theorem Ot {n:Zp} (hn:X0 n) {ln:LI} {L O:Zt} {q:Int} {s:Z5} {i:Nat} {kb:Z8} {m:LI} (hk:X5 n.decls L q) (hq:0<=q) (hf:JT n L.vars s) (hop:s.op=7∨s.op=8)
  (_:s.kids[i]? = some kb) (harm:(Xm n.decls s.op s.num)[i]? = some m) (hbt:0<=Xi n (L.vars++m) kb) (h:V8 n ln (Vt n.decls L s.op s.num s.args i) L.vars.length kb=some O) :
  O.own.length=L.vars.length/\O.tok.length=L.vars.length:=by
 obtain ⟨k1,k2⟩:=CE hk hq hf hop harm
 obtain ⟨r1,r2,_⟩:=Mp hn k1 hq (by rw [k2];exact hbt) (by rw [k2];simp) h
 exact ⟨r1,r2⟩
theorem PP {one two:Zt} {r:Bool} (h:¬(¬one.own=two.own∨¬one.tok=two.tok)):FV one (some two) r=r:=Ze ⟨Vh.1 fun q=>h (.inl q),Vh.1 fun q=>h (.inr q)⟩
theorem PO {one two:Zt} {r:Bool} (h:¬one.own=two.own∨¬one.tok=two.tok):FV one (some two) r=false:=Z7 fun q=>h.elim (fun z=>z q.1) fun z=>z q.2
theorem ON {L one:Zt} {f:Zt->Bool} (h:f one=true):AW L (some one) f=some ⟨L.vars,one.own,L.par,L.con,L.fst,one.tok⟩:=Ze h
theorem DJ {L one:Zt} {f:Zt->Bool} (h:f one=false):AW L (some one) f=none:=Z7 (by rw [h];simp)
end Go.Abs
namespace Go.Abs
section
variable {n:Zp} {ln:LI} {L:Zt} {s:Z5}
abbrev Qn (n:Zp) (ln:LI) (L:Zt) (s:Z5):Option Zt:=Qm n ln L s.op s.num s.into s.args (Q5 n ln L s.op s.num s.args s.kids)
theorem IG {x:Int} (h:s.op=14) (hx:gI s.args 0=x):Qn n ln L s=Jy L ln x:=hx▸Ze h
theorem IH {x:Int} (h:s.op=15) (hx:gI s.args 0=x):Qn n ln L s=Uv L x:=by rw [<-hx,Qn,Qm,Z7 om,Ze h]
theorem II {x:Int} (h:s.op=16∨s.op=17) (hx:gI s.args 0=x):Qn n ln L s=Q8 n.decls L s.op x:=by rw [<-hx,Qn,Qm,Z7 om,Z7 om,Ze h]
theorem FF (h:s.op=7∨s.op=8):Qn n ln L s=J5 n ln L s:=by rw [Qn,Qm,Z7 om,Z7 om,Z7 om,Ze h,J5]
theorem Pj (h1:¬s.op=14) (h2:¬s.op=15) (h3:¬(s.op=16∨s.op=17)) (h4:¬(s.op=7∨s.op=8)):Qn n ln L s=UC n ln L s.op s.num s.into s.args:=by
 rw [Qn,Qm,Z7 h1,Z7 h2,Z7 h3,Z7 h4]
theorem Z2i {v:Int} (h:¬Wd L ln v=true):Jy L ln v=none:=Z7 h
theorem Z2j {v x:Int} (h:¬¬Wd L ln v=true) (hx:gI L.own v=x):Jy L ln v=some ⟨L.vars,L.own.set v.toNat (x+1),L.par,L.con,L.fst,L.tok⟩:=by rw [Jy,Ze (Vh.1 h),hx]
theorem Uu (n:Zp) (ln:LI) (L:Zt) (s:Z5):Uj n ln L s=Kz L s.op (Ya n L.vars s) (Qn n ln L s):=Lq n ln L s
theorem Ta {X:Zt} {op t:Int} (h:XL op=true/\t≠0):Kz L op t (some X)=some (X.grow t 1 (-1)):=by
 unfold Kz;simp only [h.1,↓reduceIte];rw [Ze h.2]
theorem Tb {X:Zt} {op t:Int} (h:¬(XL op=true/\t≠0)) (h2:XL op=true):Kz L op t (some X)=some (X.grow 0 0 (-1)):=by
 have ht:t=0:=Vh.1 fun q=>h ⟨h2,q⟩
 subst ht
 unfold Kz;simp only [h2,↓reduceIte];rfl
theorem Tc {X:Zt} {op t:Int} (h:¬XL op=true):Kz L op t (some X)=some X:=by
 unfold Kz;simp only [Z7 h]
end
end Go.Abs
namespace Go.Abs
theorem De {n:Zp} {us:LI} {b:Z8} (h:0<=Xi n us b):∃vs t,Ws n b.steps us=some vs/\Xz vs b.result=some t/\0<=t:=by
 rw [En] at h
 cases hv:Ws n b.steps us with
 | none=>rw [hv] at h;simp at h
 | some vs=>
  rw [hv] at h
  simp only at h
  cases ha:Xz vs b.result with
  | none=>rw [ha] at h;simp at h
  | some t=>rw [ha] at h;exact ⟨vs,t,rfl,ha,h⟩
theorem E5 {n:Zp} {us vs:LI} {s:Z5} {r:List Z5} (h:Ws n (s::r) us=some vs):0<=Ya n us s/\Ws n r (Qa n us s)=some vs:=by
 rw [Ws] at h
 split at h
 ·cases h
 ·exact ⟨by omega,h⟩
theorem FW (n:Zp) (us:LI) (s:Z5):us.length<=(Qa n us s).length/\(Qa n us s).length<=us.length+s.sz:=by
 have:=s.sz_pos
 rw [Qa];split
 ·simp only [Ys,Gw];omega
 ·omega
end Go.Abs
namespace Go.Abs
theorem Z35 {X L:Zt} {m:Nat} {r x:Int} (hg:gI L.vars r=x) (h:x≠0) (ht:Uv L r=some X):VV m r L=Un X m:=by rw [VV,hg,Ze h,ht];rfl
theorem Z34 {L:Zt} {m:Nat} {r x:Int} (hg:gI L.vars r=x) (h:x≠0) (ht:Uv L r=none):VV m r L=none:=by rw [VV,hg,Ze h,ht];rfl
theorem Dm {L:Zt} {m:Nat} {r x:Int} (hg:gI L.vars r=x) (h:¬x≠0):VV m r L=Un L m:=by rw [VV,hg,Z7 h];rfl
end Go.Abs
namespace Go.Abs
theorem Ph {ds:List Zf} {lent:LI}:∀{ps:LI} {i:Nat} {L:Zt},X5 ds L 1->X5 ds (QP lent ps i L) 1/\(QP lent ps i L).vars=L.vars++ps
 | [],i,L,hk=>⟨hk,by simp [QP]⟩
 | t::r,i,L,hk=>by
  rw [QP]
  obtain ⟨k1,k2⟩:=Ph (lent:=lent) (ps:=r) (i:=i+1) (hk.grow (t:=t) (o:=if t≠0/\¬(i:Int)∈lent then 1 else 0) (p:=-1) om (by split<;>omega))
  exact ⟨k1,by rw [k2];simp [Zt.grow]⟩
theorem Iv (ds:List Zf) (r:Yg):X5 ds (Up r) 1/\(Up r).vars=r.params:=by
 have h:X5 ds (⟨[],[],[],[],[],[]⟩:Zt) 1:=⟨⟨rfl,rfl,rfl,rfl,rfl⟩,fun j h1 h2=>by simp at h2;omega,fun j h1 h2=>by simp at h2;omega,by simp,by simp⟩
 obtain ⟨k1,k2⟩:=Ph (lent:=r.lent) (ps:=r.params) (i:=0) h
 exact ⟨k1,by rw [Up,k2];rfl⟩
theorem Z1s {L:Zt} (h:Un L 0=none):(Un L 0).isSome=false:=by rw [h];rfl
theorem Z1t {L L':Zt} (h:Un L 0=some L'):(Un L 0).isSome=true:=by rw [h];rfl
theorem Z0h {n:Zp} (hn:X0 n) {ln:LI} {b:Z8} {L O:Zt} {q:Int} {k:Nat} (hk:X5 n.decls L q) (hq:0<=q) (hty:0<=Xi n L.vars b) (hkl:k<=L.vars.length) (h:V8 n ln L k b=some O) :
  Wp O/\O.vars.length=k:=
 ((In n hn ln b.sz).2 b L O q k (X4 _) hk hq hty hkl h).2
end Go.Abs
namespace Go.Abs
theorem PA {n:Zp}:∀{l:List Yg},QR n l=true->∀r∈l,¬TF r.body<0/\Xi n r.params r.body=r.result
 | [],_,r,h=>by simp at h
 | a::l,h,r,hr=>by
  rw [QR] at h
  split at h
  ·rename_i h1
   rcases YG.1 hr with rfl|hr
   ·exact h1
   ·exact PA h r hr
  ·cases h
theorem Gi {n:Zp} (hz:Tl n) (h:XU n=true):X0 n/\∀r∈n.routines,0<=Xi n r.params r.body:=by
 simp only [XU,W2] at h
 refine ⟨Ix hz h.1,fun r hr=>?_⟩
 rw [(PA h.2 r hr).2]
 have h1:=h.1
 simp only [VL,QY,W2] at h1
 have:=Ld h1.2.1.2.2.1 (Ut r) (W8.2 ⟨r,hr,rfl⟩)
 simp only [KP,W2,decide_eq_true_eq,Ut] at this
 exact (of_decide_eq_true this.2.2).1
end Go.Abs
end
section
namespace Go.Abs
theorem Ht {xs:LI} (h:Z6 xs=[]):xs=[]:=by cases xs with|nil=>rfl|cons x r=>cases h
def JE (i:Int):LI->Nat->Int
 | [],_=>-1
 | x::r,k=>if i=x then (k:Int) else JE i r (k+1)
def Ff (xs:LI) (i:Int):Int:=JE i xs 0
theorem O4 (i:Int):∀(xs:LI) (k:Nat),(0<=JE i xs k↔i∈xs)/\-1<=JE i xs k
 | [],k=>by simp [JE]
 | x::r,k=>by
  rw [JE]
  obtain ⟨h1,h2⟩:=O4 i r (k+1)
  split
  ·rename_i h;subst h;simp<;>omega
  ·rename_i h;simp [h1,h,h2]
theorem Z71 (xs:LI) (i:Int):decide (Ff xs i>=0)=decide (i∈xs):=by
 rw [decide_eq_decide];exact (O4 i xs 0).1
end Go.Abs
namespace Go.Abs
theorem Nm (xss:List LI) (k:Nat):(xss.take k).flatten.length<=xss.flatten.length:=by
 conv=>rhs;rw [<-T1 k xss,List.flatten_append,Ys]
 omega
end Go.Abs
namespace Go.Abs
theorem HH {xss:List LI} {k:Nat} {x:LI} (h:xss[k]? = some x):(xss.take (k+1)).flatten=(xss.take k).flatten++x:=by rw [V4 h,List.flatten_append];simp
theorem Nl {xss:List LI} {k:Nat} {x:LI} (h:xss[k]? = some x):(xss.take k).flatten.length+x.length<=xss.flatten.length:=by
 have:=Nm xss (k+1)
 rw [HH h,Ys] at this
 exact this
end Go.Abs
end
section
namespace Go.Abs
theorem Z1e {c:Int} {ds:List Zf} {k:Nat} {d:Zf} {r:Int × LI} (h:ds[k]? = some d) (hn:¬(c-YL (ds.take k)>=0/\c-YL (ds.take k)<d.cons.length))
  (hr:T4 c (ds.drop k) k (YL (ds.take k))=r):T4 c (ds.drop (k+1)) (k+1) (YL (ds.take (k+1)))=r:=by
 rw [Y5 h,T4,Z7 om] at hr
 rw [V4 h,Di,<-hr];rfl
end Go.Abs
namespace Go.Abs
theorem Z1g {c:Int} {ds:List Zf} {k:Nat} {d:Zf} {x:Yj} (h:ds[k]? = some d) (hn:c-YL (ds.take k)>=0/\c-YL (ds.take k)<d.cons.length)
  (hx:d.cons[(c-YL (ds.take k)).toNat]? = some x):T4 c (ds.drop k) k (YL (ds.take k))=((k:Int)+1,x.fields):=by
 rw [Y5 h,T4,Ze om,hx];rfl
def Av (c:Int) (z:Nat) (v:Int):Prop:=v=c-z∨(c<0/\c-z < -9223372036854775808/\v=c-z+18446744073709551616)
theorem SY {c:Int} {z l:Nat} {v:Int} (h:Av c z v) (hz:z<=100) (hl:l<=3) (hc:-9223372036854775808<=c/\c<=9223372036854775807):Av c (z+l) (C4 (v-l)):=by
 unfold Av at *;rw [C4,IntKind.wrap_i64];omega
theorem Z1f {c v:Int} {ds:List Zf} {k:Nat} {d:Zf} {r:Int × LI} (h:ds[k]? = some d) (ha:Av c (YL (ds.take k)) v) (hn:¬(v>=0/\v<d.cons.length))
  (hr:T4 c (ds.drop k) k (YL (ds.take k))=r):T4 c (ds.drop (k+1)) (k+1) (YL (ds.take (k+1)))=r:=Z1e h (by unfold Av at ha;omega) hr
theorem Z1h {c v:Int} {ds:List Zf} {k:Nat} {d:Zf} {x:Yj} (h:ds[k]? = some d) (ha:Av c (YL (ds.take k)) v) (hz:YL (ds.take k)<=100) (hl:d.cons.length<=3) (hc:-9223372036854775808<=c)
  (hn:v>=0/\v<d.cons.length) (hx:d.cons[v.toNat]? = some x):T4 c (ds.drop k) k (YL (ds.take k))=((k:Int)+1,x.fields):=by
 have:v=c-(YL (ds.take k):Int):=by unfold Av at ha;omega
 subst this
 exact Z1g h hn hx
def VH (ds:List Zf) (t:Int):Zf:=if XT ds t=true then (ds[(t-1).toNat]?).getD ⟨0,0,[]⟩ else ⟨0,0,[]⟩
end Go.Abs
namespace Go.Abs
abbrev MR (ds:List Zf) (d:Zf):Prop:=
 (((¬(0<=d.frm/\d.frm<=ds.length))∨(¬(0<=d.to_/\d.to_<=ds.length)))∨((d.cons.length:Int)>3))∨(((d.cons.length:Int)>0)/\((d.frm≠0)∨(d.to_≠0)))
theorem Z2b {ds:List Zf} {d:Zf} {i:Nat} (h:MR ds d):UA ds d i=false:=by
 rw [UA]
 split
 ·rw [Z7];rintro ⟨h1,h2,h3⟩
  rcases h with ((h|h)|h)|h<;>omega
 ·split
  ·rfl
  ·rcases h with ((h|h)|h)|h
   ·rw [decide_eq_false h];rfl
   ·rw [decide_eq_false h,Bool.and_false]
   ·omega
   ·omega
theorem Z2c {ds:List Zf} {d:Zf} {i:Nat} (hl:0<d.cons.length) (h:TB ds.length d.cons=false):UA ds d i=false:=by
 rw [UA,Ze hl];split
 ·exact h
 ·rfl
theorem Z2d {ds:List Zf} {d:Zf} {i:Nat} (hl:d.cons.length=0) (h:QB d (ds.take i)=true):UA ds d i=false:=by
 rw [UA,Z7 om,Ze h]
theorem Z2e {ds:List Zf} {d:Zf} {i:Nat} (h1:¬MR ds d) (h2:TB ds.length d.cons=true) (h3:d.cons.length=0->QB d (ds.take i)=false):UA ds d i=true:=by
 rw [UA]
 have ha:0<=d.frm/\d.frm<=ds.length:=Vh.1 fun q=>h1 (.inl (.inl (.inl q)))
 have hb:0<=d.to_/\d.to_<=ds.length:=Vh.1 fun q=>h1 (.inl (.inl (.inr q)))
 have hc:¬(d.cons.length:Int)>3:=fun q=>h1 (.inl (.inr q))
 split
 ·rename_i hl
  have hd:¬(d.frm≠0∨d.to_≠0):=fun q=>h1 (.inr ⟨by omega,q⟩)
  rw [Ze ⟨by omega,by omega,by omega⟩];exact h2
 ·rw [Z7 (by rw [h3 om];simp),decide_eq_true ha,decide_eq_true hb];rfl
theorem LF {ds:List Zf} {k:Nat} {d:Zf} (h:ds[k]? = some d) (hA:UA ds d k=false) (c:T6 ds (ds.drop k) k=T6 ds ds 0):false=WO ds:=by
 rw [WO,<-c,Y5 h,T6,Dj h,hA,Z7 (by simp),Bool.and_false]
theorem Ze6 {ds:List Zf} {k:Nat} {d:Zf} {r:Bool} (h:ds[k]? = some d) (hA:UA ds d k=true) (c:T6 ds (ds.drop k) k=r):T6 ds (ds.drop (k+1)) (k+1)=r:=by
 rw [Y5 h,T6,Dj h,hA,Ze rfl] at c;exact c
theorem Ze5 {ds:List Zf} {k:Nat} (hl:ds.length<=4) (hk:ds.length<=k) (c:T6 ds (ds.drop k) k=T6 ds ds 0):true=WO ds:=by
 rw [WO,<-c,Xe hk,decide_eq_true hl];rfl
theorem Z1i {m:Nat} {c:Yj} (h:((c.fields.length:Int)>3)∨(¬(We m c.fields=true))):J7 m c=false:=by
 rw [J7]
 rcases h with h|h
 ·rw [decide_eq_false om];rfl
 ·rw [J2.2 h,Bool.and_false]
theorem Z1j {m:Nat} {c:Yj} (h:¬(((c.fields.length:Int)>3)∨(¬(We m c.fields=true)))):J7 m c=true:=by
 rw [J7,Vh.1 fun q=>h (.inr q),decide_eq_true (by have:¬(c.fields.length:Int)>3:=fun q=>h (.inl q);omega)];rfl
end Go.Abs
end
section
namespace Go.Abs
structure V7 where
 pms:LI
 lnt:LI
 res:Int
abbrev OB (f:V7):List AV:=[Z4 f.pms,Z4 f.lnt,.i f.res]
abbrev Ef (f:V7):AV:=.agg (OB f)
def T9 (fs:List V7):List AV:=fs.map Ef
abbrev CI (xs:List V7):AV:=.sl (T9 xs) none
abbrev FA (xs:List V7) (v:Value):AV:=.sl (T9 xs) (some v)
theorem BG {xs:List V7} {j:Nat} {x:V7} (h:xs[j]? = some x):(T9 xs)[j]? = some (Ef x):=by simp [T9,h]
@[simp] theorem Dl (xs:List V7):(T9 xs).length=xs.length:=by simp [T9]
theorem MV (xs:List V7):∀y∈T9 xs,y.leaves.length=3:=by intro y hy;simp only [T9,W8] at hy;obtain ⟨x,_,rfl⟩:=hy;rfl
theorem Z2x (xs:List V7):(Zl (T9 xs)).all AV.one=true:=Jb fun y hy=>by simp only [T9,W8] at hy;obtain ⟨x,_,rfl⟩:=hy;rfl
def XR (r:Yg):V7:=⟨r.params,r.lent,r.result⟩
def JG (m:Nat) (f:V7):Bool:=KP m ⟨f.pms,f.res⟩&&KY f.pms f.lnt
def Kh (m:Nat):List V7->Bool
 | []=>true
 | f::r=>if JG m f=true then Kh m r else false
def HB:List V7->Bool
 | []=>false
 | f::_=>decide (f.pms.length=0)&&decide (f.res=0)
def KZ (ds:List Zf) (fs:List V7):Bool:=WO ds&&(decide (1<=fs.length/\fs.length<=4)&&(HB fs&&Kh ds.length fs))
theorem Nf {fs:List V7} {x:V7} (h:fs[0]? = some x):HB fs=(decide (x.pms.length=0)&&decide (x.res=0)):=by
 cases fs with
 | nil=>simp at h
 | cons f r=>simp at h;subst h;rfl
theorem R4 (m:Nat):∀rs:List Yg,Kh m (rs.map XR)=(KQ m (rs.map Ut)&&KL rs)
 | []=>rfl
 | r::rs=>by
  simp only [Ul,Kh,KQ,KL,JG,R4 m rs]
  simp only [XR,Ut]
  by_cases h1:KP m { params:=r.params,result:=r.result }=true<;>by_cases h2:KY r.params r.lent=true<;>simp [h1,h2]
theorem OS (n:Zp):VL n=(decide (n.routines.length<=4)&&KZ n.decls (n.routines.map XR)):=by
 have hf:HB (n.routines.map XR)=EQ (n.routines.map Ut):=by
  cases n.routines with
  | nil=>rfl
  | cons r rs=>rfl
 rw [VL,KZ,QY,R4,hf]
 simp only [At]
 cases decide (n.routines.length<=4)<;>cases WO n.decls<;>cases decide (1<=n.routines.length/\n.routines.length<=4)<;>cases KQ n.decls.length (n.routines.map Ut) <;>
  cases EQ (n.routines.map Ut)<;>cases KL n.routines<;>rfl
theorem FX {rs:List Yg} {j:Nat} {x:V7} (h:(rs.map XR)[j]? = some x):∃r,rs[j]? = some r/\x=XR r:=by
 rw [T0] at h
 cases hr:rs[j]? with
 | none=>rw [hr] at h;cases h
 | some r=>rw [hr] at h;cases h;exact ⟨r,rfl,rfl⟩
theorem OI {ps ls:LI} {j:Nat} {v:Int} {r:Bool} (h:ls[j]? = some v) (hg:(0<=v/\v<=(ps.length:Int)-1)/\ps[v.toNat]?≠some 0/\(∀p,(if j=0 then none else ls[j-1]?)=some p->p<v))
  (hr:Qk ps (ls.drop j) (if j=0 then none else ls[j-1]?)=r):Qk ps (ls.drop (j+1)) (if j+1=0 then none else ls[j+1-1]?)=r:=by
 rw [Y5 h,Ip hg] at hr
 rw [Z7 om,show j+1-1=j from rfl,h];exact hr
theorem Iq {ps ls:LI} {j:Nat} {v:Int} {r:Bool} (h:ls[j]? = some v) (hg:¬((0<=v/\v<=(ps.length:Int)-1)/\ps[v.toNat]?≠some 0/\(∀p,(if j=0 then none else ls[j-1]?)=some p->p<v)))
  (hr:Qk ps (ls.drop j) (if j=0 then none else ls[j-1]?)=r):r=false:=by
 rw [Y5 h,Fu hg] at hr;exact hr.symm
theorem FY {m:Nat} {fs:List V7} {k:Nat} {f:V7} {r:Bool} (h:fs[k]? = some f) (hb:JG m f=false) (hr:Kh m (fs.drop k)=r):r=false:=by
 rw [Y5 h,Kh,hb,Z7 (by simp)] at hr;exact hr.symm
theorem Zbh {m:Nat} {fs:List V7} {k:Nat} {f:V7} {r:Bool} (h:fs[k]? = some f) (hb:JG m f=true) (hr:Kh m (fs.drop k)=r):Kh m (fs.drop (k+1))=r:=by
 rw [Y5 h,Kh,Ze hb] at hr;exact hr
end Go.Abs
namespace Go.Abs
section
variable {ds:List Zf} {fs:List V7} {x:V7}
theorem Zed (h:((¬(WO ds=true))∨((fs.length:Int)<1))∨((fs.length:Int)>4)):false=KZ ds fs:=by
 rw [KZ]
 rcases h with (h|h)|h
 ·rw [J2.2 h];rfl
 ·rw [decide_eq_false (p:=1<=fs.length/\fs.length<=4) om];simp
 ·rw [decide_eq_false (p:=1<=fs.length/\fs.length<=4) om];simp
theorem S0 (hx:fs[0]? = some x) (h:((x.pms.length:Int)>0)∨x.res≠0):false=KZ ds fs:=by
 rw [KZ,Nf hx]
 rcases h with h|h
 ·rw [decide_eq_false (p:=x.pms.length=0) om];simp
 ·rw [decide_eq_false (p:=x.res=0) h];simp
theorem Gk (h:Kh ds.length fs=false):false=KZ ds fs:=by rw [KZ,h];simp
theorem Zee (h:¬(((¬(WO ds=true))∨((fs.length:Int)<1))∨((fs.length:Int)>4))) (hx:fs[0]? = some x) (h1:¬((x.pms.length:Int)>0)) (h2:¬x.res≠0) (h3:Kh ds.length fs=true) :
  true=KZ ds fs:=by
 have hv:WO ds=true:=Vh.1 fun q=>h (.inl (.inl q))
 have ha:¬(fs.length:Int)<1:=fun q=>h (.inl (.inr q))
 have hb:¬(fs.length:Int)>4:=fun q=>h (.inr q)
 rw [KZ,Nf hx,hv,h3,decide_eq_true (p:=1<=fs.length/\fs.length<=4) om,decide_eq_true (p:=x.pms.length=0) om,decide_eq_true (p:=x.res=0) (Vh.1 h2)];rfl
abbrev PZ (m:Nat) (x:V7):Prop:=(((x.pms.length:Int)>3)∨(¬(We m x.pms=true)))∨(¬(0<=x.res/\x.res<=m))
theorem Zay {m:Nat} (h:PZ m x):JG m x=false:=by
 rw [JG,KP]
 rcases h with (h|h)|h
 ·rw [decide_eq_false (p:=x.pms.length<=3) om];simp
 ·rw [J2.2 h];simp
 ·rw [decide_eq_false h];simp
theorem L5 {m:Nat} (h:KY x.pms x.lnt=false):JG m x=false:=by rw [JG,h,Bool.and_false]
theorem Zaz {m:Nat} (h:¬PZ m x) (hl:KY x.pms x.lnt=true):JG m x=true:=by
 have h1:¬(x.pms.length:Int)>3:=fun q=>h (.inl (.inl q))
 rw [JG,KP,hl,decide_eq_true (p:=x.pms.length<=3) om,Vh.1 fun q=>h (.inl (.inr q)),decide_eq_true (Vh.1 fun q=>h (.inr q))];rfl
end
end Go.Abs
namespace Go.Abs
abbrev YW (n:Zp):AV:=CI (n.routines.map XR)
end Go.Abs
end
section
namespace Go.Abs
def Wf (us:LI):LI->Option LI
 | []=>some []
 | a::r=>match Xz us a with
  | none=>none
  | some t=>match Wf us r with
   | none=>none
   | some ts=>some (t::ts)
theorem LA {us:LI}:∀{args ts:LI},Wf us args=some ts->∀tys,W7 us args tys=true↔ts=tys
 | [],ts,h,tys=>by
  rw [Wf] at h;cases h
  cases tys with
  | nil=>simp [W7,UX]
  | cons t r=>simp [W7,UX]
 | a::r,ts,h,tys=>by
  rw [Wf] at h
  cases ha:Xz us a with
  | none=>rw [ha] at h;cases h
  | some t=>
   rw [ha] at h
   cases hr:Wf us r with
   | none=>rw [hr] at h;cases h
   | some tr=>
    rw [hr] at h;cases h
    cases tys with
    | nil=>simp [W7,UX]
    | cons t2 r2=>
     rw [W7,UX,ha]
     have:=LA hr r2
     rw [W7] at this
     by_cases he:t=t2
     ·subst he;simp [this]
     ·rw [Z7 (fun q=>he (TU q))];simp [he]
theorem M5 {us:LI}:∀{args ts:LI},Wf us args=some ts->ts.length=args.length
 | [],ts,h=>by rw [Wf] at h;cases h;rfl
 | a::r,ts,h=>by
  rw [Wf] at h
  cases ha:Xz us a with
  | none=>rw [ha] at h;cases h
  | some t=>
   rw [ha] at h
   cases hr:Wf us r with
   | none=>rw [hr] at h;cases h
   | some tr=>rw [hr] at h;cases h;simp [M5 hr]
theorem M6 {us:LI} {b t:Int}:∀{xs ts:LI},Wf us xs=some ts->Xz us b=some t->Wf us (xs++[b])=some (ts++[t])
 | [],ts,h,hb=>by rw [Wf] at h;cases h;simp [Wf,hb]
 | a::r,ts,h,hb=>by
  rw [Wf] at h
  cases ha:Xz us a with
  | none=>rw [ha] at h;cases h
  | some u=>
   rw [ha] at h
   cases hr:Wf us r with
   | none=>rw [hr] at h;cases h
   | some tr=>
    rw [hr] at h;cases h
    rw [K0,Wf,ha,M6 hr hb];rfl
def Dc (n:Zp) (num:Int):LI->Option Int
 | [a,b]=>if XT n.decls a=true/\b=(VH n.decls a).frm/\num=0 then some (VH n.decls a).to_ else none
 | _=>none
def XE (n:Zp) (op num:Int) (ts:LI):Option Int:=
 if op=0 then (if (-999<=num/\num<=999)/\ts.length=0 then some 0 else none)
 else if op=1∨op=2∨op=3∨op=4 then (if num=0/\ts=[0,0] then some 0 else none)
 else if op=5 then (if num=0/\ts=[0] then some 0 else none)
 else if op=11 then Dc n num ts
 else if op=6 then (if 0<=Wa n.decls num/\ts=ZU n.decls num then some (Wa n.decls num) else none)
 else if op=9 then (match Xz n.routines num with
  | none=>none
  | some r=>if ts=r.params then some r.result else none)
 else if op=10 then (match Xz n.routines num with
  | none=>none
  | some r=>if r.params.length≠0/\0<=Kv n.decls r.params r.result/\ts=r.params.take (r.params.length-1) then some (Kv n.decls r.params r.result) else none)
 else none
theorem Ei {n:Zp} {num:Int} {ts:LI} (h:ts.length≠2):Dc n num ts=none:=by
 match ts,h with
 | [],_=>rfl
 | [_],_=>rfl
 | [_,_],h=>simp at h
 | _::_::_::_,_=>rfl
structure K3 (n:Zp):Prop where
 result:∀r∈n.routines,0<=r.result
 params:∀r∈n.routines,∀p∈r.params,0<=p
 decl:∀d∈n.decls,d.cons.length=0->0<=d.frm/\0<=d.to_
 fields:∀c,∀f∈ZU n.decls c,0<=f
abbrev O9 (us:LI) (s:Z5):Prop:=s.into≠0/\(((s.op≠6∨s.into<1)∨s.into>us.length)∨gI us (s.into-1)=0)
theorem Z7i {us:LI} {op into:Int} (hnn:∀t∈us,0<=t) (h:¬(into≠0/\(((op≠6∨into<1)∨into>us.length)∨gI us (into-1)=0))):Uk us op into=true:=by
 rw [Uk]
 split
 ·rfl
 ·rename_i h0
  have h1:¬(((op≠6∨into<1)∨into>us.length)∨gI us (into-1)=0):=fun q=>h ⟨h0,q⟩
  have h2:op=6:=Vh.1 fun q=>h1 (.inl (.inl (.inl q)))
  have h3:¬into<1:=fun q=>h1 (.inl (.inl (.inr q)))
  have h4:¬into>us.length:=fun q=>h1 (.inl (.inr q))
  have h5:¬gI us (into-1)=0:=fun q=>h1 (.inr q)
  obtain ⟨t,ht⟩:=KA (xs:=us) (j:=(into-1).toNat) om
  rw [Ze h2,TX om ht]
  rw [Vr ht] at h5
  have:=hnn t (Y4 ht)
  simp;omega
theorem Z7h {us:LI} {op into:Int} (h:into≠0/\(((op≠6∨into<1)∨into>us.length)∨gI us (into-1)=0)):Uk us op into=false:=by
 obtain ⟨h0,h⟩:=h
 rw [Uk,Z7 h0]
 split
 ·rename_i h6
  cases ha:Xz us (into-1) with
  | none=>rfl
  | some t=>
   obtain ⟨a1,a2⟩:=Kw ha
   rcases h with ((h|h)|h)|h
   ·exact absurd h6 h
   ·omega
   ·omega
   ·rw [Vr a2] at h;subst h;rfl
 ·rfl
theorem Zdj {n:Zp} {us:LI} {s:Z5} (h:O9 us s):Ya n us s=-1:=by
 rw [An,Ze (.inr (.inl (by rw [Z7h h];simp)))]
end Go.Abs
namespace Go.Abs
theorem Z7j {α:Type} {c:Prop} [Decidable c] {v:α}:(if c then some v else none).isSome=decide c:=by split<;>simp_all
theorem Zbi {n:Zp} (hty:K3 n) {op num:Int} {ts:LI} {x:Int} (h:XE n op num ts=some x):0<=x:=by
 unfold XE at h
 split at h
 ·split at h<;>cases h;exact Int.le_refl 0
 split at h
 ·split at h<;>cases h;exact Int.le_refl 0
 split at h
 ·split at h<;>cases h;exact Int.le_refl 0
 split at h
 ·rcases ts with _|⟨a,_|⟨b,_|⟨c,r⟩⟩⟩
  ·cases h
  ·cases h
  ·rw [Dc] at h
   split at h
   ·rename_i hq
    cases h
    rw [VH,Ze hq.1]
    have hA:=hq.1
    simp only [XT,W2,decide_eq_true_eq] at hA
    cases hd:n.decls[(a-1).toNat]? with
    | none=>rw [hd] at hA;simp at hA
    | some d=>
     rw [hd] at hA
     exact (hty.decl d (Y4 hd) (by simpa using hA.2)).2
   ·cases h
  ·cases h
 split at h
 ·split at h
  ·rename_i hq;cases h;exact hq.1
  ·cases h
 split at h
 ·cases ha:Xz n.routines num with
  | none=>rw [ha] at h;cases h
  | some r=>
   rw [ha] at h
   simp only at h
   split at h
   ·cases h;exact hty.result r (Y4 (Kw ha).2)
   ·cases h
 split at h
 ·cases ha:Xz n.routines num with
  | none=>rw [ha] at h;cases h
  | some r=>
   rw [ha] at h
   simp only at h
   split at h
   ·rename_i hq;cases h;exact hq.2.1
   ·cases h
 ·cases h
def KV (n:Zp) (us:LI) (s:Z5) (ts:LI):Int:=
 if YA s.op=true then (match ts with
  | [t]=>if t≠0/\s.num=0/\s.kids.length=0/\¬((s.op=16∨s.op=17)/\XT n.decls t=true) then 0 else -1
  | _=>-1)
 else if s.op=7 then (if ts=[0]/\s.num=0 then Tu n us s.op s.num s.kids else -1)
 else if s.op=8 then (if ts=[s.num] then Tu n us s.op s.num s.kids else -1)
 else if 0<s.kids.length∨(s.op=10/\0<(((Xz n.routines s.num).map (·.lent)).getD []).length) then -1
 else (XE n s.op s.num ts).getD (-1)
theorem Oc {p q:Prop} [Decidable p] [Decidable q] {a b:Int} (h:p↔q):ite p a b=ite q a b:=by
 by_cases hp:p
 ·rw [Ze hp,Ze (h.1 hp)]
 ·rw [Z7 hp,Z7 (fun z=>hp (h.2 z))]
theorem Bf {n:Zp} {us:LI} {s:Z5} {ts:LI} (hnn:∀t∈us,0<=t) (hts:Wf us s.args=some ts) (hi:¬O9 us s):Ya n us s=KV n us s ts:=by
 have hv:=Z7i hnn hi
 have ht:=LA hts
 have hl:=M5 hts
 have hfirst:((s.num≠0/\¬VC s.op=true)∨¬Uk us s.op s.into=true∨(0<s.kids.length/\s.op≠7/\s.op≠8))↔((s.num≠0/\¬VC s.op=true)∨(0<s.kids.length/\s.op≠7/\s.op≠8)):=by
  rw [hv];simp
 rw [An,Oc hfirst]
 unfold KV
 by_cases hc:YA s.op=true
 ·have hop:14<=s.op/\s.op<=17:=by simpa [YA] using hc
  have hnum:VC s.op=false:=by simp [VC];omega
  rw [Ze hc]
  by_cases hb:s.num≠0∨0<s.kids.length
  ·rw [Ze (by rcases hb with hb|hb;exact .inl ⟨hb,by rw [hnum];simp⟩;exact .inr ⟨hb,by omega,by omega⟩)]
   split
   ·rw [Z7];rintro ⟨h1,h2,h3,h4⟩;omega
   ·rfl
  ·rw [Z7 (by rintro (⟨h1,_⟩|⟨h1,_⟩)<;>exact hb (by first|exact .inl h1|exact .inr h1)),Z7 om,Z7 om,Z7 om,Z7 om,Z7 om,Z7 om,Z7 om,Z7 om,Ze om]
   have Zb:s.num=0:=Vh.1 fun q=>hb (.inl q)
   have ZB:s.kids.length=0:=by have:¬0<s.kids.length:=fun q=>hb (.inr q);omega
   rcases he:s.args with _|⟨a,_|⟨b,r⟩⟩
   ·rw [he] at hts;rw [Wf] at hts;cases hts;rfl
   ·rw [he] at hts
    rw [Wf] at hts
    cases ha:Xz us a with
    | none=>rw [ha] at hts;cases hts
    | some t=>
     rw [ha,Wf] at hts;cases hts
     rw [Qf,ha]
     simp only
     by_cases ht0:t=0
     ·rw [Ze ht0,Z7 (fun q=>q.1 ht0)]
     ·rw [Z7 ht0]
      by_cases hA:XT n.decls t=true
      ·by_cases h16:s.op=16∨s.op=17
       ·rw [Ze ⟨by omega,hA⟩,Z7 (fun q=>q.2.2.2 ⟨h16,hA⟩)]
       ·rw [Z7 (by rintro ⟨q,_⟩;omega),Ze ⟨ht0,Zb,ZB,fun q=>h16 q.1⟩]
      ·rw [Z7 (fun q=>hA q.2),Ze ⟨ht0,Zb,ZB,fun q=>hA q.2⟩]
   ·rw [he] at hl
    rw [show Qf n.decls us s.op (a::b::r)=-1 from rfl]
    match ts,hl with
    | [t],hl=>simp at hl
    | [],hl=>simp at hl
    | _::_::_,_=>rfl
 have hop:¬(14<=s.op/\s.op<=17):=by simpa [YA] using hc
 by_cases h7:s.op=7
 ·have hnum:VC s.op=false:=by simp [VC];omega
  conv=>rhs;rw [Z7 hc,Ze h7]
  by_cases hb:s.num=0
  ·rw [Z7 (fun q=>q.elim (fun z=>z.1 hb) fun z=>z.2.1 h7),Z7 om,Z7 om,Z7 om,Z7 om,Ze h7]
   by_cases hq:ts=[0]
   ·rw [Ze ((ht _).2 hq),Ze ⟨hq,hb⟩]
   ·rw [Z7 (fun q=>hq ((ht _).1 q)),Z7 (fun q=>hq q.1)]
  ·rw [Ze (.inl ⟨hb,by rw [hnum];simp⟩),Z7 (fun q=>hb q.2)]
 by_cases h8:s.op=8
 ·have hnum:VC s.op=true:=by simp [VC,h8]
  conv=>rhs;rw [Z7 hc,Z7 h7,Ze h8]
  rw [Z7 (fun q=>q.elim (fun z=>z.2 hnum) fun z=>z.2.2 h8),Z7 om,Z7 om,Z7 om,Z7 om,Z7 h7,Ze h8]
  by_cases hq:ts=[s.num]
  ·rw [Ze ((ht _).2 hq),Ze hq]
  ·rw [Z7 (fun q=>hq ((ht _).1 q)),Z7 hq]
 conv=>rhs;rw [Z7 hc,Z7 h7,Z7 h8]
 by_cases hk:0<s.kids.length
 ·rw [Ze (.inr ⟨hk,h7,h8⟩),Ze (.inl hk)]
 by_cases hlent:s.op=10/\0<(((Xz n.routines s.num).map (·.lent)).getD []).length
 ·conv=>rhs;rw [Ze (.inr hlent)]
  have hnum:VC s.op=true:=by simp [VC,hlent.1]
  have h10:=hlent.1
  rw [Z7 (fun q=>q.elim (fun z=>z.2 hnum) fun z=>hk z.1),Z7 om,Z7 om,Z7 om,Z7 om,Z7 h7,Z7 h8,Ze (.inr h10),Tx]
  cases ha:Xz n.routines s.num with
  | none=>rfl
  | some r=>
   have h2:=hlent.2
   rw [ha] at h2
   simp only [Bq,Option.getD_some] at h2
   simp only
   rw [Kg,Z7 om,Ze (.inr (.inl h2))]
 conv=>rhs;rw [Z7 (fun q=>Or.elim q hk hlent)]
 have sf:∀{X:Option Int},XE n s.op s.num ts=X->Ya n us s=X.getD (-1)->Ya n us s=(XE n s.op s.num ts).getD (-1):=fun a b=>by rw [a];exact b
 have hL:=An n us s
 rw [Oc hfirst] at hL
 rw [<-hL]
 by_cases hnb:s.num≠0/\¬VC s.op=true
 ·have hnn2:¬(s.op=0∨(s.op=6∨(s.op=8∨(s.op=9∨s.op=10)))):=fun q=>hnb.2 (by simpa [VC] using q)
  refine sf (X:=none) ?_ (by rw [hL,Ze (.inl hnb)];rfl)
  unfold XE
  rw [Z7 om]
  split
  ·rw [Z7 (fun q=>hnb.1 q.1)]
  split
  ·rw [Z7 (fun q=>hnb.1 q.1)]
  split
  ·by_cases hl2:ts.length=2
   ·match ts,hl2 with
    | [a,b],_=>exact Z7 fun q=>hnb.1 q.2.2
   ·exact Ei hl2
  rw [Z7 om,Z7 om,Z7 om]
 rw [Z7 (fun q=>q.elim hnb fun z=>hk z.1)] at hL
 have hnumf:¬(s.op=0∨(s.op=6∨(s.op=8∨(s.op=9∨s.op=10))))->s.num=0:=fun q=>Vh.1 fun z=>hnb ⟨z,fun y=>q (by simpa [VC] using y)⟩
 by_cases h0:s.op=0
 ·rw [Ze h0] at hL
  by_cases hq:s.args.length=0/\(-999<=s.num/\s.num<=999)
  ·exact sf (by unfold XE;rw [Ze h0,Ze ⟨hq.2,by omega⟩]) (by rw [hL,Ze hq];rfl)
  ·exact sf (by unfold XE;rw [Ze h0,Z7 (fun q=>hq ⟨by omega,q.1⟩)]) (by rw [hL,Z7 hq];rfl)
 rw [Z7 h0] at hL
 by_cases h1:s.op=1∨s.op=2∨s.op=3∨s.op=4
 ·rw [Ze h1] at hL
  by_cases hq:ts=[0,0]
  ·exact sf (by unfold XE;rw [Z7 h0,Ze h1,Ze ⟨hnumf om,hq⟩]) (by rw [hL,Ze ((ht _).2 hq)];rfl)
  ·exact sf (by unfold XE;rw [Z7 h0,Ze h1,Z7 (fun q=>hq q.2)]) (by rw [hL,Z7 (fun q=>hq ((ht _).1 q))];rfl)
 rw [Z7 h1] at hL
 by_cases h5:s.op=5
 ·rw [Ze h5] at hL
  by_cases hq:ts=[0]
  ·exact sf (by unfold XE;rw [Z7 h0,Z7 h1,Ze h5,Ze ⟨hnumf om,hq⟩]) (by rw [hL,Ze ((ht _).2 hq)];rfl)
  ·exact sf (by unfold XE;rw [Z7 h0,Z7 h1,Ze h5,Z7 (fun q=>hq q.2)]) (by rw [hL,Z7 (fun q=>hq ((ht _).1 q))];rfl)
 rw [Z7 h5] at hL
 by_cases h6:s.op=6
 ·rw [Ze h6] at hL
  have hct:0<Wa n.decls s.num↔0<=Wa n.decls s.num:=by
   rcases Int.lt_or_le (Wa n.decls s.num) 1 with q|q
   ·have:=(Ex q).2;omega
   ·omega
  by_cases hq:0<=Wa n.decls s.num/\ts=ZU n.decls s.num
  ·exact sf (by unfold XE;rw [Z7 h0,Z7 h1,Z7 h5,Z7 om,Ze h6,Ze hq]) (by rw [hL,Ze ⟨hct.2 hq.1,(ht _).2 hq.2⟩];rfl)
  ·exact sf (by unfold XE;rw [Z7 h0,Z7 h1,Z7 h5,Z7 om,Ze h6,Z7 hq]) (by rw [hL,Z7 (fun q=>hq ⟨hct.1 q.1,(ht _).1 q.2⟩)];rfl)
 rw [Z7 h6,Z7 h7,Z7 h8] at hL
 by_cases h9:s.op=9
 ·rw [Ze (.inl h9),Tx] at hL
  cases ha:Xz n.routines s.num with
  | none=>exact sf (by unfold XE;rw [Z7 h0,Z7 h1,Z7 h5,Z7 om,Z7 h6,Ze h9,ha]) (by rw [hL,ha];rfl)
  | some r=>
   rw [ha] at hL
   simp only at hL
   rw [Kg,Ze h9] at hL
   have hF:∀{X:Option Int},(if ts=r.params then some r.result else none)=X->XE n s.op s.num ts=X:=fun q=>by
    unfold XE;rw [Z7 h0,Z7 h1,Z7 h5,Z7 om,Z7 h6,Ze h9,ha];exact q
   by_cases hq:ts=r.params
   ·exact sf (hF (Ze hq)) (by rw [hL,Ze ((ht _).2 hq)];rfl)
   ·exact sf (hF (Z7 hq)) (by rw [hL,Z7 (fun q=>hq ((ht _).1 q))];rfl)
 by_cases h10:s.op=10
 ·rw [Ze (.inr h10),Tx] at hL
  cases ha:Xz n.routines s.num with
  | none=>exact sf (by unfold XE;rw [Z7 h0,Z7 h1,Z7 h5,Z7 om,Z7 h6,Z7 h9,Ze h10,ha]) (by rw [hL,ha];rfl)
  | some r=>
   rw [ha] at hL hlent
   simp only [Bq,Option.getD_some] at hL hlent
   rw [Kg,Z7 h9] at hL
   have hF:∀{X:Option Int},(if r.params.length≠0/\0<=Kv n.decls r.params r.result/\ts=r.params.take (r.params.length-1) then some (Kv n.decls r.params r.result) else none)=X->XE n s.op s.num ts=X:=fun q=>by
    unfold XE;rw [Z7 h0,Z7 h1,Z7 h5,Z7 om,Z7 h6,Z7 h9,Ze h10,ha];exact q
   by_cases hp:r.params.length=0
   ·exact sf (hF (Z7 fun q=>q.1 hp)) (by rw [hL,Ze (.inl hp)];rfl)
   by_cases hq:ts=r.params.take (r.params.length-1)
   ·rw [Z7 (fun z=>z.elim hp fun z=>z.elim (fun z=>hlent ⟨h10,z⟩) fun z=>z ((ht _).2 hq))] at hL
    by_cases har:0<=Kv n.decls r.params r.result
    ·exact sf (hF (Ze ⟨hp,har,hq⟩)) hL
    ·refine sf (hF (Z7 fun q=>har q.2.1)) ?_
     have key:∀(l:List Zf) (i:Nat) (f t:Int),¬0<=K6 f t l i->K6 f t l i=-1:=by
      intro l
      induction l with
      | nil=>intro i f t _;rfl
      | cons d r ih=>
       intro i f t hn
       rw [K6] at hn ⊢
       split
       ·rename_i hh;rw [Ze hh] at hn;omega
       ·rename_i hh;rw [Z7 hh] at hn;exact ih _ _ _ hn
     exact hL.trans (key _ _ _ _ har)
   ·exact sf (hF (Z7 fun q=>hq q.2.2)) (by rw [hL,Ze (.inr (.inr fun q=>hq ((ht _).1 q)))];rfl)
 rw [Z7 om] at hL
 by_cases h11:s.op=11
 ·rw [Ze h11] at hL
  have hn0:=hnumf om
  have hF:∀{X:Option Int},Dc n s.num ts=X->XE n s.op s.num ts=X:=fun q=>by
   unfold XE;rw [Z7 h0,Z7 h1,Z7 h5,Ze h11];exact q
  rcases he:s.args with _|⟨a,_|⟨b,_|⟨c,r⟩⟩⟩
  ·rw [he] at hts hL;rw [Wf] at hts;cases hts;exact sf (hF rfl) hL
  ·rw [he] at hl hL
   exact sf (hF (Ei (by simp at hl;omega))) hL
  ·rw [he] at hts hL
   rw [Wf] at hts
   cases ha:Xz us a with
   | none=>rw [ha] at hts;cases hts
   | some t=>
    rw [ha,Wf] at hts
    cases hb:Xz us b with
    | none=>rw [hb] at hts;cases hts
    | some t2=>
     rw [hb,Wf] at hts;cases hts
     rw [Qw,ha] at hL
     simp only at hL
     by_cases hA:XT n.decls t=true
     ·rw [Ze hA] at hL
      have hA2:=hA
      simp only [XT,W2,decide_eq_true_eq] at hA2
      cases hd:n.decls[(t-1).toNat]? with
      | none=>rw [hd] at hA2;simp at hA2
      | some d=>
       rw [hd] at hL
       simp only at hL
       have hD:VH n.decls t=d:=by rw [VH,Ze hA,hd];rfl
       have h2:=LA (us:=us) (args:=[b]) (ts:=[t2]) (by rw [Wf,hb,Wf]) [d.frm]
       by_cases hq:t2=d.frm
       ·exact sf (hF (Ze ⟨hA,by rw [hD];exact hq,hn0⟩)) (by rw [hL,Ze (h2.2 (by rw [hq])),hD];rfl)
       ·exact sf (hF (Z7 fun q=>hq (by rw [hD] at q;exact q.2.1))) (by rw [hL,Z7 (fun q=>hq (by simpa using h2.1 q))];rfl)
     ·exact sf (hF (Z7 fun q=>hA q.1)) (by rw [hL,Z7 hA];rfl)
  ·rw [he] at hl hL
   exact sf (hF (Ei (by simp at hl;omega))) hL
 rw [Z7 h11,Z7 om] at hL
 exact sf (X:=none) (by unfold XE;rw [Z7 h0,Z7 h1,Z7 h5,Z7 h11,Z7 h6,Z7 h9,Z7 h10]) hL
end Go.Abs
namespace Go.Abs
theorem OY:∀(n:Nat) (f:Int) (k:Nat) (x:Int),(Vu f n)[k]? = some x->x=f+k/\k<n
 | 0,f,k,x,h=>by simp [Vu] at h
 | n+1,f,k,x,h=>by
  rw [Vu] at h
  cases k with
  | zero=>simp at h;subst h;exact ⟨by omega,by omega⟩
  | succ k=>have:=OY n (f+1) k x (by simpa using h);exact ⟨by omega,by omega⟩
theorem MK {ds:List Zf} (hd:WD ds) {t:Int} {k:Nat} {x:Int} (h:(ZW ds t)[k]? = some x):0<=x/\x<=100:=by
 rw [ZW] at h
 split at h
 ·rename_i ht
  obtain ⟨d,hd1⟩:=KA (xs:=ds) (j:=(t-1).toNat) om
  rw [hd1] at h
  have:=OY _ _ _ _ h
  have h3:=hd.cons_at hd1
  have h4:=(hd.take (t-1).toNat).sum
  simp only [Bq,Option.getD_some] at this
  omega
 ·simp at h
end Go.Abs
namespace Go.Abs
section
variable {S:Option Int} {c:Prop} [Decidable c] {v:Int} {b:Bool}
theorem B8 (h:S=if c then some v else none) (hb:b=true↔c):b=S.isSome:=by rw [h,Z7j,Xq,hb,decide_eq_true_iff]
theorem B9 (h:S=if c then some v else none):∀x,S=some x->v=x:=by
 intro x hx;rw [h] at hx;split at hx
 ·exact TU hx
 ·cases hx
theorem E0 (h:S=none):false=S.isSome:=by rw [h];rfl
theorem E1 (h:S=none):∀x,S=some x->v=x:=by intro x hx;rw [h] at hx;cases hx
end
section
variable {n:Zp} {op num:Int} {ts:LI}
theorem sf0 (h:op=0):XE n op num ts=if (-999<=num/\num<=999)/\ts.length=0 then some 0 else none:=by unfold XE;rw [Ze h]
theorem sf1 (h:op=1∨op=2∨op=3∨op=4):XE n op num ts=if num=0/\ts=[0,0] then some 0 else none:=by unfold XE;rw [Z7 om,Ze h]
theorem sf5 (h:op=5):XE n op num ts=if num=0/\ts=[0] then some 0 else none:=by unfold XE;rw [Z7 om,Z7 om,Ze h]
theorem PY (h:op=11):XE n op num ts=Dc n num ts:=by unfold XE;rw [Z7 om,Z7 om,Z7 om,Ze h]
theorem Zbe (h:op=11) (hl:(ts.length:Int)≠2):XE n op num ts=none:=(PY h).trans (Ei om)
theorem La (h:op=11) {a b:Int} (hl:¬(ts.length:Int)≠2) (ha:ts[0]? = some a) (hb:ts[1]? = some b) :
  XE n op num ts=if XT n.decls a=true/\b=(VH n.decls a).frm/\num=0 then some (VH n.decls a).to_ else none:=by
 rw [PY h]
 match ts,hl,ha,hb with
 | [x,y],_,ha,hb=>simp at ha hb;subst ha;subst hb;rfl
 | [],hl,_,_=>simp at hl
 | [_],hl,_,_=>simp at hl
 | _::_::_::_,hl,_,_=>simp at hl;omega
theorem Zbd (h:op=11) {a:Int} (hl:¬(ts.length:Int)≠2) (ha:ts[0]? = some a) (hn:¬XT n.decls a=true):XE n op num ts=none:=by
 obtain ⟨b,hb⟩:=KA (xs:=ts) (j:=1) om
 rw [La h hl ha hb,Z7 fun q=>hn q.1]
theorem sf6 (h:op=6):XE n op num ts=if 0<=Wa n.decls num/\ts=ZU n.decls num then some (Wa n.decls num) else none:=by
 unfold XE;rw [Z7 om,Z7 om,Z7 om,Z7 om,Ze h]
theorem Zbf (h:op=9∨op=10) (hr:num<0∨num>=(((n.routines.map XR).length:Nat):Int)):XE n op num ts=none:=by
 have ha:Xz n.routines num=none:=K7 (by simp at hr;omega)
 unfold XE
 rw [Z7 om,Z7 om,Z7 om,Z7 om,Z7 om]
 rcases h with h|h
 ·rw [Ze h,ha]
 ·rw [Z7 om,Ze h,ha]
theorem sf9 (h:op=9) {x:V7} (hr:¬(num<0∨num>=(((n.routines.map XR).length:Nat):Int))) (hx:(n.routines.map XR)[num.toNat]? = some x) :
  XE n op num ts=if ts=x.pms then some x.res else none:=by
 obtain ⟨r,h1,rfl⟩:=FX hx
 have ha:Xz n.routines num=some r:=TX (by simp at hr;omega) h1
 unfold XE
 rw [Z7 om,Z7 om,Z7 om,Z7 om,Z7 om,Ze h,ha];rfl
theorem Zbc (h:op=10) {x:V7} (hr:¬(num<0∨num>=(((n.routines.map XR).length:Nat):Int))) (hx:(n.routines.map XR)[num.toNat]? = some x) (hp:(x.pms.length:Int)-1<0) :
  XE n op num ts=none:=by
 obtain ⟨r,h1,rfl⟩:=FX hx
 have ha:Xz n.routines num=some r:=TX (by simp at hr;omega) h1
 have hp':r.params.length=0:=by simp only [XR] at hp;omega
 unfold XE
 rw [Z7 om,Z7 om,Z7 om,Z7 om,Z7 om,Z7 om,Ze h,ha]
 exact Z7 fun q=>q.1 hp'
theorem Zbb (h:op=10) {x:V7} {l:Int} (hr:¬(num<0∨num>=(((n.routines.map XR).length:Nat):Int))) (hx:(n.routines.map XR)[num.toNat]? = some x) (hp:¬(x.pms.length:Int)-1<0)
  (hl:x.pms[((x.pms.length:Int)-1).toNat]? = some l) :
  XE n op num ts=if 0<=Ua n.decls l x.res/\ts=x.pms.take ((x.pms.length:Int)-1).toNat then some (Ua n.decls l x.res) else none:=by
 obtain ⟨r,h1,rfl⟩:=FX hx
 have ha:Xz n.routines num=some r:=TX (by simp at hr;omega) h1
 simp only [XR] at hp hl ⊢
 have hq:((r.params.length:Int)-1).toNat=r.params.length-1:=by omega
 have ht:r.params.take ((r.params.length:Int)-1).toNat=r.params.take (r.params.length-1):=Ym (fun k=>r.params.take k) hq
 have hl':r.params[r.params.length-1]? = some l:=by rw [<-hl];exact Ym (fun k=>r.params[k]?) hq.symm
 have hlast:Kv n.decls r.params r.result=Ua n.decls l r.result:=by rw [Kv,NH hl']
 unfold XE
 rw [Z7 om,Z7 om,Z7 om,Z7 om,Z7 om,Z7 om,Ze h,ha]
 simp only [hlast]
 by_cases hc:0<=Ua n.decls l r.result/\ts=r.params.take (r.params.length-1)
 ·rw [Ze ⟨by omega,hc⟩]
  exact (Ze ⟨hc.1,hc.2.trans ht.symm⟩).symm
 ·rw [Z7 fun q=>hc q.2]
  exact (Z7 (fun q=>hc ⟨q.1,q.2.trans ht⟩)).symm
theorem sfd (h0:¬op=0) (h1:¬(op=1∨op=2∨op=3∨op=4)) (h5:¬op=5) (h11:¬op=11) (h6:¬op=6) (h9:¬(op=9∨op=10)):XE n op num ts=none:=by
 unfold XE;rw [Z7 h0,Z7 h1,Z7 h5,Z7 h11,Z7 h6,Z7 om,Z7 om]
end
end Go.Abs
end
namespace Go.Abs
mutual
def Z5.rng:Z5->Prop
 | .mk _ num _ _ kids=>(-9223372036854775808<=num/\num<=9223372036854775807)/\Qx kids
def Z8.rng:Z8->Prop
 | .mk steps _=>Tj steps
def Tj:List Z5->Prop
 | []=>True
 | s::r=>s.rng/\Tj r
def Qx:List Z8->Prop
 | []=>True
 | b::r=>b.rng/\Qx r
end
theorem Z5.rng_eq (s:Z5):s.rng=((-9223372036854775808<=s.num/\s.num<=9223372036854775807)/\Qx s.kids):=by cases s;rw [Z5.rng];rfl
theorem Z8.rng_eq (b:Z8):b.rng=Tj b.steps:=by cases b;rw [Z8.rng];rfl
theorem Lm:∀{xs:List Z5} {k:Nat} {s:Z5},Tj xs->xs[k]? = some s->s.rng
 | [],k,s,_,h=>by simp at h
 | x::r,0,s,hr,h=>by rw [Tj] at hr;simp at h;subst h;exact hr.1
 | x::r,k+1,s,hr,h=>by rw [Tj] at hr;exact Lm (k:=k) hr.2 (by simpa using h)
theorem Eo:∀{xs:List Z8} {k:Nat} {b:Z8},Qx xs->xs[k]? = some b->b.rng
 | [],k,s,_,h=>by simp at h
 | x::r,0,s,hr,h=>by rw [Qx] at hr;simp at h;subst h;exact hr.1
 | x::r,k+1,s,hr,h=>by rw [Qx] at hr;exact Eo (k:=k) hr.2 (by simpa using h)
theorem LD {us:LI}:∀{args:LI},Wf us args=none->∀tys,W7 us args tys=false
 | [],h,tys=>by rw [Wf] at h;cases h
 | a::r,h,tys=>by
  cases tys with
  | nil=>simp [W7,UX]
  | cons t ts=>
   rw [Wf] at h
   rw [W7,UX]
   cases ha:Xz us a with
   | none=>simp
   | some u=>
    rw [ha] at h
    cases hr:Wf us r with
    | none=>
     have:=LD hr ts
     rw [W7] at this
     by_cases he:u=t
     ·subst he;simpa using this
     ·rw [Z7 (fun q=>he (TU q))]
    | some tr=>rw [hr] at h;cases h
theorem Zdi {n:Zp} {us:LI} {s:Z5} (h:Wf us s.args=none):Ya n us s=-1:=by
 have ht:=LD h
 rw [An]
 split
 ·rfl
 split
 ·rw [Z7];rintro ⟨q,_⟩
  have:s.args=[]:=List.length_eq_zero_iff.1 q
  rw [this,Wf] at h;cases h
 split
 ·rw [Z7 (by rw [ht];simp)]
 split
 ·rw [Z7 (by rw [ht];simp)]
 split
 ·rw [Z7 (by rw [ht];simp)]
 split
 ·rw [Z7 (by rw [ht];simp)]
 split
 ·rw [Z7 (by rw [ht];simp)]
 split
 ·rw [Tx]
  cases Xz n.routines s.num with
  | none=>rfl
  | some r=>
   simp only
   rw [Kg]
   split
   ·rw [Z7 (by rw [ht];simp)]
   ·rw [Ze (.inr (.inr (by rw [ht];simp)))]
 split
 ·match hA:s.args with
  | []=>rfl
  | [_]=>rfl
  | [a,b]=>
   rw [Qw]
   rw [hA,Wf] at h
   cases ha:Xz us a with
   | none=>rfl
   | some t=>
    rw [ha] at h
    simp only at h ⊢
    split
    ·cases n.decls[(t-1).toNat]? with
     | none=>rfl
     | some d=>
      simp only
      rw [Z7]
      cases hb:Wf us [b] with
      | none=>rw [LD hb];simp
      | some tr=>rw [hb] at h;cases h
    ·rfl
  | _::_::_::_=>rfl
 split
 ·match hA:s.args with
  | []=>rfl
  | [a]=>
   rw [Qf]
   rw [hA,Wf] at h
   cases ha:Xz us a with
   | none=>rfl
   | some t=>rw [ha,Wf] at h;cases h
  | _::_::_=>rfl
 ·rfl
theorem M4 {us:LI} {a:Int}:∀{xs:LI} {k:Nat},xs[k]? = some a->Xz us a=none->Wf us xs=none
 | [],k,h,_=>by simp at h
 | x::r,0,h,ha=>by simp at h;subst h;rw [Wf,ha]
 | x::r,k+1,h,ha=>by
  have:=M4 (xs:=r) (k:=k) (by simpa using h) ha
  rw [Wf]
  cases Xz us x with
  | none=>rfl
  | some t=>simp only [this]
theorem Z81 {n:Zp} {us:LI} {ks:List Z8} {ms:List LI} (h:0<ks.length) (t:Int) :
  WV n us (ks.drop 0) (ms.drop 0) (decide (0=0)) t=WV n us ks ms true 0:=by
 cases ks with
 | nil=>simp at h
 | cons b bs=>
  cases ms with
  | nil=>rw [K1,K1,WV,WV]
  | cons m r=>
   simp only [K1,decide_true]
   rw [WV,WV];simp
theorem Mt {b:Z8}:∀{ks:List Z8} {k:Nat},ks[k]? = some b->b.sz<=X7 ks
 | [],k,h=>by simp at h
 | x::r,0,h=>by simp at h;subst h;rw [X7];omega
 | x::r,k+1,h=>by have:=Mt (ks:=r) (k:=k) (by simpa using h);rw [X7];omega
theorem E9 (us m:LI):[us,m].flatten=us++m:=by simp
theorem Np {xs:LI} {i:Int} (h:i.toNat<xs.length):xs[i.toNat]? = some (gI xs i):=by rw [gI,Km h];rfl
theorem EW {xs:LI} (h:0<xs.length):xs[0]? = some (gI xs 0):=Np (i:=0) h
def Uh (n:Zp) (num:Int):V7:=((n.routines.map XR)[num.toNat]?).getD ⟨[],[],0⟩
theorem R0 {n:Zp} {i:Int} (h:i.toNat<(n.routines.map XR).length):(n.routines.map XR)[i.toNat]? = some (Uh n i):=by rw [Uh,Km h];rfl
theorem DK {us m:LI} (h1:∀t∈us,0<=t) (h2:∀t∈m,0<=t):∀t∈us++m,0<=t:=fun t h=>(X8.1 h).elim (h1 t) (h2 t)
theorem AE {us:LI} {args ts:LI} {k:Nat} (h:Wf us (args.take k)=some ts) (hk:args.length<=k):Wf us args=some ts:=by
 rw [Vi hk] at h;exact h
theorem SN {us:LI} {args ts:LI} {k:Nat} {a t:Int} (h:Wf us (args.take k)=some ts) (ha:args[k]? = some a) (ht:Xz us a=some t):Wf us (args.take (k+1))=some (ts++[t]):=by
 rw [V4 ha];exact M6 h ht
theorem P4 {ts:LI} (h:(ts.length:Int)=1):ts=[gI ts 0]:=by
 match ts,h with
 | [a],_=>rfl
section
variable {n:Zp} {us ts:LI} {s:Z5}
theorem Ae {p1 p2 p3 p4 p5:Prop}:(p1/\(p2∨(p3∨(p4∨p5))))↔(p1/\(((p2∨p3)∨p4)∨p5)):=by simp only [or_assoc]
def Ev (n:Zp) (s:Z5) (ts:LI):Int:=match ts with
  | [t]=>if t≠0/\s.num=0/\s.kids.length=0/\¬((s.op=16∨s.op=17)/\XT n.decls t=true) then 0 else -1
  | _=>-1
theorem Be:KV n us s ts =
 if YA s.op=true then Ev n s ts
 else if s.op=7 then (if ts=[0]/\s.num=0 then Tu n us s.op s.num s.kids else -1)
 else if s.op=8 then (if ts=[s.num] then Tu n us s.op s.num s.kids else -1)
 else if 0<s.kids.length∨(s.op=10/\0<(((Xz n.routines s.num).map (·.lent)).getD []).length) then -1
 else (XE n s.op s.num ts).getD (-1):=by unfold KV Ev;rfl
theorem MF (h:(ts.length:Int)=1):Ev n s ts=if gI ts 0≠0/\s.num=0/\s.kids.length=0/\¬((s.op=16∨s.op=17)/\XT n.decls (gI ts 0)=true) then 0 else -1:=by
 match ts,h with
 | [a],_=>rfl
theorem Z15 (h:(ts.length:Int)≠1):Ev n s ts=-1:=by
 match ts,h with
 | [],_=>rfl
 | [a],h=>exact absurd rfl h
 | _::_::_,_=>rfl
theorem Zcy (hS:Ya n us s=KV n us s ts) (hc:YA s.op=true)
  (h:((((ts.length:Int)=1/\gI ts 0≠0)/\s.num=0)/\(s.kids.length:Int)=0)/\(s.op=16∨s.op=17)) :
  (!XT n.decls (gI ts 0))=decide (0<=Ya n us s):=by
 obtain ⟨⟨⟨⟨h1,h2⟩,h3⟩,h4⟩,h5⟩:=h
 have h4':s.kids.length=0:=by omega
 rw [hS,Be,Ze hc,MF h1]
 cases hA:XT n.decls (gI ts 0)
 ·rw [Ze ⟨h2,h3,h4',by simp⟩];rfl
 ·rw [Z7 (fun q=>q.2.2.2 ⟨h5,rfl⟩)];rfl
theorem Zcz (hS:Ya n us s=KV n us s ts) (hc:YA s.op=true)
  (h:¬(((((ts.length:Int)=1/\gI ts 0≠0)/\s.num=0)/\(s.kids.length:Int)=0)/\(s.op=16∨s.op=17))) :
  ((((((ts.length:Int)==1)&&(gI ts 0 != 0))&&(s.num==0))&&((s.kids.length:Int)==0)))=decide (0<=Ya n us s):=by
 rw [hS,Be,Ze hc]
 by_cases h1:(ts.length:Int)=1
 ·rw [MF h1]
  by_cases h2:(gI ts 0≠0/\s.num=0)/\(s.kids.length:Int)=0
  ·obtain ⟨⟨h2,h3⟩,h4⟩:=h2
   have h4':s.kids.length=0:=by omega
   rw [Ze ⟨h2,h3,h4',fun q=>h ⟨⟨⟨⟨h1,h2⟩,h3⟩,h4⟩,q.1⟩⟩,Zo.2 h1,Yn.2 h2,Zo.2 h3,Zo.2 h4];rfl
  ·rw [Z7 (fun q=>h2 ⟨⟨q.1,q.2.1⟩,by have:=q.2.2.1;omega⟩)]
   show _=false
   rw [J2];intro q
   obtain ⟨⟨⟨_,q1⟩,q2⟩,q3⟩:=(YB (YB (YB Zo Yn) Zo) Zo).1 q
   exact h2 ⟨⟨q1,q2⟩,q3⟩
 ·rw [Z15 h1]
  show _=false
  rw [J2];intro q
  obtain ⟨⟨⟨q1,_⟩,_⟩,_⟩:=(YB (YB (YB Zo Yn) Zo) Zo).1 q
  exact h1 q1
theorem Zcu (hS:Ya n us s=KV n us s ts) (hc:¬YA s.op=true) (h7:s.op=7)
  (h:(((ts.length:Int)≠1∨gI ts 0≠0)∨s.num≠0)∨(s.kids.length:Int)≠2):Ya n us s=-1:=by
 rw [hS,Be,Z7 hc,Ze h7]
 split
 ·rename_i q
  obtain ⟨q1,q2⟩:=q
  rw [q1] at h
  rw [Tu,Ze]
  right
  rw [Xm,Ze h7]
  have:gI [0] 0=0:=rfl
  simp [this] at h
  show s.kids.length≠2
  omega
 ·rfl
theorem Zcv (hS:Ya n us s=KV n us s ts) (hc:¬YA s.op=true) (h7:s.op=7)
  (h:¬((((ts.length:Int)≠1∨gI ts 0≠0)∨s.num≠0)∨(s.kids.length:Int)≠2)):Ya n us s=WV n us s.kids (List.replicate 2 []) true 0:=by
 have h1:(ts.length:Int)=1:=Vh.1 fun q=>h (.inl (.inl (.inl q)))
 have h2:gI ts 0=0:=Vh.1 fun q=>h (.inl (.inl (.inr q)))
 have h3:s.num=0:=Vh.1 fun q=>h (.inl (.inr q))
 have h4:(s.kids.length:Int)=2:=Vh.1 fun q=>h (.inr q)
 rw [hS,Be,Z7 hc,Ze h7,Ze ⟨by rw [P4 h1,h2],h3⟩,Tu,Z7]
 ·rw [Xm,Ze h7];rfl
 ·rw [Xm,Ze h7];simp;omega
theorem Zcw (hS:Ya n us s=KV n us s ts) (hc:¬YA s.op=true) (h7:¬s.op=7) (h8:s.op=8)
  (h:(ts.length:Int)≠1∨(gI ts 0≠s.num∨(((((ZW n.decls s.num).map (ZU n.decls)).length:Nat):Int)=0∨(s.kids.length:Int)≠((((ZW n.decls s.num).map (ZU n.decls)).length:Nat):Int)))):Ya n us s=-1:=by
 rw [hS,Be,Z7 hc,Z7 h7,Ze h8]
 split
 ·rename_i q
  have hg:gI ts 0=s.num:=by rw [q];rfl
  have hl:(ts.length:Int)=1:=by rw [q];rfl
  rw [Tu,Ze]
  rw [Xm,Z7 h7]
  omega
 ·rfl
theorem Zcx (hS:Ya n us s=KV n us s ts) (hc:¬YA s.op=true) (h7:¬s.op=7) (h8:s.op=8)
  (h:¬((ts.length:Int)≠1∨(gI ts 0≠s.num∨(((((ZW n.decls s.num).map (ZU n.decls)).length:Nat):Int)=0∨(s.kids.length:Int)≠((((ZW n.decls s.num).map (ZU n.decls)).length:Nat):Int))))) :
  Ya n us s=WV n us s.kids ((ZW n.decls s.num).map (ZU n.decls)) true 0:=by
 have h1:(ts.length:Int)=1:=Vh.1 fun q=>h (.inl q)
 have h2:gI ts 0=s.num:=Vh.1 fun q=>h (.inr (.inl q))
 rw [hS,Be,Z7 hc,Z7 h7,Ze h8,Ze (by rw [P4 h1,h2]),Tu,Z7]
 ·rw [Xm,Z7 h7]
 ·rw [Xm,Z7 h7];omega
theorem Z8o {n:Zp} {num:Int}:(((Xz n.routines num).map (·.lent)).getD []).length=if 0<=num/\num<(((n.routines.map XR).length:Nat):Int) then (Uh n num).lnt.length else 0:=by
 split
 ·rename_i h
  rw [At] at h
  obtain ⟨r,hr⟩:=KA (xs:=n.routines) (j:=num.toNat) om
  rw [TX om hr,Uh,T0,hr];rfl
 ·rename_i h
  rw [At] at h
  rw [K7 om];rfl
theorem Rw:(0<s.kids.length∨(s.op=10/\0<(((Xz n.routines s.num).map (·.lent)).getD []).length)) ↔
  ((s.kids.length:Int)>0∨(s.op=10/\(s.num>=0/\(s.num<(((n.routines.map XR).length:Nat):Int)/\((((Uh n s.num).lnt).length:Nat):Int)>0)))):=by
 rw [Z8o]
 by_cases hq:0<=s.num/\s.num<(((n.routines.map XR).length:Nat):Int)
 ·rw [Ze hq];omega
 ·rw [Z7 hq];omega
theorem stB (hS:Ya n us s=KV n us s ts) (hc:¬YA s.op=true) (h7:¬s.op=7) (h8:¬s.op=8)
  (h:((s.kids.length:Int)>0∨(s.op=10/\(s.num>=0/\(s.num<(((n.routines.map XR).length:Nat):Int)/\((((Uh n s.num).lnt).length:Nat):Int)>0))))):Ya n us s=-1:=by
 rw [hS,Be,Z7 hc,Z7 h7,Z7 h8,Ze (Rw.2 h)]
theorem stS (hS:Ya n us s=KV n us s ts) (hc:¬YA s.op=true) (h7:¬s.op=7) (h8:¬s.op=8)
  (h:¬((s.kids.length:Int)>0∨(s.op=10/\(s.num>=0/\(s.num<(((n.routines.map XR).length:Nat):Int)/\((((Uh n s.num).lnt).length:Nat):Int)>0))))):Ya n us s=(XE n s.op s.num ts).getD (-1):=by
 rw [hS,Be,Z7 hc,Z7 h7,Z7 h8,Z7 (fun q=>h (Rw.1 q))]
theorem Zd0 (hty:K3 n) (h:Ya n us s=(XE n s.op s.num ts).getD (-1)):(XE n s.op s.num ts).isSome=decide (0<=Ya n us s):=by
 rw [h]
 cases hs:XE n s.op s.num ts with
 | none=>rfl
 | some x=>have:=Zbi hty hs;simp [this]
theorem Zd1 {t:Int} (h:Ya n us s=(XE n s.op s.num ts).getD (-1)) (hp:∀x,XE n s.op s.num ts=some x->t=x):¬YA s.op=true->0<=Ya n us s->t=Ya n us s:=by
 intro _ h0
 rw [h] at h0 ⊢
 cases hs:XE n s.op s.num ts with
 | none=>rw [hs] at h0;exact absurd h0 (by decide)
 | some x=>exact hp x hs
end
theorem Zdh {n:Zp} {us:LI} {s:Z5} (h:0<=Ya n us s):(0<=s.op/\s.op<=11)∨(14<=s.op/\s.op<=17):=by
 rw [An] at h
 by_cases hq:(0<=s.op/\s.op<=11)∨(14<=s.op/\s.op<=17)
 ·exact hq
 ·exfalso
  split at h
  ·omega
  rw [Z7 om,Z7 om,Z7 om,Z7 om,Z7 om,Z7 om,Z7 om,Z7 om,Z7 om] at h
  omega
theorem ED {n:Zp} {us:LI} {s:Z5} (h:0<=Ya n us s):XL s.op=!YA s.op:=by
 have:=Zdh h
 rw [XL,YA,Xq];simp;omega
theorem Zdk {n:Zp} {xs:List Z5} {vs:LI} {k:Nat} {s:Z5} {t:Int} {r:Option LI} (hs:xs[k]? = some s) (h:0<=Ya n vs s) (ht:¬YA s.op=true->0<=Ya n vs s->t=Ya n vs s)
  (hr:Ws n (xs.drop k) vs=r):Ws n (xs.drop (k+1)) (if YA s.op=true then vs else vs++[t])=r:=by
 rw [Y5 hs,Ws,Z7 om] at hr
 rw [<-hr,ED h]
 by_cases hc:YA s.op=true
 ·rw [Ze hc,hc];rfl
 ·rw [Z7 hc,Ze (by simpa using hc),ht hc h]
theorem Zdl {n:Zp} {xs:List Z5} {vs:LI} {k:Nat} {s:Z5} {r:Option LI} (hs:xs[k]? = some s) (h:¬0<=Ya n vs s) (hr:Ws n (xs.drop k) vs=r):r=none:=by
 rw [Y5 hs,Ws,Ze om] at hr;exact hr.symm
theorem Z8v {c:Prop} [Decidable c] {vs:LI} {t:Int} (h:∀x∈vs,0<=x) (ht:¬c->0<=t):∀x∈(if c then vs else vs++[t]),0<=x:=by
 split
 ·exact h
 ·rename_i hc
  exact DK h (fun x hx=>by rw [XB.1 hx];exact ht hc)
theorem M1 {m:Nat} {xs:LI} (h:We m xs=true):∀x∈xs,0<=x/\x<=m:=by
 rw [We,Jk] at h
 exact fun x hx=>of_decide_eq_true (h x hx)
theorem Iy {n:Zp} (h:VL n=true):K3 n:=by
 simp only [VL,QY,W2,decide_eq_true_eq] at h
 obtain ⟨h1,⟨h2,h3,h4,h5⟩,h6⟩:=h
 have hs:∀r∈n.routines,We n.decls.length r.params=true/\0<=r.result:=fun r hr=>by
  have:=Ld h4 (Ut r) (W8.2 ⟨r,hr,rfl⟩)
  simp only [KP,W2,decide_eq_true_eq] at this
  exact ⟨this.2.1,this.2.2.1⟩
 simp only [WO,W2,decide_eq_true_eq] at h2
 obtain ⟨h2a,h2b⟩:=h2
 rw [Hb] at h2b
 have key:∀(i:Nat) (d:Zf),n.decls[i]? = some d->UA n.decls d i=true:=fun i d hi=>by
  have:=h2b i (Xn.1 hi).1
  rwa [Vb,Dj hi] at this
 refine ⟨fun r hr=>(hs r hr).2,fun r hr p hp=>(M1 (hs r hr).1 p hp).1,fun d hd h0=>?_,fun c f hf=>?_⟩
 ·obtain ⟨i,hi⟩:=List.mem_iff_getElem?.1 hd
  have:=key i d hi
  rw [UA,Z7 om] at this
  split at this
  ·cases this
  ·simp only [W2,decide_eq_true_eq] at this;omega
 ·by_cases hc:Wa n.decls c<1
  ·rw [(Ex hc).1] at hf;cases hf
  ·obtain ⟨k,d,x,q1,q2,q3,q4,q5⟩:=H7 hc
   rw [q5] at hf
   have:=key k d q1
   have hp:0<d.cons.length:=by have:=(Xn.1 q3).1;omega
   rw [UA,Ze hp] at this
   split at this
   ·have:=ML.1 this x (Y4 q3)
    simp only [J7,W2] at this
    exact (M1 this.2 f hf).1
   ·cases this
end Go.Abs
section
namespace Go.Abs
structure Xj where
 mat:Int
 fst:Int
 fds:LI
 chg:Bool
abbrev Oz (a:Xj):List AV:=[.i a.mat,.i a.fst,Z4 a.fds,.b a.chg]
abbrev LS (a:Xj):AV:=.agg (Oz a)
def WF (xs:List Xj):List AV:=xs.map LS
abbrev Xd (xs:List Xj):AV:=.sl (WF xs) none
abbrev IA (xs:List Xj) (v:Value):AV:=.sl (WF xs) (some v)
theorem Z2k {xs:List Xj} {j:Nat} {x:Xj} (h:xs[j]? = some x):(WF xs)[j]? = some (LS x):=by simp [WF,h]
@[simp] theorem Z2l (xs:List Xj):(WF xs).length=xs.length:=by simp [WF]
theorem MT (xs ys:List Xj):WF (xs++ys)=WF xs++WF ys:=by simp [WF]
theorem Ce (xs:List Xj):∀y∈WF xs,y.leaves.length=4:=by intro y hy;simp only [WF,W8] at hy;obtain ⟨x,_,rfl⟩:=hy;rfl
theorem Hg (xs:List Xj):(Zl (WF xs)).all AV.one=true:=Jb fun y hy=>by simp only [WF,W8] at hy;obtain ⟨x,_,rfl⟩:=hy;rfl
theorem Z2m {xs:List Xj} (h:WF xs=[]):xs=[]:=by cases xs with|nil=>rfl|cons x r=>cases h
abbrev V6:=Zt
def VX:LI->Int->LI
 | [],_=>[]
 | t::r,p=>if t≠0 then p::VX r (p+1) else VX r (p+1)
theorem Z5w {xs:LI} {k:Nat} {t p:Int} {acc r:LI} (h:xs[k]? = some t) (ha:acc++VX (xs.drop k) (p+k)=r) :
  (if t≠0 then acc++[p+k] else acc)++VX (xs.drop (k+1)) (p+((k+1:Nat):Int))=r:=by
 rw [Y5 h,VX] at ha
 rw [show p+((k+1:Nat):Int)=p+k+1 by omega]
 split
 ·rename_i q;rw [Ze q] at ha;rw [TT];exact ha
 ·rename_i q;rw [Z7 q] at ha;exact ha
theorem Z5v {xs:LI} {k:Nat} {p:Int} {acc r:LI} (h:xs.length<=k) (ha:acc++VX (xs.drop k) (p+k)=r):acc=r:=by
 rw [Xe h,VX,JM] at ha;exact ha
theorem HX:∀(xs:LI) (p:Int) (own:LI),T3 own p xs=(VX xs p).foldl (fun o f=>o.set f.toNat (gI o f+1)) own
 | [],_,_=>rfl
 | t::r,p,own=>by
  rw [T3,VX]
  split
  ·rw [List.foldl_cons];exact HX r _ _
  ·exact HX r _ _
theorem HY:∀{xs:LI} {p f:Int},f∈VX xs p->p<=f/\f<p+xs.length
 | [],_,_,h=>by simp [VX] at h
 | t::r,p,f,h=>by
  rw [VX] at h
  split at h
  ·rcases YG.1 h with rfl|h
   ·simp only [YS];omega
   ·have:=HY h;simp only [YS];omega
  ·have:=HY h;simp only [YS];omega
theorem NN:∀(xs:LI) (p:Int),(VX xs p).length<=xs.length
 | [],_=>by simp [VX]
 | t::r,p=>by
  have:=NN r (p+1)
  rw [VX];split<;>simp<;>omega
def Uq:List Xj->Int->Option Xj
 | [],_=>none
 | a::r,v=>match Uq r v with
  | some x=>some x
  | none=>if a.mat=v then some a else none
theorem P3 {a:Xj}:∀{as1:List Xj} {v:Int},Uq (as1++[a]) v=if a.mat=v then some a else Uq as1 v
 | [],v=>rfl
 | x::r,v=>by
  rw [K0,Uq,P3]
  by_cases h:a.mat=v
  ·rw [Ze h,Ze h]
  ·rw [Z7 h,Z7 h];rfl
theorem DP {v:Int}:∀{as1:List Xj},(∀a∈as1,a.mat≠v)->Uq as1 v=none
 | [],_=>rfl
 | x::r,h=>by rw [Uq,DP (fun a ha=>h a (XA _ ha))];exact Z7 (h x (Xh ..))
theorem P2 {v:Int} {a:Xj}:∀{as1:List Xj},Uq as1 v=some a->a∈as1/\a.mat=v
 | [],h=>by cases h
 | x::r,h=>by
  rw [Uq] at h
  cases hr:Uq r v with
  | some y=>rw [hr] at h;cases h;have:=P2 hr;exact ⟨XA _ this.1,this.2⟩
  | none=>
   rw [hr] at h
   simp only at h
   split at h
   ·cases h;exact ⟨Xh ..,by assumption⟩
   ·cases h
structure WP (ds:List Zf) (L:Zt) (as1:List Xj):Prop where
 rng:∀a∈as1,0<=a.mat/\a.mat<a.fst/\a.fst+a.fds.length<=L.vars.length
 par:∀a∈as1,∀v:Int,a.fst<=v->v<a.fst+a.fds.length->gI L.par v=a.mat
 non:∀v:Int,0<=v->v<L.vars.length->0<=gI L.par v->∃a∈as1,a.fst<=v/\v<a.fst+a.fds.length
 off:∀v:Int,0<=v->v<L.vars.length->match Uq as1 v with
  | none=>gI L.con v<0
  | some a=>0<=gI L.con v/\a.fst=gI L.fst v/\a.fds=ZU ds (gI L.con v)
theorem WP.same {ds:List Zf} {L M:Zt} {as1:List Xj} (h:WP ds L as1) (h1:M.vars.length=L.vars.length) (h2:M.par=L.par) (h3:M.con=L.con) (h4:M.fst=L.fst):WP ds M as1:=by
 refine ⟨?_,?_,?_,?_⟩
 ·rw [h1];exact h.rng
 ·rw [h2];exact h.par
 ·rw [h1,h2];exact h.non
 ·rw [h1,h3,h4];exact h.off
theorem WP.grow {ds:List Zf} {L:Zt} {as1:List Xj} {t o:Int} (h:WP ds L as1) (hl:Wp L):WP ds (L.grow t o (-1)) as1:=by
 obtain ⟨e1,e2,e3,e4,e5⟩:=hl
 have key:∀{xs:LI} {y v:Int},xs.length=L.vars.length->0<=v->v<L.vars.length->gI (xs++[y]) v=gI xs v:=fun hx h0 h1=>AO om
 have kend:∀{xs:LI} {y v:Int},xs.length=L.vars.length->v=(L.vars.length:Int)->gI (xs++[y]) v=y:=fun hx h1=>HL om
 have hlen:(L.grow t o (-1)).vars.length=L.vars.length+1:=by simp [Zt.grow]
 refine ⟨fun a ha=>?_,fun a ha v h1 h2=>?_,fun v h0 h1 h2=>?_,fun v h0 h1=>?_⟩
 ·have:=h.rng a ha;omega
 ·have:=h.rng a ha
  show gI (L.par++[-1]) v=a.mat
  rw [key e2 om om];exact h.par a ha v h1 h2
 ·have h2':0<=gI (L.par++[-1]) v:=h2
  by_cases hv:v<L.vars.length
  ·rw [key e2 h0 hv] at h2';exact h.non v h0 hv h2'
  ·rw [kend e2 om] at h2';omega
 ·show match Uq as1 v with
   | none=>gI (L.con++[-1]) v<0
   | some a=>0<=gI (L.con++[-1]) v/\a.fst=gI (L.fst++[-1]) v/\a.fds=ZU ds (gI (L.con++[-1]) v)
  by_cases hv:v<L.vars.length
  ·rw [key e3 h0 hv,key e4 h0 hv];exact h.off v h0 hv
  ·rw [DP (fun a ha=>by have:=h.rng a ha;omega)]
   show gI (L.con++[-1]) v<0
   rw [kend e3 om];omega
theorem WP.arm {ds:List Zf} {L:Zt} {as1:List Xj} {x c:Int} (h:WP ds L as1) (hl:Wp L) (hx:0<=x/\x<L.vars.length) (hc:0<=c) :
  WP ds (Jr ds L x c) (as1++[⟨x,(L.vars.length:Nat),ZU ds c,false⟩]):=by
 obtain ⟨e1,e2,e3,e4,e5⟩:=hl
 rw [Jr,HU]
 have hnew:∀{xs:LI} {y v:Int},xs.length=L.vars.length->(L.vars.length:Int)<=v->v<L.vars.length+(ZU ds c).length->gI (xs++List.replicate (ZU ds c).length y) v=y:=fun hx h0 h1=>HO om
 have QG:∀{xs:LI} {y v:Int},xs.length=L.vars.length->0<=v->v<L.vars.length->gI (xs++List.replicate (ZU ds c).length y) v=gI xs v:=fun hx h0 h1=>AO om
 refine ⟨fun a ha=>?_,fun a ha v h1 h2=>?_,fun v h0 h1 h2=>?_,fun v h0 h1=>?_⟩
 ·simp only [Ys]
  rcases X8.1 ha with ha|ha
  ·have:=h.rng a ha;omega
  ·rw [XB.1 ha]
   show 0<=x/\x<(L.vars.length:Nat)/\(L.vars.length:Int)+((ZU ds c).length:Nat)<=_
   omega
 ·show gI (L.par++List.replicate _ x) v=a.mat
  rcases X8.1 ha with ha|ha
  ·have:=h.rng a ha
   rw [QG e2 om om];exact h.par a ha v h1 h2
  ·rw [XB.1 ha] at h1 h2 ⊢
   exact hnew e2 h1 h2
 ·simp only [Ys] at h1
  have h2':0<=gI (L.par++List.replicate (ZU ds c).length x) v:=h2
  by_cases hv:v<L.vars.length
  ·rw [QG e2 h0 hv] at h2'
   obtain ⟨a,ha,q⟩:=h.non v h0 hv h2'
   exact ⟨a,List.mem_append_left _ ha,q⟩
  ·exact ⟨_,List.mem_append_right _ (XB.2 rfl),by show (L.vars.length:Int)<=v;omega,by show v<(L.vars.length:Int)+(ZU ds c).length;omega⟩
 ·simp only [Ys] at h1
  show match Uq (as1++[⟨x,(L.vars.length:Nat),ZU ds c,false⟩]) v with
   | none=>gI (L.con.set x.toNat c++List.replicate (ZU ds c).length (-1)) v<0
   | some a=>0<=gI (L.con.set x.toNat c++List.replicate (ZU ds c).length (-1)) v/\a.fst=gI (L.fst.set x.toNat L.vars.length++List.replicate (ZU ds c).length (-1)) v /\
     a.fds=ZU ds (gI (L.con.set x.toNat c++List.replicate (ZU ds c).length (-1)) v)
  rw [P3]
  by_cases hv:v<L.vars.length
  ·rw [QG (by simp [e3]) h0 hv,QG (by simp [e4]) h0 hv]
   by_cases he:x=v
   ·rw [Ze he]
    show 0<=gI (L.con.set x.toNat c) v/\(L.vars.length:Int)=gI (L.fst.set x.toNat L.vars.length) v/\ZU ds c=ZU ds (gI (L.con.set x.toNat c) v)
    rw [EX om om,EX om om]
    exact ⟨hc,rfl,rfl⟩
   ·rw [Z7 he,EY om,EY om];exact h.off v h0 hv
  ·rw [hnew (by simp [e3]) om om]
   rw [Z7 (by show ¬x=v;omega),DP (fun a ha=>by have:=h.rng a ha;omega)]
   show (-1:Int)<0
   omega
theorem Sw {L:Zt} {ln:LI} {v:Int} {p:Int} (hv:0<=v/\v<L.vars.length) (hd:∀i:Int,0<=i->i<L.vars.length->gI L.par i<i) (h:¬(gI L.own v>0∨v∈ln)) (hp:gI L.par v=p) (h0:0<=p):Wd L ln v=Wd L ln p:=
 (LZ (N:=L.vars.length) rfl hp hv ⟨by omega,fun q=>h (.inr q)⟩ om hd rfl).symm
theorem Sv {L:Zt} {ln:LI} {v:Int} (h:¬(gI L.own v>0∨v∈ln)) (hp:gI L.par v<0):Wd L ln v=false:=
 (LY rfl rfl ⟨by omega,fun q=>h (.inr q)⟩ hp rfl).symm
theorem Sx {L:Zt} {ln:LI} {v:Int} (h:gI L.own v>0∨v∈ln):Wd L ln v=true:=
 (M0 rfl (fun q=>h.elim (fun z=>by omega) q.2) rfl).symm
end Go.Abs
namespace Go.Abs
def XF (L:Zt) (v:Int):Zt:={ L with own:=L.own.set v.toNat (gI L.own v-1) }
theorem Ao {L:Zt} {v:Int}:Uv L v=if 1<=gI L.own v then some (XF L v) else none:=by
 rw [Uv]
 by_cases h:gI L.own v<1
 ·rw [Ze h,Z7 om]
 ·rw [Z7 h,Ze om];rfl
end Go.Abs
namespace Go.Abs
def W6 (L:Zt) (r:Int):Zt:=if gI L.vars r≠0 then XF L r else L
theorem N3 {L:Zt} {m:Nat} {r:Int} (ho:gI L.vars r≠0->1<=gI L.own r) (hz:WX ((W6 L r).own.drop m) ((W6 L r).tok.drop m)=true):VV m r L=some ((W6 L r).take m):=by
 rw [VV]
 by_cases h:gI L.vars r≠0
 ·rw [Ze h,Ao,Ze (ho h)]
  have e:W6 L r=XF L r:=Ze h
  rw [e] at hz ⊢
  exact Ze hz
 ·rw [Z7 h]
  have e:W6 L r=L:=Z7 h
  rw [e] at hz ⊢
  exact Ze hz
theorem Z33 {L:Zt} {m:Nat} {r:Int} (h:gI L.vars r≠0) (ho:¬1<=gI L.own r):VV m r L=none:=by
 rw [VV,Ze h,Ao,Z7 ho];rfl
theorem EL {L:Zt} {m:Nat} {r:Int} (hz:WX ((W6 L r).own.drop m) ((W6 L r).tok.drop m)=false):VV m r L=none:=by
 rw [VV]
 by_cases h:gI L.vars r≠0
 ·rw [Ze h,Ao]
  have e:W6 L r=XF L r:=Ze h
  rw [e] at hz
  split
  ·exact Z7 (by rw [hz];simp)
  ·rfl
 ·rw [Z7 h]
  have e:W6 L r=L:=Z7 h
  rw [e] at hz
  exact Z7 (by rw [hz];simp)
theorem Gp {os ts:LI} {k:Nat} {o t:Int} {r:Bool} (h1:os[k]? = some o) (h2:ts[k]? = some t) (h:o≠0∨0<=t) (hr:WX (os.drop k) (ts.drop k)=r):r=false:=by
 rw [Y5 h1,Y5 h2,WX,Ze h] at hr;exact hr.symm
theorem Gq {os ts:LI} {k:Nat} {o t:Int} {r:Bool} (h1:os[k]? = some o) (h2:ts[k]? = some t) (h:¬(o≠0∨0<=t)) (hr:WX (os.drop k) (ts.drop k)=r):WX (os.drop (k+1)) (ts.drop (k+1))=r:=by
 rw [Y5 h1,Y5 h2,WX,Z7 h] at hr;exact hr
theorem Sb {os ts:LI} {k:Nat} {r:Bool} (h1:os.length<=k) (hr:WX (os.drop k) (ts.drop k)=r):r=true:=by
 rw [Xe h1] at hr;rw [<-hr];simp [WX]
end Go.Abs
namespace Go.Abs
def C8 (o:LI) (fs:LI):LI:=fs.foldl (fun o f=>o.set f.toNat (gI o f+1)) o
theorem Z0j {p:Int} {xs own:LI}:C8 own (VX xs p)=T3 own p xs:=(HX xs p own).symm
theorem Z0k {fs o r:LI} {k:Nat} {f x:Int} (h:fs[k]? = some f) (hx:gI o f=x) (hr:C8 o (fs.drop k)=r):C8 (o.set f.toNat (x+1)) (fs.drop (k+1))=r:=by
 rw [Y5 h,C8,List.foldl_cons,hx] at hr;exact hr
theorem Mw {fs o r:LI} {k:Nat} (h:fs.length<=k) (hr:C8 o (fs.drop k)=r):o=r:=by
 rw [Xe h] at hr;exact hr
def QA (n:Zp) (ln:LI) (L:Zt) (op v:Int):Option Zt:=if op=14 then Jy L ln v else if op=15 then Uv L v else Q8 n.decls L op v
section
variable {n:Zp} {ln:LI} {L:Zt} {op v:Int} {am:List Xj} {a:Xj}
theorem Z16 (h:op=14) (ha:¬Wd L ln v=true):QA n ln L op v=none:=by rw [QA,Ze h,Jy,Z7 ha]
theorem Z17 (h:op=14) (ha:Wd L ln v=true) {x:Int} (hx:gI L.own v=x):QA n ln L op v=some { L with own:=L.own.set v.toNat (x+1) }:=by rw [QA,Ze h,Jy,Ze ha,hx]
theorem Z19 (h:op=15) (ht:1<=gI L.own v):QA n ln L op v=some (XF L v):=by rw [QA,Z7 om,Ze h,Ao,Ze ht]
theorem Z18 (h:op=15) (ht:¬1<=gI L.own v):QA n ln L op v=none:=by rw [QA,Z7 om,Ze h,Ao,Z7 ht]
theorem MG (h1:¬op=14) (h2:¬op=15):QA n ln L op v=Q8 n.decls L op v:=by rw [QA,Z7 h1,Z7 h2]
theorem Z9i {ds:List Zf} (har:WP ds L am) (hv:0<=v/\v<L.vars.length) (ho:Uq am v=none):Q8 ds L op v=none:=by
 have:=har.off v hv.1 hv.2
 rw [ho] at this
 rw [Q8,Ze (.inl this)]
theorem Z9h {ds:List Zf} (har:WP ds L am) (hv:0<=v/\v<L.vars.length) (ho:Uq am v=some a) {xt:Int} (hxt:gI L.tok v=xt):Q8 ds L op v=if ¬1<=gI L.own v∨(op=17/\xt>=0) then none else
  some { XF L v with own:=T3 (XF L v).own a.fst a.fds,tok:=if op=17 then L.tok.set v.toNat a.fds.length else L.tok }:=by
 have:=har.off v hv.1 hv.2
 rw [ho] at this
 obtain ⟨h1,h2,h3⟩:=this
 have hcon:¬gI L.con v<0:=by omega
 rw [Q8,Ao,hxt,<-h2,<-h3]
 by_cases ht:1<=gI L.own v
 ·rw [Ze ht]
  by_cases h17:op=17/\xt>=0
  ·have c1:gI L.con v<0∨(op=17/\0<=xt):=.inr h17
   have c2:¬1<=gI L.own v∨(op=17/\xt>=0):=.inr h17
   rw [Ze c1,Ze c2]
  ·have c1:¬(gI L.con v<0∨(op=17/\0<=xt)):=fun q=>q.elim hcon h17
   have c2:¬(¬1<=gI L.own v∨(op=17/\xt>=0)):=fun q=>q.elim (fun z=>z ht) h17
   rw [Z7 c1,Z7 c2]
 ·rw [Z7 ht]
  have c2:¬1<=gI L.own v∨(op=17/\xt>=0):=.inl ht
  rw [Ze c2]
  split<;>rfl
end
end Go.Abs
namespace Go.Abs
theorem Z2a {ds:List Zf} {L:Zt} {q v:Int} (hk:X5 ds L q) (h1:1<=gI L.own v) (hv:0<=v/\v<L.vars.length):∀y∈(XF L v).own,0<=y/\y<=q:=by
 intro y hy
 rcases KN hy with hy|rfl
 ·exact ⟨hk.nn y hy,hk.bd y hy⟩
 ·obtain ⟨x,hx⟩:=KA (xs:=L.own) (j:=v.toNat) (by have:=hk.len.own;omega)
  have hg:=Vr hx
  have:=hk.bd x (Y4 hx)
  omega
end Go.Abs
end
section
namespace Go.Abs
def WW (n:Zp) (us:LI) (op num:Int):LI->Nat->LI
 | [],_=>[]
 | a::r,i=>if TA n us op num a i=true then (i:Int)::WW n us op num r (i+1) else WW n us op num r (i+1)
section
variable {n:Zp} {us:LI} {op num:Int}
theorem Z9w {args acc r:LI} {k:Nat} {a:Int} (h:args[k]? = some a) (hc:TA n us op num a k=true) (hr:acc++WW n us op num (args.drop k) k=r) :
  (acc++[(k:Int)])++WW n us op num (args.drop (k+1)) (k+1)=r:=by
 rw [Y5 h,WW,Ze hc] at hr;rw [TT];exact hr
theorem Pm {args acc r:LI} {k:Nat} {a:Int} (h:args[k]? = some a) (hc:¬TA n us op num a k=true) (hr:acc++WW n us op num (args.drop k) k=r) :
  acc++WW n us op num (args.drop (k+1)) (k+1)=r:=by
 rw [Y5 h,WW,Z7 hc] at hr;exact hr
theorem Z9v {args acc r:LI} {k:Nat} (h:args.length<=k) (hr:acc++WW n us op num (args.drop k) k=r):acc=r:=by
 rw [Xe h,WW,JM] at hr;exact hr
theorem IL (h:¬T5 op=true):∀(args:LI) (i:Nat),WW n us op num args i=[]
 | [],_=>rfl
 | a::r,i=>by
  have hb:T5 op=false:=by simpa using h
  rw [WW,Z7 (by rw [TA,hb];simp)];exact IL h r (i+1)
theorem IK:∀{args:LI} {i:Nat} {p:Int},p∈WW n us op num args i->(i:Int)<=p/\p<i+args.length
 | [],_,_,h=>by simp [WW] at h
 | a::r,i,p,h=>by
  rw [WW] at h
  simp only [YS]
  split at h
  ·rcases YG.1 h with rfl|h
   ·omega
   ·have:=IK h;omega
  ·have:=IK h;omega
theorem Pl:∀(args:LI) (i:Nat),(WW n us op num args i).length<=args.length
 | [],_=>by simp [WW]
 | a::r,i=>by
  have:=Pl r (i+1)
  rw [WW];split<;>simp<;>omega
theorem OJ (h:¬T5 op=true) (i:Nat):¬WH n op num i=true:=by
 have:op≠9:=fun q=>h (by rw [q];rfl)
 rw [WH,Ag,Z7 this];simp
def Ax (n:Zp) (op num:Int) (args:LI) (k:Nat) (ls:LI):Prop:=∀x,x∈ls↔∃i,i<k/\args[i]? = some x/\WH n op num i=true
theorem OH {args ls:LI} {k:Nat} (h:Ax n op num args k ls) (hl:¬WH n op num k=true):Ax n op num args (k+1) ls:=by
 intro x;rw [h x]
 constructor
 ·rintro ⟨i,q1,q2⟩;exact ⟨i,by omega,q2⟩
 ·rintro ⟨i,q1,q2,q3⟩
  rcases Bp i k with q|q
  ·exact ⟨i,q,q2,q3⟩
  ·have:i=k:=by omega
   subst this;exact absurd q3 hl
theorem Z8g {args ls ls2:LI} {k:Nat} {a:Int} (ha:args[k]? = some a) (h:Ax n op num args k ls) (hl:WH n op num k=true) (h2:∀x,x∈ls2↔x∈ls∨x=a):Ax n op num args (k+1) ls2:=by
 intro x;rw [h2 x,h x]
 constructor
 ·rintro (⟨i,q1,q2⟩|rfl)
  ·exact ⟨i,by omega,q2⟩
  ·exact ⟨k,by omega,ha,hl⟩
 ·rintro ⟨i,q1,q2,q3⟩
  rcases Bp i k with q|q
  ·exact .inl ⟨i,q,q2,q3⟩
  ·have:i=k:=by omega
   subst this;rw [ha] at q2;exact .inr (TU q2).symm
theorem Z8i {args:LI}:Ax n op num args 0 []:=by intro x;simp
theorem Z8h {args ls:LI} {k:Nat} (h:Ax n op num args k ls) (hk:args.length<=k):∀x,x∈ls↔∃i,args[i]? = some x/\WH n op num i=true:=by
 intro x;rw [h x]
 constructor
 ·rintro ⟨i,_,q⟩;exact ⟨i,q⟩
 ·rintro ⟨i,q⟩;exact ⟨i,by have:=(Xn.1 q.1).1;omega,q⟩
end
def QW (args:LI):LI->Zt->Option Zt
 | [],L=>some L
 | k::r,L=>match Uv L (gI args k) with
  | none=>none
  | some L1=>QW args r L1
theorem E7 {n:Zp} {op num:Int} {all:LI}:∀{args:LI} {i:Nat} {L:Zt},all.drop i=args->Q2 n op num args i L=QW all (WW n L.vars op num args i) L
 | [],i,L,_=>rfl
 | a::r,i,L,h=>by
  have hr:all.drop (i+1)=r:=by rw [<-List.drop_drop,h];rfl
  have ha:gI all (i:Int)=a:=by
   have:(all.drop i)[0]? = some a:=by rw [h];rfl
   rw [Bh] at this
   exact Vr (by simpa using this)
  rw [Q2,WW]
  split
  ·rw [QW,ha]
   cases ht:Uv L a with
   | none=>rfl
   | some L1=>
    simp only
    rw [E7 hr,(QV ht).2.1]
  ·exact E7 hr
theorem Zdo {args ps:LI} {k:Nat} {L:Zt} {p x:Int} {r:Option Zt} (h:ps[k]? = some p) (hx:gI args p=x) (ht:1<=gI L.own x) (hr:QW args (ps.drop k) L=r):QW args (ps.drop (k+1)) (XF L x)=r:=by
 rw [Y5 h,QW,hx,Ao,Ze ht] at hr;exact hr
theorem Zdp {args ps:LI} {k:Nat} {L:Zt} {p x:Int} {r:Option Zt} (h:ps[k]? = some p) (hx:gI args p=x) (ht:¬1<=gI L.own x) (hr:QW args (ps.drop k) L=r):r=none:=by
 rw [Y5 h,QW,hx,Ao,Z7 ht] at hr;exact hr.symm
theorem Zdn {args ps:LI} {k:Nat} {L:Zt} {r:Option Zt} (h:ps.length<=k) (hr:QW args (ps.drop k) L=r):r=some L:=by
 rw [Xe h,QW] at hr;exact hr.symm
theorem F6 {n:Zp} {op num:Int} {ln:LI} {L:Zt} {all:LI}:∀{args:LI} {i:Nat},all.drop i=args ->
  (KE n op num ln L args i=true↔∀j x,i<=j->all[j]? = some x->WH n op num j=true->Wd L ln x=true)
 | [],i,h=>by
  simp only [KE,true_iff]
  intro j x hj hx _
  have:=(Xn.1 hx).1
  have hl:=Ym List.length h
  simp at hl;omega
 | a::r,i,h=>by
  have hr:all.drop (i+1)=r:=by rw [<-List.drop_drop,h];rfl
  have ha:all[i]? = some a:=by
   have:(all.drop i)[0]? = some a:=by rw [h];rfl
   rw [Bh] at this;simpa using this
  rw [KE]
  split
  ·rename_i q
   simp only [Bool.false_eq_true,false_iff]
   exact fun z=>q.2 (z i a (X4 _) ha q.1)
  ·rename_i q
   rw [F6 hr]
   constructor
   ·intro z j x hj hx hl
    rcases Bp i j with hij|hij
    ·exact z j x hij hx hl
    ·have:j=i:=by omega
     subst this;rw [ha] at hx;cases hx
     exact Vh.1 fun y=>q ⟨hl,y⟩
   ·exact fun z j x hj=>z j x om
theorem NJ {n:Zp} {ln:LI} {L L1:Zt} {op num into:Int} {args ls:LI} (h1:QW args (WW n L.vars op num args 0) L=some L1) (hl:∀x,x∈ls↔∃i,args[i]? = some x/\WH n op num i=true) :
  ((∀x∈ls,Wd L1 ln x=true)->UC n ln L op num into args=KF L1 into args.length)/\((∃x∈ls,¬Wd L1 ln x=true)->UC n ln L op num into args=none):=by
 rw [UC,E7 (all:=args) (args:=args) (i:=0) rfl,h1]
 simp only
 constructor
 ·intro h
  rw [Ze ((F6 (all:=args) (args:=args) (i:=0) rfl).2 fun j x _ hx hj=>h x ((hl x).2 ⟨j,hx,hj⟩))]
 ·rintro ⟨x,hx,hd⟩
  rw [Z7]
  intro z
  obtain ⟨j,q1,q2⟩:=(hl x).1 hx
  exact hd ((F6 (all:=args) (args:=args) (i:=0) rfl).1 z j x (Kn _) q1 q2)
theorem Z5p {n:Zp} {ln:LI} {L:Zt} {op num into:Int} {args:LI} (h1:QW args (WW n L.vars op num args 0) L=none):UC n ln L op num into args=none:=by
 rw [UC,E7 (all:=args) (args:=args) (i:=0) rfl,h1]
end Go.Abs
namespace Go.Abs
theorem Zbg {n:Zp} (hn:X0 n) (num:Int):(Uh n num).lnt.length<=4194304:=by
 rw [Uh,T0]
 cases h:n.routines[num.toNat]? with
 | none=>simp
 | some r=>exact hn.lent r (Y4 h)
theorem Z8f {n:Zp} {op num:Int} {k:Nat}:WH n op num k=true↔(op=9/\(k:Int)∈(Uh n num).lnt):=by
 rw [WH,Ag,decide_eq_true_iff]
 by_cases h:op=9
 ·rw [Ze h,Uh,T0]
  cases n.routines[num.toNat]? with
  | none=>simp
  | some r=>simp [h,XR]
 ·rw [Z7 h];simp [h]
end Go.Abs
namespace Go.Abs
theorem clS {xs:LI} {p:LI->Prop}:D7 fun r h=>∃(vp vl:Value) (ls:LI),r=.tup [ZV xs vp,ZV ls vl]/\h=[.tail vp 1,.tail vl 1]/\p ls:=by
 rintro _ _ ⟨vp,vl,ls,rfl,rfl,_⟩
 refine ⟨.tup fun y hy=>?_,by simp [D8]⟩
 simp only [YG,List.not_mem_nil,or_false] at hy
 rcases hy with rfl|rfl
 ·exact .own (k:=1) (Gj _) (by simp)
 ·exact .own (k:=1) (Gj _) (by simp)
end Go.Abs
end
section
namespace Go.Abs
section
variable {n:Zp} {ln:LI}
theorem Z5q {L L':Zt} {op num into q:Int} {args:LI} {ds:List Zf} (hk:X5 ds L q) (h:UC n ln L op num into args=some L'):L'.vars=L.vars/\L'.par=L.par/\L'.con=L.con/\L'.fst=L.fst:=by
 rw [UC] at h
 cases ht:Q2 n op num args 0 L with
 | none=>rw [ht] at h;cases h
 | some L1=>
  rw [ht] at h
  obtain ⟨_,h1,h2,h3,h4,_⟩:=F7 hk ht
  simp only at h
  split at h
  ·rw [KF] at h
   split at h
   ·split at h
    ·cases h
    ·cases h;exact ⟨h1,h2,h3,h4⟩
   ·cases h;exact ⟨h1,h2,h3,h4⟩
  ·cases h
theorem Z9t {L L1:Zt} {s:Z5} {q:Int} {ds:List Zf} (hk:X5 ds L q) (h:Qm n ln L s.op s.num s.into s.args (Q5 n ln L s.op s.num s.args s.kids)=some L1):L1.vars=L.vars/\L1.par=L.par/\L1.con=L.con/\L1.fst=L.fst:=by
 rw [Qm] at h
 split at h
 ·obtain ⟨h1,h2,h3,h4,_⟩:=Hf h;exact ⟨h1,h2,h3,h4⟩
 split at h
 ·obtain ⟨_,h1,h2,h3,h4,_⟩:=QV h;exact ⟨h1,h2,h3,h4⟩
 split at h
 ·obtain ⟨h1,h2,h3,h4,_⟩:=ID h;exact ⟨h1,h2,h3,h4⟩
 split at h
 ·split at h
  ·cases h
  ·cases hks:s.kids with
   | nil=>rw [hks,Q5] at h;cases h
   | cons b bs=>
    rw [hks,Q5] at h
    unfold AW at h
    cases hb:V8 n ln (Vt n.decls L s.op s.num s.args 0) L.vars.length b with
    | none=>rw [hb] at h;cases h
    | some one=>
     rw [hb] at h
     simp only at h
     split at h
     ·cases h;exact ⟨rfl,rfl,rfl,rfl⟩
     ·cases h
 ·exact Z5q hk h
theorem RC (hn:X0 n) {s:Z5} {L L':Zt} {q:Int} {am:List Xj} (hk:X5 n.decls L q) (hq:0<=q) (hty:0<=Ya n L.vars s) (h:Uj n ln L s=some L') (ha:WP n.decls L am):WP n.decls L' am:=by
 rw [Lq] at h
 cases hp:Qm n ln L s.op s.num s.into s.args (Q5 n ln L s.op s.num s.args s.kids) with
 | none=>rw [hp] at h;cases h
 | some L1=>
  rw [hp] at h
  obtain ⟨h1,h2,h3,h4⟩:=Z9t hk hp
  have hk1:=(B5 hn hk hq (E4 hty) hp).1
  have ha1:WP n.decls L1 am:=ha.same (by rw [h1]) h2 h3 h4
  rw [Kz] at h
  split at h
  ·cases h;exact ha1.grow hk1.len
  ·cases h;exact ha1
theorem Ga (hn:X0 n) {am:List Xj}:∀{xs:List Z5} {L L':Zt} {q:Int} {vs:LI},X5 n.decls L q->0<=q->WP n.decls L am->Ws n xs L.vars=some vs->Vg n ln L xs=some L' ->
  X5 n.decls L' (q+4*Ye xs)/\L'.vars=vs/\WP n.decls L' am
 | [],L,L',q,vs,hk,hq,ha,ht,h=>by
  rw [Vg] at h;rw [Ws] at ht;cases h;cases ht
  exact ⟨by simpa [Ye] using hk,rfl,ha⟩
 | s::r,L,L',q,vs,hk,hq,ha,ht,h=>by
  rw [Vg] at h
  cases hs:Uj n ln L s with
  | none=>rw [hs] at h;cases h
  | some L1=>
   rw [hs] at h
   obtain ⟨g1,g2⟩:=E5 ht
   obtain ⟨k1,k2⟩:=G8 hn hk hq g1 hs
   have:=Ga hn (xs:=r) k1 (by have:=s.sz_pos;omega) (RC hn hk hq g1 hs ha) (by rw [k2];exact g2) h
   refine ⟨?_,this.2⟩
   rw [show q+4*Ye (s::r)=q+4*s.sz+4*Ye r by rw [Ye];omega]
   exact this.1
end
end Go.Abs
namespace Go.Abs
def Bv (n:Zp):Prop:=∀r∈n.routines,∀i:Nat,(i:Int)∈r.lent->∃t,r.params[i]? = some t/\t≠0
theorem OG {ps:LI}:∀{ls:LI} {prev:Option Int},Qk ps ls prev=true->∀v∈ls,(0<=v/\v<=(ps.length:Int)-1)/\ps[v.toNat]?≠some 0
 | [],_,_,v,h=>by cases h
 | x::r,prev,h,v,hv=>by
  rw [Qk] at h
  split at h
  ·rename_i q
   rcases YG.1 hv with rfl|hv
   ·exact ⟨q.1,q.2.1⟩
   ·exact OG h v hv
  ·cases h
theorem OK:∀{rs:List Yg},KL rs=true->∀r∈rs,KY r.params r.lent=true
 | [],_,r,h=>by cases h
 | x::rs,h,r,hr=>by
  rw [KL] at h
  split at h
  ·rcases YG.1 hr with rfl|hr
   ·assumption
   ·exact OK h r hr
  ·cases h
theorem OT {n:Zp} (h:VL n=true):Bv n:=by
 simp only [VL,QY,W2,decide_eq_true_eq] at h
 obtain ⟨_,_,h6⟩:=h
 intro r hr i hi
 obtain ⟨h1,h2⟩:=OG (OK h6 r hr) i hi
 obtain ⟨t,ht⟩:=KA (xs:=r.params) (j:=i) om
 refine ⟨t,ht,fun q=>h2 ?_⟩
 rw [U9,ht,q]
theorem Ge {us:LI}:∀{args tys:LI} {i:Nat} {a t:Int},UX us args tys=true->args[i]? = some a->tys[i]? = some t->Xz us a=some t
 | [],_,i,a,t,_,h,_=>by simp at h
 | x::r,[],i,a,t,_,_,h=>by simp at h
 | x::r,y::ys,i,a,t,h,ha,ht=>by
  rw [UX] at h
  split at h
  ·rename_i hq
   cases i with
   | zero=>simp at ha ht;subst ha;subst ht;exact hq
   | succ i=>exact Ge h (by simpa using ha) (by simpa using ht)
  ·cases h
theorem Z8j {n:Zp} (hl:Bv n) {us:LI} {s:Z5} (h:0<=Ya n us s):∀(i:Nat) (a:Int),s.args[i]? = some a->WH n s.op s.num i=true->gI us a≠0:=by
 intro i a ha hla
 rw [WH,Ag,decide_eq_true_iff] at hla
 by_cases h9:s.op=9
 ·rw [Ze h9] at hla
  have hn:=(E4 h).num h9
  obtain ⟨r,hr⟩:=KA (xs:=n.routines) (j:=s.num.toNat) om
  rw [hr] at hla
  obtain ⟨t,ht,h0⟩:=hl r (Y4 hr) i hla
  rw [An] at h
  split at h
  ·omega
  rw [Z7 om,Z7 om,Z7 om,Z7 om,Z7 om,Z7 om,Ze (.inl h9),Tx,TX om hr] at h
  simp only [Kg] at h
  rw [Ze h9] at h
  split at h
  ·rename_i hty
   rw [W7] at hty
   have hq:Xz us a=some t:=by
    first
    | exact Ge hty ha ht
    | exact Ge (Bool.and_eq_true_iff.1 hty).2 ha ht
    | exact Ge (Bool.and_eq_true_iff.1 hty).1 ha ht
   rw [Vr (Kw hq).2];exact h0
  ·omega
 ·rw [Z7 h9] at hla;cases hla
end Go.Abs
namespace Go.Abs
theorem Zba {n:Zp} {us:LI} {s:Z5} (h:∀t∈us,0<=t) (h0:0<=Ya n us s):∀t∈Qa n us s,0<=t:=by
 rw [Qa];split
 ·exact DK h fun t ht=>by rw [XB.1 ht];exact h0
 ·exact h
end Go.Abs
namespace Go.Abs
theorem H4 {c:Bool} {ok:Int->Prop}:D7 fun r h=>∃t:Int,r=.tup [.i t,.b c]/\h=[]/\ok t:=by
 rintro _ _ ⟨t,rfl,rfl,_⟩
 refine ⟨.tup fun y hy=>?_,by simp⟩
 simp only [YG,List.not_mem_nil,or_false] at hy
 rcases hy with rfl|rfl<;>exact .val
section
variable {n:Zp} {ln:LI} {L:Zt} {s:Z5}
theorem Z3c {op t:Int} {r:Option Zt} (h:¬XL op=true):Kz L op t r=r:=by
 cases r with
 | none=>rfl
 | some X=>exact Z7 h
theorem RE {x:Int} (hc:YA s.op=true) (hx:gI s.args 0=x):Uj n ln L s=QA n ln L s.op x:=by
 have hop:14<=s.op/\s.op<=17:=by simpa [YA] using hc
 have hd:¬XL s.op=true:=by rw [XL];simp;omega
 rw [Uu,Z3c hd,QA]
 by_cases h14:s.op=14
 ·rw [Ze h14];exact IG h14 hx
 rw [Z7 h14]
 by_cases h15:s.op=15
 ·rw [Ze h15];exact IH h15 hx
 rw [Z7 h15]
 exact II om hx
theorem Lr {L1:Zt} {t:Int} (hP:Qn n ln L s=some L1) (h0:0<=Ya n L.vars s) (hnc:¬YA s.op=true) (ht:t=Ya n L.vars s):Uj n ln L s=some (L1.grow t (min t 1) (-1)):=by
 have hd:XL s.op=true:=by rw [ED h0];simpa using hnc
 rw [Uu,hP]
 show (if XL s.op=true then _ else _)=_
 rw [Ze hd,ht,show (if Ya n L.vars s≠0 then (1:Int) else 0)=min (Ya n L.vars s) 1 by split<;>omega]
theorem RG (hP:Qn n ln L s=none):Uj n ln L s=none:=by rw [Uu,hP];rfl
theorem IJ (h1:¬YA s.op=true) (h2:¬(s.op=7∨s.op=8)):Qn n ln L s=UC n ln L s.op s.num s.into s.args:=by
 have hop:¬(14<=s.op/\s.op<=17):=by simpa [YA] using h1
 rw [Qn,Qm,Z7 om,Z7 om,Z7 om,Z7 h2]
theorem Z9s (h1:¬YA s.op=true) (h2:¬(s.op=7∨s.op=8)) (h3:¬T5 s.op=true) (h0:0<=Ya n L.vars s):Qn n ln L s=some L:=by
 rw [IJ h1 h2,UC,E7 (all:=s.args) (args:=s.args) (i:=0) rfl,IL h3]
 show (if KE n s.op s.num ln L s.args 0=true then KF L s.into s.args.length else none)=some L
 rw [Ze ((F6 (all:=s.args) (args:=s.args) (i:=0) rfl).2 fun j x _ _ hl=>absurd hl (OJ h3 j)),KF]
 have hi:¬0<s.into:=by
  intro hi
  rw [An] at h0
  split at h0
  ·omega
  ·rename_i hq
   have hv:Uk L.vars s.op s.into=true:=Vh.1 fun z=>hq (.inr (.inl z))
   rw [Uk,Z7 om] at hv
   split at hv
   ·rename_i h6;exact h3 (by rw [h6];rfl)
   ·cases hv
 rw [Z7 hi]
end
end Go.Abs
namespace Go.Abs
def To (L:Zt) (am:List Xj) (s:Z5) (m:LI):List Xj:=if s.op=8 then am++[⟨gI s.args 0,(L.vars.length:Nat),m,false⟩] else am
def KU (n:Zp) (L:Zt) (s:Z5) (k:Nat):Zt:=if s.op=8 then { L with con:=L.con.set (gI s.args 0).toNat (gI (ZW n.decls s.num) k),fst:=L.fst.set (gI s.args 0).toNat L.vars.length } else L
theorem Bd {n:Zp} {L:Zt} {s:Z5} {k:Nat}:(KU n L s k).vars=L.vars:=by rw [KU];split<;>rfl
theorem CU {n:Zp} {L:Zt} {s:Z5} {k:Nat}:(KU n L s k).own=L.own:=by rw [KU];split<;>rfl
theorem CV {n:Zp} {L:Zt} {s:Z5} {k:Nat}:(KU n L s k).tok=L.tok:=by rw [KU];split<;>rfl
theorem RB {n:Zp} {L:Zt} {s:Z5} {k:Nat} (h:Wp L):Wp (KU n L s k):=by rw [KU];split;exact h.arm;exact h
theorem RA {n:Zp} {L:Zt} {s:Z5} {k:Nat} {m:LI} (hop:s.op=7∨s.op=8) (hm:(Xm n.decls s.op s.num)[k]? = some m):KC (KU n L s k) (gI s.args 0) m=Vt n.decls L s.op s.num s.args k:=by
 rw [KU,Vt]
 by_cases h8:s.op=8
 ·rw [Ze h8,Ze h8]
  obtain ⟨c,hc,rfl⟩:=GU h8 hm
  have hgc:gI (ZW n.decls s.num) (k:Int)=c:=by rw [gI];simp [hc]
  rw [Jr,hgc]
 ·rw [Z7 h8,Z7 h8]
  rw [Xm,Ze om] at hm
  have:m=[]:=by
   match k,hm with
   | 0,hm=>simpa using hm.symm
   | 1,hm=>simpa using hm.symm
   | k+2,hm=>simp at hm
  rw [this];rfl
theorem M9 {n:Zp} {L:Zt} {am:List Xj} {s:Z5} {k:Nat} {m:LI} (hn:X0 n) (ha:WP n.decls L am) (hl:Wp L) (hop:s.op=7∨s.op=8) (hx:0<=gI s.args 0/\gI s.args 0<L.vars.length) (hm:(Xm n.decls s.op s.num)[k]? = some m) :
  WP n.decls (Vt n.decls L s.op s.num s.args k) (To L am s m):=by
 rw [To,Vt]
 by_cases h8:s.op=8
 ·rw [Ze h8,Ze h8]
  obtain ⟨c,hc,rfl⟩:=GU h8 hm
  have hgc:gI (ZW n.decls s.num) (k:Int)=c:=by rw [gI];simp [hc]
  rw [hgc]
  exact ha.arm hl hx (MK hn.decls hc).1
 ·rw [Z7 h8,Z7 h8];exact ha
end Go.Abs
namespace Go.Abs
theorem G9 {n:Zp}:∀{xs:List Z5} {us vs:LI},Ws n xs us=some vs->us.length<=vs.length/\vs.length<=us.length+Ye xs
 | [],us,vs,h=>by rw [Ws] at h;cases h;simp [Ye]
 | s::r,us,vs,h=>by
  obtain ⟨_,g2⟩:=E5 h
  have:=G9 g2
  have h2:=FW n us s
  rw [Ye];omega
theorem M8 {L:Zt} {am:List Xj} {s:Z5} {m:LI}:(To L am s m).length<=am.length+1:=by rw [To];split<;>simp
theorem Ma {n:Zp} (hty:K3 n) {op num:Int} {k:Nat} {m:LI} (h:(Xm n.decls op num)[k]? = some m):∀f∈m,0<=f:=by
 by_cases h7:op=7
 ·rw [Xm,Ze h7] at h
  have:m=[]:=by
   match k,h with
   | 0,h=>simpa using h.symm
   | 1,h=>simpa using h.symm
   | k+2,h=>simp at h
  rw [this];intro f hf;cases hf
 ·rw [Xm,Z7 h7,T0] at h
  cases hc:(ZW n.decls num)[k]? with
  | none=>rw [hc] at h;cases h
  | some c=>rw [hc] at h;cases h;exact hty.fields c
theorem EK {L:Zt} {r:Int}:(W6 L r).own.length=L.own.length/\(W6 L r).tok.length=L.tok.length/\(W6 L r).vars=L.vars:=by
 rw [W6];split
 ·exact ⟨Uw,rfl,rfl⟩
 ·exact ⟨rfl,rfl,rfl⟩
end Go.Abs
namespace Go.Abs
theorem Gc {L M:Zt} {n:Zp} {ln:LI} {xs:List Z5} {f:Zt->Option Zt} (h:Vg n ln L xs=some M):CW (Vg n ln L xs) f=f M:=by rw [h];rfl
end Go.Abs
end
section
namespace Go.Abs
theorem Sa:∀{os ts:LI} {m:Nat},os.length=ts.length->(WX os ts=true↔WX (os.take m) (ts.take m)=true/\WX (os.drop m) (ts.drop m)=true)
 | [],[],m,_=>by simp [WX]
 | [],_::_,_,h=>by simp at h
 | _::_,[],_,h=>by simp at h
 | o::os,t::ts,0,h=>by simp [WX]
 | o::os,t::ts,m+1,h=>by
  simp only [Bo,List.drop_succ_cons]
  rw [WX,WX]
  split
  ·simp
  ·exact Sa (by simpa using h)
theorem Pz {n:Zp} {r:Yg} {M:Zt} (hP:Vg n r.lent (Up r) r.body.steps=some M) (hl:M.own.length=M.tok.length):UK n r=(VV 0 r.body.result M).isSome:=by
 rw [UK,J3,hP]
 show (match VV r.params.length r.body.result M with|none=>false|some L=>(Un L 0).isSome)=_
 rw [VV,VV]
 cases hT:(if gI M.vars r.body.result≠0 then Uv M r.body.result else some M) with
 | none=>rfl
 | some M2=>
  have h2:M2.own.length=M2.tok.length:=by
   split at hT
   ·have:=QV hT;rw [this.2.2.2.2.2.1,this.2.2.2.2.2.2,Uw];exact hl
   ·cases hT;exact hl
  show (match Un M2 r.params.length with|none=>false|some L=>(Un L 0).isSome)=(Un M2 0).isSome
  have key:=Sa (m:=r.params.length) h2
  rw [Un,Un]
  by_cases h1:WX (M2.own.drop r.params.length) (M2.tok.drop r.params.length)=true
  ·rw [Ze h1]
   show (Un (M2.take r.params.length) 0).isSome=_
   rw [Un]
   by_cases h3:WX (M2.own.take r.params.length) (M2.tok.take r.params.length)=true
   ·rw [Ze (show WX ((M2.take r.params.length).own.drop 0) ((M2.take r.params.length).tok.drop 0)=true from h3),Ze (show WX (M2.own.drop 0) (M2.tok.drop 0)=true from key.2 ⟨h3,h1⟩)];rfl
   ·rw [Z7 (show ¬WX ((M2.take r.params.length).own.drop 0) ((M2.take r.params.length).tok.drop 0)=true from h3),Z7 (show ¬WX (M2.own.drop 0) (M2.tok.drop 0)=true from fun z=>h3 (key.1 z).1)]
  ·rw [Z7 h1,Z7 (show ¬WX (M2.own.drop 0) (M2.tok.drop 0)=true from fun z=>h1 (key.1 z).2)];rfl
theorem Zad {n:Zp} {r:Yg} (hP:Vg n r.lent (Up r) r.body.steps=none):UK n r=false:=by rw [UK,J3,hP];rfl
end Go.Abs
namespace Go.Abs
theorem L9 {xs:LI} {k:Nat} {a b:Int} (h:xs.length=k):(xs++[a]).set k b=xs++[b]:=by subst h;simp
end Go.Abs
namespace Go.Abs
theorem SS {ds:List Zf}:WP ds ⟨[],[],[],[],[],[]⟩ []:=⟨fun a ha=>(nomatch ha),fun a ha=>(nomatch ha),fun v h0 h1=>(by have h2:v<((0:Nat):Int):=h1;omega),fun v h0 h1=>(by have h2:v<((0:Nat):Int):=h1;omega)⟩
theorem Pi {ds:List Zf} {lent:LI}:∀{ps:LI} {i:Nat} {L:Zt},Wp L->WP ds L []->WP ds (QP lent ps i L) []
 | [],_,_,_,h=>h
 | t::r,i,L,hl,h=>by rw [QP];exact Pi hl.grow (h.grow hl)
theorem OR {ds:List Zf} (rt:Yg):WP ds (Up rt) []:=Pi ⟨rfl,rfl,rfl,rfl,rfl⟩ SS
end Go.Abs
end
section
namespace Go.Abs
end Go.Abs
namespace Go.Abs
end Go.Abs
namespace Go.Abs
end Go.Abs
namespace Go.Abs
end Go.Abs
end
namespace Go.Abs
def Zx (op v:Int):Z5:=.mk op 0 0 [v] []
def UQ (ds:List Zf) (num:Int) (k:Nat):LI:=((ZW ds num).map (ZU ds))[k]?.getD []
section
variable {ds:List Zf} {am:List Xj} {m:Nat}
end
theorem Nb {ds:List Zf} {num:Int} {k:Nat} {m:LI} (h:((ZW ds num).map (ZU ds))[k]? = some m):UQ ds num k=m:=by rw [UQ,h];rfl
theorem Z3b {ds:List Zf} (hd:WD ds) (num:Int) (k:Nat):(UQ ds num k).length<=3:=by
 rw [UQ,T0]
 cases (ZW ds num)[k]? with
 | none=>simp
 | some c=>exact U4 hd c
theorem Lp {xs:List Z5} {k:Nat} {s:Z5} (h:xs[k]? = some s):Ye (xs.take (k+1))=Ye (xs.take k)+s.sz:=by
 induction xs generalizing k with
 | nil=>simp at h
 | cons t r ih=>
  cases k with
  | zero=>simp at h;subst h;simp [Ye]
  | succ k=>rw [Bo,Bo,Ye,Ye,ih (by simpa using h)];omega
theorem Kk (xs:List Z5) (k:Nat):Ye (xs.take k)<=Ye xs:=by
 induction xs generalizing k with
 | nil=>simp
 | cons t r ih=>
  cases k with
  | zero=>simp [Ye]
  | succ k=>have:=ih k;rw [Bo,Ye,Ye];omega
theorem Zb8 {n:Zp} {us:LI} {s:Z5} (g:0<=Ya n us s) (h:YA s.op=true):Qa n us s=us:=by rw [Qa,ED g,h];rfl
theorem Zb7 {n:Zp} {us:LI} {s:Z5} (g:0<=Ya n us s) (h:¬YA s.op=true):(Qa n us s).length=us.length+1:=by
 rw [Qa,ED g,J2.2 h];simp
theorem Zb9 {n:Zp} {us:LI} {s:Z5} (g:0<=Ya n us s):(Qa n us s).length=if YA s.op=true then us.length else us.length+1:=by
 split
 ·rw [Zb8 g (by assumption)]
 ·exact Zb7 g (by assumption)

theorem Ty:∀(xs ys:List Z5),Ye (xs++ys)=Ye xs+Ye ys
 | [],ys=>by simp [Ye]
 | x::r,ys=>by rw [K0,Ye,Ye,Ty r ys];omega
theorem Ew (op v:Int):(Zx op v).sz=2:=by rw [Zx,Z5.sz];simp [X7]
theorem Ln (op:Int):∀l:LI,Ye (l.map (Zx op))=2*l.length
 | []=>by simp [Ye]
 | x::r=>by rw [Ul,Ye,Ew,Ln op r,YS];omega
section
variable {ds:List Zf} (hd:WD ds)
include hd
end
section
variable {ds:List Zf} {cons first:LI}
end
section
variable {ds:List Zf} (hd:WD ds)
include hd
end
def XQ:List Z5->Nat
 | []=>0
 | s::r=>if s.op=14∨s.op=15 then XQ r+1 else 0
def Wx (op:Int):List Z5->LI
 | []=>[]
 | s::r=>if s.op=op then gI s.args 0::Wx op r else Wx op r
def UU:LI->Int->LI->LI->LI × LI
 | [],_,D,R=>(D,R)
 | f::r,q,D,R=>if f≠0/\q∈D then UU r (q+1) (D.erase q) R else if f≠0 then UU r (q+1) D (R++[q]) else UU r (q+1) D R
def Aj (xs:List Z5) (x:Int) (fs:LI) (q:Int):LI × LI:=UU fs q (Wx 14 (xs.take (XQ xs))) ((Wx 15 (xs.take (XQ xs))).erase x)
def AC (xs:List Z5) (x:Int) (fs:LI) (q:Int):List Z5:=
 if x∈Wx 15 (xs.take (XQ xs))/\fs.length≠0 then (Aj xs x fs q).1.map (Zx 14)++[Zx 16 x]++(Aj xs x fs q).2.map (Zx 15)++xs.drop (XQ xs) else xs
def Jp (b:Z8) (x:Int) (fs:LI) (q:Int):Z8:=.mk (AC b.steps x fs q) b.result
theorem FL:∀xs:List Z5,XQ xs<=xs.length
 | []=>X4 _
 | s::r=>by have:=FL r;rw [XQ];split<;>simp<;>omega
theorem PK:∀{xs:List Z5} {s:Z5},s∈xs.take (XQ xs)->s.op=14∨s.op=15
 | [],s,h=>by simp [XQ] at h
 | t::r,s,h=>by
  rw [XQ] at h
  split at h
  ·rename_i q
   rw [Bo] at h
   rcases YG.1 h with rfl|h
   ·exact q
   ·exact PK h
  ·simp at h
theorem GT:∀xs:List Z5,(Wx 14 xs).length+(Wx 15 xs).length<=xs.length
 | []=>by simp [Wx]
 | s::r=>by
  have:=GT r
  rw [Wx,Wx]
  by_cases h:s.op=14
  ·rw [Ze h,Z7 om];simp;omega
  ·rw [Z7 h];split<;>simp<;>omega
theorem FE:∀(fs:LI) (q:Int) (D R:LI),(UU fs q D R).1.length+(UU fs q D R).2.length<=D.length+R.length+fs.length
 | [],q,D,R=>by simp [UU]
 | f::r,q,D,R=>by
  rw [UU,YS]
  split
  ·have:=FE r (q+1) (D.erase q) R
   have h2:=List.length_erase_le (a:=q) (l:=D)
   omega
  ·split
   ·have:=FE r (q+1) D (R++[q])
    simp only [Ys,YS,Xt] at this
    omega
   ·have:=FE r (q+1) D R
    omega
theorem Z9k {xs:List Z5} {x:Int} {fs:LI} {q:Int} (h:x∈Wx 15 (xs.take (XQ xs))) (hf:fs.length<=3):(Aj xs x fs q).1.length+(Aj xs x fs q).2.length<=XQ xs+2:=by
 have h1:=FE fs q (Wx 14 (xs.take (XQ xs))) ((Wx 15 (xs.take (XQ xs))).erase x)
 have h2:=GT (xs.take (XQ xs))
 have h3:=List.length_pos_of_mem h
 rw [List.length_erase_of_mem h] at h1
 rw [WB] at h2
 have h4:=FL xs
 unfold Aj
 omega
theorem Zct (xs:List Z5) (k:Nat):Ye xs=Ye (xs.take k)+Ye (xs.drop k):=by rw [<-Ty,T1]
theorem Rv:∀xs:List Z5,(∀s∈xs,2<=s.sz)->2*xs.length<=Ye xs
 | [],_=>by simp
 | s::r,h=>by
  have h1:=Rv r fun t ht=>h t (XA _ ht)
  have h2:=h s (Xh ..)
  rw [Ye,YS];omega
theorem SC {xs:List Z5} {x:Int} {fs:LI} {q:Int} (hf:fs.length<=3) (h:∀s∈xs,s.op=14∨s.op=15->2<=s.sz):Ye (AC xs x fs q)<=Ye xs+6:=by
 rw [AC]
 split
 ·rename_i hc
  have h1:=Z9k (q:=q) hc.1 hf
  have h2:=Rv (xs.take (XQ xs)) fun s hs=>h s (Qc hs) (PK hs)
  have h3:=Zct xs (XQ xs)
  have h4:=FL xs
  rw [WB] at h2
  rw [Ty,Ty,Ty,Ln,Ln,Ye,Ye,Ew]
  omega
 ·omega
def Cn (s:Z5):Prop:=s=Zx s.op (gI s.args 0)
theorem SB {xs:List Z5} {m:Int} {fs:LI} {q:Int} (h:¬(m∈Wx 15 (xs.take (XQ xs))/\fs.length≠0)):AC xs m fs q=xs:=Z7 h
end Go.Abs
section
namespace Go.Abs
mutual
def BZ (ds:List Zf) (m:Nat):Z5->Z5
 | .mk op num into args kids=>.mk op num into args (TS ds m op num args kids 0)
def TS (ds:List Zf) (m:Nat) (op num:Int) (args:LI):List Z8->Nat->List Z8
 | [],_=>[]
 | b::r,k=>(if op=8 then Jp (Vf ds (m+(UQ ds num k).length) b) (gI args 0) (UQ ds num k) m else Vf ds m b)::TS ds m op num args r (k+1)
def Th (ds:List Zf) (m:Nat):List Z5->List Z5
 | []=>[]
 | s::r=>BZ ds m s::Th ds (if YA s.op=true then m else m+1) r
def Vf (ds:List Zf) (m:Nat):Z8->Z8
 | .mk steps result=>.mk (Th ds m steps) result
end
def G3 (ds:List Zf) (m:Nat) (op num:Int) (args:LI) (k:Nat) (b:Z8):Z8:=if op=8 then Jp (Vf ds (m+(UQ ds num k).length) b) (gI args 0) (UQ ds num k) m else Vf ds m b
theorem Lh (ds:List Zf) (m:Nat) (s:Z5):BZ ds m s=.mk s.op s.num s.into s.args (TS ds m s.op s.num s.args s.kids 0):=by cases s;rw [BZ];rfl
theorem FZ (ds:List Zf) (m:Nat) (b:Z8):Vf ds m b=.mk (Th ds m b.steps) b.result:=by cases b;rw [Vf];rfl
section
variable {ds:List Zf} {m:Nat}
theorem Zbs {xs acc r:List Z5} {k:Nat} {s:Z5} (h:xs[k]? = some s) (ha:acc++Th ds m (xs.drop k)=r) :
  (acc++[.mk s.op s.num s.into s.args (TS ds m s.op s.num s.args s.kids 0)])++Th ds (if YA s.op=true then m else m+1) (xs.drop (k+1))=r:=by
 rw [Y5 h,Th,Lh] at ha
 rw [<-ha];simp
theorem Zbr {xs acc r:List Z5} {k:Nat} (h:xs.length<=k) (ha:acc++Th ds m (xs.drop k)=r):acc=r:=by
 rw [Xe h,Th,JM] at ha;exact ha
theorem R5 {op num:Int} {args:LI} {bs acc r:List Z8} {k:Nat} {b:Z8} (h:bs[k]? = some b) (ha:acc++TS ds m op num args (bs.drop k) k=r) :
  (acc++[G3 ds m op num args k b])++TS ds m op num args (bs.drop (k+1)) (k+1)=r:=by
 rw [Y5 h,TS] at ha
 rw [<-ha,G3];simp
theorem Zbo {op num:Int} {args:LI} {bs acc r:List Z8} {k j:Nat} (h:bs.length<=k) (ha:acc++TS ds m op num args (bs.drop k) j=r):acc=r:=by
 rw [Xe h,TS,JM] at ha;exact ha
end
mutual
def wS (ds:List Zf):Z5->Prop
 | .mk op num into args kids=>(XL op=!YA op)/\(YA op=true->num=0/\into=0/\kids=[]/\∃a,args=[a])/\(op=8->(∃a,args=[a]/\0<=a/\a<=900000000)/\kids.length=(ZW ds num).length)/\Ap ds kids
def Ap (ds:List Zf):List Z8->Prop
 | []=>True
 | b::r=>wB ds b/\Ap ds r
def QZ (ds:List Zf):List Z5->Prop
 | []=>True
 | s::r=>wS ds s/\QZ ds r
def wB (ds:List Zf):Z8->Prop
 | .mk steps _=>QZ ds steps
end
section
variable {ds:List Zf}
theorem Jj (s:Z5):wS ds s↔(XL s.op=!YA s.op)/\(YA s.op=true->s.num=0/\s.into=0/\s.kids=[]/\∃a,s.args=[a])/\(s.op=8->(∃a,s.args=[a]/\0<=a/\a<=900000000)/\s.kids.length=(ZW ds s.num).length)/\Ap ds s.kids:=by cases s;rw [wS];rfl
theorem J1 (b:Z8):wB ds b↔QZ ds b.steps:=by cases b;rw [wB];rfl
theorem Aq:∀{xs:List Z5},QZ ds xs↔∀s∈xs,wS ds s
 | []=>by simp [QZ]
 | s::r=>by rw [QZ,Aq];simp
theorem Gl:∀{xs:List Z8},Ap ds xs↔∀s∈xs,wB ds s
 | []=>by simp [Ap]
 | s::r=>by rw [Ap,Gl];simp
theorem S4 {b:Z8} {k:Nat} {s:Z5} (h:wB ds b) (hs:b.steps[k]? = some s):wS ds s:=Aq.1 ((J1 b).1 h) s (Y4 hs)
theorem LH {s:Z5} {k:Nat} {b:Z8} (h:wS ds s) (hb:s.kids[k]? = some b):wB ds b:=Gl.1 ((Jj s).1 h).2.2.2 b (Y4 hb)
theorem Gm {s:Z5} (h:wS ds s) (hc:YA s.op=true):Cn s/\s.kids=[]/\∃a,s.args=[a]:=by
 obtain ⟨h1,h2,h3,a,h4⟩:=((Jj s).1 h).2.1 hc
 refine ⟨?_,h3,a,h4⟩
 cases s with
 | mk op num into args kids=>
  simp only [Z5.num,Z5.into,Z5.kids,Z5.args] at h1 h2 h3 h4
  subst h1 h2 h3 h4
  rfl
theorem Zei {op v:Int} (h:op=14∨op=15∨op=16):wS ds (Zx op v):=(Jj _).2 ⟨by show XL op=!YA op;rcases h with rfl|rfl|rfl<;>rfl,fun _=>⟨rfl,rfl,rfl,v,rfl⟩,fun e=>absurd e (show op≠8 by omega),True.intro⟩
theorem Zej {s:Z5} (h:wS ds s):XL s.op=!YA s.op:=((Jj s).1 h).1
theorem Eb {s:Z5} (h:wS ds s) (h8:s.op=8):(∃a,s.args=[a]/\0<=a/\a<=900000000)/\s.kids.length=(ZW ds s.num).length:=((Jj s).1 h).2.2.1 h8
theorem Gz {xs:List Z5} (h:QZ ds xs):∀s∈xs,YA s.op=true->Cn s:=fun s hs hc=>(Gm (Aq.1 h s hs) hc).1
end
section
variable {n:Zp}
end
mutual
def Z5.pz:Z5->Nat
 | .mk _ _ _ args kids=>1+args.length+CN kids
def Z8.pz:Z8->Nat
 | .mk steps _=>1+CO steps
def CO:List Z5->Nat
 | []=>0
 | s::r=>s.pz+CO r
def CN:List Z8->Nat
 | []=>0
 | b::r=>b.pz+8+CN r
end
mutual
theorem Z5.pz_le:∀s:Z5,s.pz<=9*s.sz
 | .mk _ _ _ args kids=>by have:=Po kids;rw [Z5.pz,Z5.sz];omega
theorem Z8.pz_le:∀b:Z8,b.pz+8<=9*b.sz
 | .mk steps _=>by have:=Pp steps;rw [Z8.pz,Z8.sz];omega
theorem Pp:∀xs:List Z5,CO xs<=9*Ye xs
 | []=>Kn _
 | s::r=>by have:=s.pz_le;have:=Pp r;rw [CO,Ye];omega
theorem Po:∀xs:List Z8,CN xs<=9*X7 xs
 | []=>Kn _
 | s::r=>by have:=s.pz_le;have:=Po r;rw [CN,X7];omega
end
section
variable {ds:List Zf}
theorem Z12 {op:Int} (h:op=14∨op=15):YA op=true:=by rw [YA];simp;omega
theorem Zbt {xs:List Z5}:∀{m:Nat},QZ ds xs->∀s∈Th ds m xs,s.op=14∨s.op=15->2<=s.sz:=by
 induction xs with
 | nil=>intro m _ s hs;simp [Th] at hs
 | cons t r ih=>
  intro m h s hs ho
  rw [Th] at hs
  rcases YG.1 hs with rfl|hs
  ·rw [Lh] at ho ⊢
   obtain ⟨_,_,a,ha⟩:=Gm h.1 (Z12 ho)
   rw [Z5.sz,ha];simp
  ·exact ih h.2 s hs ho
variable (hd:WD ds)
include hd
mutual
theorem Zbp:∀(s:Z5) {m:Nat},wS ds s->(BZ ds m s).sz<=s.pz
 | .mk op num into args kids,m,h=>by
  have:=R7 kids (m:=m) (op:=op) (num:=num) (args:=args) (k:=0) h.2.2.2
  rw [BZ,Z5.sz,Z5.pz];omega
theorem R7:∀(bs:List Z8) {m:Nat} {op num:Int} {args:LI} {k:Nat},Ap ds bs->X7 (TS ds m op num args bs k)<=CN bs
 | [],_,_,_,_,_,_=>X4 _
 | b::r,m,op,num,args,k,h=>by
  have h2:=R7 r (m:=m) (op:=op) (num:=num) (args:=args) (k:=k+1) h.2
  rw [TS,X7,CN]
  split
  ·have h1:=G0 b (m:=m+(UQ ds num k).length) h.1
   have h3:=SC (xs:=(Vf ds (m+(UQ ds num k).length) b).steps) (x:=gI args 0) (q:=(m:Int)) (Z3b hd num k) (by rw [FZ];exact Zbt ((J1 b).1 h.1))
   rw [Jp,Z8.sz]
   rw [Z8.sz_eq] at h1
   omega
  ·have h1:=G0 b (m:=m) h.1
   omega
theorem R8:∀(xs:List Z5) {m:Nat},QZ ds xs->Ye (Th ds m xs)<=CO xs
 | [],_,_=>X4 _
 | s::r,m,h=>by
  have h1:=Zbp s (m:=m) h.1
  have h2:=R8 r (m:=if YA s.op=true then m else m+1) h.2
  rw [Th,Ye,CO];omega
theorem G0:∀(b:Z8) {m:Nat},wB ds b->(Vf ds m b).sz<=b.pz
 | .mk steps result,m,h=>by
  have:=R8 steps (m:=m) h
  rw [Vf,Z8.sz,Z8.pz];omega
end
end
section
variable {ds:List Zf} {m:Nat}
end
def Ba (ds:List Zf) (r:Yg):Yg:=⟨r.params,r.lent,r.result,Vf ds r.params.length r.body⟩
def G4 (n:Zp):Zp:=⟨n.decls,n.routines.map (Ba n.decls)⟩
end Go.Abs
namespace Go.Abs
theorem Zas {xs:List Z5} {k:Nat} {s:Z5} {r:Nat} (h:xs[k]? = some s) (hs:s.op=14∨s.op=15) (ha:k+XQ (xs.drop k)=r):k+1+XQ (xs.drop (k+1))=r:=by
 rw [Y5 h,XQ,Ze hs] at ha;omega
theorem Zat {xs:List Z5} {k:Nat} {s:Z5} {r:Nat} (h:xs[k]? = some s) (hs:¬(s.op=14∨s.op=15)) (ha:k+XQ (xs.drop k)=r):k=r:=by
 rw [Y5 h,XQ,Z7 hs] at ha;omega
theorem Zar {xs:List Z5} {k:Nat} {r:Nat} (h:xs.length<=k) (ha:k+XQ (xs.drop k)=r):k=r:=by
 rw [Xe h,XQ] at ha;omega
theorem SQ {op:Int} {xs:List Z5} {acc r:LI} {k:Nat} {s:Z5} (h:xs[k]? = some s) (hs:s.op=op) (ha:acc++Wx op (xs.drop k)=r):(acc++[gI s.args 0])++Wx op (xs.drop (k+1))=r:=by
 rw [Y5 h,Wx,Ze hs] at ha;rw [<-ha];simp
theorem SP {op:Int} {xs:List Z5} {acc r:LI} {k:Nat} {s:Z5} (h:xs[k]? = some s) (hs:¬s.op=op) (ha:acc++Wx op (xs.drop k)=r):acc++Wx op (xs.drop (k+1))=r:=by
 rw [Y5 h,Wx,Z7 hs] at ha;exact ha
theorem SO {op:Int} {xs:List Z5} {acc r:LI} {k:Nat} (h:xs.length<=k) (ha:acc++Wx op (xs.drop k)=r):acc=r:=by
 rw [Xe h,Wx,JM] at ha;exact ha
theorem Z37 {xs acc r:LI} {y:Int} {k:Nat} {x:Int} {d:Bool} (h:xs[k]? = some x) (ha:acc++(if d=true then xs.drop k else (xs.drop k).erase y)=r) :
  (if x=y/\¬d=true then acc else acc++[x])++(if ((x==y&&!d)||d)=true then xs.drop (k+1) else (xs.drop (k+1)).erase y)=r:=by
 rw [Y5 h] at ha
 rw [<-ha]
 by_cases hd:d=true
 ·simp [hd]
 ·by_cases hx:x=y
  ·simp [hd,hx]
  ·rw [Z7 (fun z=>hx z.1),Z7 hd,List.erase_cons_tail (by simpa using hx)]
   simp [hd,hx]
theorem Z36 {xs acc r:LI} {y:Int} {k:Nat} {d:Bool} (h:xs.length<=k) (ha:acc++(if d=true then xs.drop k else (xs.drop k).erase y)=r):acc=r:=by
 rw [Xe h] at ha;simpa using ha
section
variable {fs D R:LI} {q k:Nat} {f:Int} {r:LI × LI}
theorem Z9m (h:fs[k]? = some f) (h0:f≠0) (hm:((q+k:Nat):Int)∈D) (ha:UU (fs.drop k) (q+k) D R=r):UU (fs.drop (k+1)) (q+((k+1:Nat):Int)) (D.erase ((q+k:Nat):Int)) R=r:=by
 rw [Y5 h,UU,Ze ⟨h0,by rw [<-Int.natCast_add];exact hm⟩,<-Int.natCast_add] at ha
 rw [<-ha];congr 1
theorem Z9n (h:fs[k]? = some f) (h0:f≠0) (hm:¬((q+k:Nat):Int)∈D) (ha:UU (fs.drop k) (q+k) D R=r):UU (fs.drop (k+1)) (q+((k+1:Nat):Int)) D (R++[((q+k:Nat):Int)])=r:=by
 rw [Y5 h,UU,Z7 (fun z=>hm (by rw [Int.natCast_add];exact z.2)),Ze h0,<-Int.natCast_add] at ha
 rw [<-ha];congr 1
theorem Z9o (h:fs[k]? = some f) (h0:¬f≠0) (ha:UU (fs.drop k) (q+k) D R=r):UU (fs.drop (k+1)) (q+((k+1:Nat):Int)) D R=r:=by
 rw [Y5 h,UU,Z7 (fun z=>h0 z.1),Z7 h0] at ha
 rw [<-ha];congr 1
theorem Z9l (h:fs.length<=k) (ha:UU (fs.drop k) (q+k) D R=r):r=(D,R):=by
 rw [Xe h,UU] at ha;exact ha.symm
end
theorem SD {xs:List Z5} {x:Int} {fs:LI} {q:Int} {D R:LI} (h1:x∈Wx 15 (xs.take (XQ xs))) (h2:fs.length≠0) (hr:Aj xs x fs q=(D,R)):D.map (Zx 14)++[Zx 16 x]++R.map (Zx 15)++xs.drop (XQ xs)=AC xs x fs q:=by
 rw [AC,Ze ⟨h1,h2⟩,hr]
theorem Zbq {ds:List Zf} {xs:List Z5}:∀{m:Nat},QZ ds xs->∀s∈Th ds m xs,YA s.op=true->∃a,s.args=[a]:=by
 induction xs with
 | nil=>intro m _ s hs;simp [Th] at hs
 | cons t r ih=>
  intro m h s hs ho
  rw [Th] at hs
  rcases YG.1 hs with rfl|hs
  ·rw [Lh] at ho ⊢
   exact (Gm h.1 ho).2.2
  ·exact ih h.2 s hs ho
end Go.Abs
end
namespace Go.Abs
mutual
def Z1.sz:Z1->Nat
 | .mk _ _ kids=>1+Xu kids
def Xu:List Z1->Nat
 | []=>0
 | e::r=>e.sz+Xu r
end
theorem Z1.sz_eq (e:Z1):e.sz=1+Xu e.kids:=by cases e;rw [Z1.sz];rfl
theorem Dn:∀xs ys:List Z1,Xu (xs++ys)=Xu xs+Xu ys
 | [],ys=>by simp [Xu]
 | x::r,ys=>by rw [K0,Xu,Xu,Dn r];omega
theorem BI:∀{xs:List Z1} {k:Nat} {e:Z1},xs[k]? = some e->e.sz<=Xu xs
 | [],k,e,h=>by simp at h
 | x::r,0,e,h=>by simp at h;subst h;rw [Xu];omega
 | x::r,k+1,e,h=>by have:=BI (xs:=r) (k:=k) (by simpa using h);rw [Xu];omega
theorem N5:∀{xs:List Z1},xs.length<=Xu xs
 | []=>Kn _
 | x::r=>by have:=N5 (xs:=r);have:=x.sz_eq;rw [Xu,YS];omega
def JY:Zf:=⟨0,0,[⟨[]⟩,⟨[0,1]⟩]⟩
def JZ:Zf:=⟨0,0,[⟨[]⟩,⟨[3,0,3]⟩]⟩
def MP:List Zf:=[⟨0,0,[⟨[1,3]⟩]⟩,⟨1,0,[]⟩,⟨0,0,[⟨[1,1,0]⟩,⟨[0]⟩,⟨[3]⟩]⟩,⟨0,1,[]⟩]
def A9:List (List Zf):=[[JY,⟨0,0,[]⟩,JZ],[JY,⟨0,0,[]⟩,JZ,⟨0,0,[⟨[1,3]⟩]⟩],[JY,⟨0,0,[]⟩,JZ,⟨1,0,[]⟩],[JY,⟨0,0,[]⟩,JZ,⟨0,0,[⟨[1,1,0]⟩,⟨[0]⟩,⟨[3]⟩]⟩],[JY,⟨0,0,[]⟩,JZ,⟨0,1,[]⟩]]
def GD (ds:List Zf):Prop:=ds∈A9
theorem GD.ok {ds:List Zf} (h:GD ds):WD ds:=by
 have k:=(by decide:∀ds∈A9,ds.length<=4/\(∀d∈ds,d.cons.length<=3)/\∀d∈ds,∀c∈d.cons,c.fields.length<=3) ds h
 exact ⟨k.1,k.2.1,k.2.2⟩
theorem GD.len {ds:List Zf} (h:GD ds):3<=ds.length/\ds.length<=4:=by
 exact (by decide:∀ds∈A9,3<=ds.length/\ds.length<=4) ds h
def KM (t:Int):Prop:=t=0∨t=1∨t=3
instance (t:Int):Decidable (KM t):=inferInstanceAs (Decidable (_∨_∨_))
theorem GD.low {ds:List Zf} (h:GD ds):ZW ds 0=[]/\ZW ds 1=[0,1]/\ZW ds 2=[]/\ZW ds 3=[2,3]/\ZU ds 0=[]/\ZU ds 1=[0,1]/\ZU ds 2=[]/\ZU ds 3=[3,0,3]:=
 (by decide:∀ds∈A9,ZW ds 0=[]/\ZW ds 1=[0,1]/\ZW ds 2=[]/\ZW ds 3=[2,3]/\ZU ds 0=[]/\ZU ds 1=[0,1]/\ZU ds 2=[]/\ZU ds 3=[3,0,3]) ds h
theorem GD.fields {ds:List Zf} (h:GD ds):∀c∈ZW ds 1++(ZW ds 3++ZW ds 4),∀t∈ZU ds c,KM t:=
 (by decide:∀ds∈A9,∀c∈ZW ds 1++(ZW ds 3++ZW ds 4),∀t∈ZU ds c,KM t) ds h
theorem GD.cons_cases {ds:List Zf} (h:GD ds) {t:Int} {c:Int} (hc:c∈ZW ds t):(0<=c/\c<=9)/\(t=1∨t=3∨t=4)/\(ZU ds c).length<=3/\∀u∈ZU ds c,KM u:=by
 have ht:1<=t/\t<=ds.length:=by
  by_cases q:1<=t/\t<=ds.length
  ·exact q
  ·rw [ZW,Z7 q] at hc;cases hc
 have hl:=h.len
 have hlow:=h.low
 have key:∀c∈ZW ds 1++(ZW ds 3++ZW ds 4),0<=c/\c<=9:=
  (by decide:∀ds∈A9,∀c∈ZW ds 1++(ZW ds 3++ZW ds 4),0<=c/\c<=9) ds h
 have h4:t=1∨t=2∨t=3∨t=4:=by omega
 have hf:=h.fields
 have hd:=U4 h.ok c
 rcases h4 with rfl|rfl|rfl|rfl
 ·exact ⟨key c (X8.2 (.inl hc)),.inl rfl,hd,hf c (X8.2 (.inl hc))⟩
 ·rw [hlow.2.2.1] at hc;cases hc
 ·exact ⟨key c (X8.2 (.inr (X8.2 (.inl hc)))),.inr (.inl rfl),hd,hf c (X8.2 (.inr (X8.2 (.inl hc))))⟩
 ·exact ⟨key c (X8.2 (.inr (X8.2 (.inr hc)))),.inr (.inr rfl),hd,hf c (X8.2 (.inr (X8.2 (.inr hc))))⟩
def Jo:List (LI × Int):=[([],0),([1],0),([1,1],1),([1],1),([1,0],1),([2,1],1),([1,1],0),([3],0),([0],1),([0,1],1),([3,0],3),([3],1),([1,3,0],0),([0],0),([0,0],0),([1,0],0)]
def Tz (f:Func):Prop:=(f.params,f.result)∈Jo
theorem Tz.bd {f:Func} (h:Tz f):f.params.length<=3/\(∀t∈f.params,0<=t/\t<=3)/\KM f.result:=by
 have key:∀q∈Jo,q.1.length<=3/\(∀t∈q.1,0<=t/\t<=3)/\KM q.2:=by decide
 exact key _ h
theorem Tz.clo {ds:List Zf} {f:Func} (hd:GD ds) (h:Tz f) (hp:0<Ua ds (gI f.params ((f.params.length:Int)-1)) f.result):∀t∈f.params.dropLast,KM t:=by
 have key:∀q∈Jo,0<Ua ds (gI q.1 ((q.1.length:Int)-1)) q.2->∀t∈q.1.dropLast,KM t:=
  (by decide +kernel:∀ds∈A9,∀q∈Jo,0<Ua ds (gI q.1 ((q.1.length:Int)-1)) q.2->∀t∈q.1.dropLast,KM t) ds hd
 exact key _ h hp
structure GP (p:W4):Prop where
 decls:GD p.decls
 len:1<=p.funcs.length/\p.funcs.length<=4
 sigs:∀f∈p.funcs,Tz f
def TR (ds:List Zf) (op num:Int) (m:Nat) (k:Nat):Nat:=
 if op=13 then m+k else if op=8 then (if k=0 then m else m+(ZU ds (gI (ZW ds num) ((k:Int)-1))).length) else m
mutual
def eW (ds:List Zf) (nf:Nat):Nat->Z1->Prop
 | m,.mk op num kids=>(0<=op/\op<=13)/\(op=12->kids=[]/\0<=num/\num<m)/\(op=13->kids.length=2)/\(op=7->kids.length=3)/\(op=8->kids.length=1+(ZW ds num).length)/\(op=9->0<=num/\num<nf)/\(-2000<=num/\num<=2000)/\kids.length<=4 /\
  QC ds nf (TR ds op num m) 0 kids
def QC (ds:List Zf) (nf:Nat) (sc:Nat->Nat):Nat->List Z1->Prop
 | _,[]=>True
 | k,e::r=>eW ds nf (sc k) e/\QC ds nf sc (k+1) r
end
theorem Z30 {ds:List Zf} {nf m:Nat} (e:Z1):eW ds nf m e↔(0<=e.op/\e.op<=13)/\(e.op=12->e.kids=[]/\0<=e.num/\e.num<m)/\(e.op=13->e.kids.length=2)/\(e.op=7->e.kids.length=3)/\(e.op=8->e.kids.length=1+(ZW ds e.num).length)/\(e.op=9->0<=e.num/\e.num<nf)/\(-2000<=e.num/\e.num<=2000)/\e.kids.length<=4 /\
  QC ds nf (TR ds e.op e.num m) 0 e.kids:=by cases e;rw [eW];rfl
theorem Cl {ds:List Zf} {nf:Nat} {sc:Nat->Nat}:∀{xs:List Z1} {j k:Nat} {e:Z1},QC ds nf sc j xs->xs[k]? = some e->eW ds nf (sc (j+k)) e
 | [],j,k,e,_,h=>by simp at h
 | x::r,j,0,e,hw,h=>by simp at h;subst h;exact hw.1
 | x::r,j,k+1,e,hw,h=>by
  have:=Cl (xs:=r) (j:=j+1) (k:=k) hw.2 (by simpa using h)
  rw [show j+(k+1)=j+1+k by omega];exact this
theorem N0 {ds:List Zf} {nf:Nat} {sc:Nat->Nat}:∀{xs ys:List Z1} {j:Nat},QC ds nf sc j (xs++ys)↔QC ds nf sc j xs/\QC ds nf sc (j+xs.length) ys
 | [],ys,j=>by simp [QC]
 | x::r,ys,j=>by
  rw [K0,QC,QC,N0 (xs:=r),and_assoc,YS,show j+1+r.length=j+(r.length+1) by omega]
theorem Hy {ds:List Zf} {nf m:Nat} {sc:Nat->Nat} (hs:∀k,sc k=m):∀{xs:List Z1} {j:Nat},(∀e∈xs,eW ds nf m e)->QC ds nf sc j xs
 | [],_,_=>True.intro
 | x::r,j,h=>⟨by rw [hs];exact h x (Xh ..),Hy hs fun e he=>h e (XA _ he)⟩
theorem BH {ds:List Zf} {nf m:Nat} {op num:Int} {kids:List Z1} (ho:0<=op/\op<=11/\op≠7/\op≠8) (hc:op=9->0<=num/\num<nf) (hn:-2000<=num/\num<=2000) (hl:kids.length<=4) (hk:∀e∈kids,eW ds nf m e):eW ds nf m (.mk op num kids):=by
 rw [eW]
 refine ⟨by omega,fun h=>by omega,fun h=>by omega,fun h=>by omega,fun h=>by omega,hc,hn,hl,Hy (m:=m) (fun k=>?_) hk⟩
 rw [TR,Z7 om,Z7 om]
theorem Z31 {ds:List Zf} {nf m:Nat} {z:Int} (hz:-2000<=z/\z<=2000):eW ds nf m (.mk 0 z []):=BH om (fun h=>by omega) hz (by simp) (fun e he=>by cases he)
theorem Z32 {ds:List Zf} {nf m:Nat} {z:Int} (hz:0<=z/\z<m) (hm:m<=2000):eW ds nf m (.mk 12 z []):=by
 rw [eW]
 exact ⟨by omega,fun _=>⟨rfl,hz⟩,fun h=>by omega,fun h=>by omega,fun h=>by omega,fun h=>by omega,by omega,by simp,True.intro⟩
theorem MY {ds:List Zf} {nf m:Nat} {num:Int} {kids:List Z1} (hn:-2000<=num/\num<=2000) (hl:kids.length=3) (hk:∀e∈kids,eW ds nf m e):eW ds nf m (.mk 7 num kids):=by
 rw [eW]
 refine ⟨by omega,fun h=>by omega,fun h=>by omega,fun _=>hl,fun h=>by omega,fun h=>by omega,hn,by omega,Hy (m:=m) (fun k=>?_) hk⟩
 rw [TR,Z7 om,Z7 om]
theorem MZ {ds:List Zf} {nf m:Nat} {num:Int} {a b:Z1} (hn:-2000<=num/\num<=2000) (ha:eW ds nf m a) (hb:eW ds nf (m+1) b):eW ds nf m (.mk 13 num [a,b]):=by
 rw [eW]
 exact ⟨by omega,fun h=>by omega,fun _=>rfl,fun h=>by omega,fun h=>by omega,fun h=>by omega,hn,by simp,ha,hb,True.intro⟩
theorem Hx {ds:List Zf} {nf m:Nat} {num:Int} {a:Z1} {arms:List Z1} (hn:-2000<=num/\num<=2000) (h3:arms.length<=3) (hl:arms.length=(ZW ds num).length) (ha:eW ds nf m a) (hk:QC ds nf (TR ds 8 num m) 1 arms):eW ds nf m (.mk 8 num (a::arms)):=by
 rw [eW]
 refine ⟨by omega,fun h=>by omega,fun h=>by omega,fun h=>by omega,fun _=>by rw [YS];omega,fun h=>by omega,hn,by rw [YS];omega,?_,hk⟩
 rw [TR,Z7 om,Ze rfl,Ze rfl]
 exact ha
def bS (b:Nat):Nat:=max 4 (10*b-10)
def bC (b:Nat):Nat:=max 40 (100*b-100)
def YZ:List Z5->Nat
 | []=>0
 | s::r=>(if YA s.op=true then 0 else 1)+YZ r
theorem J8:∀xs ys:List Z5,YZ (xs++ys)=YZ xs+YZ ys
 | [],ys=>by simp [YZ]
 | x::r,ys=>by rw [K0,YZ,YZ,J8 r];omega
theorem BE:∀xs:List Z5,YZ xs<=xs.length
 | []=>X4 _
 | x::r=>by have:=BE r;rw [YZ,YS];split<;>omega
def Tg (ds:List Zf) (op num:Int) (m:Nat) (k:Nat):Nat:=if op=8 then m+(ZU ds (gI (ZW ds num) k)).length else m
mutual
def fS (ds:List Zf) (nf:Nat):Nat->Z5->Prop
 | m,.mk op num into args kids=>((0<=op/\op<=11)∨(14<=op/\op<=17))/\(∀a∈args,0<=a/\a<m)/\(14<=op->num=0/\into=0/\kids=[]/\∃a,args=[a])/\(op=7->kids.length=2)/\(op=8->kids.length=(ZW ds num).length)/\(op=7∨op=8->∃a,args=[a]) /\
  (op=9->0<=num/\num<nf)/\(-2000<=num/\num<=2000)/\(0<=into/\into<=m)/\args.length<=4/\(op≠7/\op≠8->kids=[])/\TK ds nf (Tg ds op num m) 0 kids
def TK (ds:List Zf) (nf:Nat) (sc:Nat->Nat):Nat->List Z8->Prop
 | _,[]=>True
 | k,b::r=>fB ds nf (sc k) b/\TK ds nf sc (k+1) r
def Tp (ds:List Zf) (nf:Nat):Nat->List Z5->Prop
 | _,[]=>True
 | m,s::r=>fS ds nf m s/\Tp ds nf (if YA s.op=true then m else m+1) r
def fB (ds:List Zf) (nf:Nat):Nat->Z8->Prop
 | m,.mk steps result=>Tp ds nf m steps/\0<=result/\result<(m+YZ steps:Nat)
end
section
variable {ds:List Zf} {nf:Nat}
structure FS (ds:List Zf) (nf m:Nat) (s:Z5):Prop where
 op:(0<=s.op/\s.op<=11)∨(14<=s.op/\s.op<=17)
 args:∀a∈s.args,0<=a/\a<m
 cnt:14<=s.op->s.num=0/\s.into=0/\s.kids=[]/\∃a,s.args=[a]
 k7:s.op=7->s.kids.length=2
 k8:s.op=8->s.kids.length=(ZW ds s.num).length
 one:s.op=7∨s.op=8->∃a,s.args=[a]
 call:s.op=9->0<=s.num/\s.num<nf
 num:-2000<=s.num/\s.num<=2000
 into:0<=s.into/\s.into<=m
 alen:s.args.length<=4
 kn:s.op≠7/\s.op≠8->s.kids=[]
 kids:TK ds nf (Tg ds s.op s.num m) 0 s.kids
theorem EO {m:Nat} (s:Z5):fS ds nf m s↔FS ds nf m s:=by
 cases s
 rw [fS]
 exact ⟨fun ⟨h1,h2,h3,h4,h5,h6,h7,h8,h9,h10,h11,h12⟩=>⟨h1,h2,h3,h4,h5,h6,h7,h8,h9,h10,h11,h12⟩,fun h=>⟨h.op,h.args,h.cnt,h.k7,h.k8,h.one,h.call,h.num,h.into,h.alen,h.kn,h.kids⟩⟩
theorem Dp {m:Nat} (b:Z8):fB ds nf m b↔Tp ds nf m b.steps/\0<=b.result/\b.result<(m+YZ b.steps:Nat):=by cases b;rw [fB];rfl
theorem Dq {sc:Nat->Nat}:∀{xs:List Z8} {j k:Nat} {b:Z8},TK ds nf sc j xs->xs[k]? = some b->fB ds nf (sc (j+k)) b
 | [],j,k,b,_,h=>by simp at h
 | x::r,j,0,b,hw,h=>by simp at h;subst h;exact hw.1
 | x::r,j,k+1,b,hw,h=>by
  have:=Dq (xs:=r) (j:=j+1) (k:=k) hw.2 (by simpa using h)
  rw [show j+(k+1)=j+1+k by omega];exact this
theorem N7 {sc:Nat->Nat}:∀{xs ys:List Z8} {j:Nat},TK ds nf sc j (xs++ys)↔TK ds nf sc j xs/\TK ds nf sc (j+xs.length) ys
 | [],ys,j=>by simp [TK]
 | x::r,ys,j=>by
  rw [K0,TK,TK,N7 (xs:=r),and_assoc,YS,show j+1+r.length=j+(r.length+1) by omega]
theorem N8 {sc:Nat->Nat} {xs:List Z8} {b:Z8} (h:TK ds nf sc 0 xs) (hb:fB ds nf (sc xs.length) b):TK ds nf sc 0 (xs++[b]):=
 N7.2 ⟨h,by rw [Vb];exact hb,True.intro⟩
theorem Co:∀{xs ys:List Z5} {m:Nat},Tp ds nf m (xs++ys)↔Tp ds nf m xs/\Tp ds nf (m+YZ xs) ys
 | [],ys,m=>by simp [Tp,YZ]
 | x::r,ys,m=>by
  rw [K0,Tp,Tp,Co (xs:=r),and_assoc,YZ]
  by_cases h:YA x.op=true
  ·rw [Ze h,Ze h,Vb]
  ·rw [Z7 h,Z7 h,Au]
theorem EP {xs:List Z5} {s:Z5} {m:Nat} (h:Tp ds nf m xs) (hs:fS ds nf (m+YZ xs) s):Tp ds nf m (xs++[s]):=Co.2 ⟨h,hs,True.intro⟩
theorem Dr:∀{xs:List Z5} {k m:Nat} {s:Z5},Tp ds nf m xs->xs[k]? = some s->fS ds nf (m+YZ (xs.take k)) s
 | [],k,m,s,_,h=>by simp at h
 | x::r,0,m,s,hw,h=>by simp at h;subst h;exact hw.1
 | x::r,k+1,m,s,hw,h=>by
  have:=Dr (xs:=r) (k:=k) hw.2 (by simpa using h)
  rw [Bo,YZ]
  by_cases hc:YA x.op=true
  ·rw [Ze hc] at this ⊢;rw [Vb];exact this
  ·rw [Z7 hc] at this ⊢;rw [<-Au];exact this
mutual
theorem Zel:∀(s:Z5) {m:Nat},fS ds nf m s->m+4*s.sz<=900000000->WD ds->wS ds s
 | .mk op num into args kids,m,h,hb,hd=>by
  rw [fS] at h
  obtain ⟨h1,h2,h3,h4,h5,h6,h7,h8,h9,h10,h11,h12⟩:=h
  rw [Z5.sz] at hb
  rw [wS]
  refine ⟨?_,fun hc=>h3 (show 14<=op/\op<=17 by simpa [YA] using hc).1,fun h8'=>⟨?_,h5 h8'⟩,S6 kids h12 (fun k=>?_) hd⟩
  ·rcases h1 with h1|h1
   ·have e1:YA op=false:=by simp [YA];omega
    have e2:XL op=true:=by simp [XL];omega
    rw [e1,e2];rfl
   ·have e1:YA op=true:=by simp [YA];omega
    have e2:XL op=false:=by simp [XL];omega
    rw [e1,e2];rfl
  ·obtain ⟨a,ha⟩:=h6 (.inr h8')
   have:=h2 a (by rw [ha];exact XB.2 rfl)
   exact ⟨a,ha,by omega⟩
  ·have hf:=U4 hd (gI (ZW ds num) k)
   show Tg ds op num m k+4*X7 kids<=900000003
   rw [Tg];split<;>omega
theorem S6:∀(bs:List Z8) {sc:Nat->Nat} {k:Nat},TK ds nf sc k bs->(∀k,sc k+4*X7 bs<=900000003)->WD ds->Ap ds bs
 | [],_,_,_,_,_=>True.intro
 | b::r,sc,k,h,hb,hd=>by
  have hp:=b.sz_eq
  exact ⟨S5 b h.1 (by have:=hb k;rw [X7] at this;omega) hd,S6 r h.2 (fun j=>by have:=hb j;rw [X7] at this;omega) hd⟩
theorem S7:∀(xs:List Z5) {m:Nat},Tp ds nf m xs->m+4*Ye xs<=900000000->WD ds->QZ ds xs
 | [],_,_,_,_=>True.intro
 | s::r,m,h,hb,hd=>by
  rw [Ye] at hb
  have hp:=s.sz_pos
  refine ⟨Zel s h.1 om hd,S7 r h.2 ?_ hd⟩
  split<;>omega
theorem S5:∀(b:Z8) {m:Nat},fB ds nf m b->m+4*b.sz<=900000004->WD ds->wB ds b
 | .mk steps result,m,h,hb,hd=>by
  rw [Z8.sz] at hb
  rw [fB] at h
  rw [wB]
  exact S7 steps h.1 om hd
end
mutual
theorem Za7:∀(s:Z5) {m:Nat},fS ds nf m s->s.rng
 | .mk op num into args kids,m,h=>by
  rw [fS] at h
  obtain ⟨h1,h2,h3,h4,h5,h6,h7,h8,h9,h10,h11,h12⟩:=h
  rw [Z5.rng]
  exact ⟨by omega,Pv kids h12⟩
theorem Pv:∀(bs:List Z8) {sc:Nat->Nat} {k:Nat},TK ds nf sc k bs->Qx bs
 | [],_,_,_=>True.intro
 | b::r,sc,k,h=>⟨IU b h.1,Pv r h.2⟩
theorem Pw:∀(xs:List Z5) {m:Nat},Tp ds nf m xs->Tj xs
 | [],_,_=>True.intro
 | s::r,m,h=>⟨Za7 s h.1,Pw r h.2⟩
theorem IU:∀(b:Z8) {m:Nat},fB ds nf m b->b.rng
 | .mk steps result,m,h=>by rw [fB] at h;rw [Z8.rng];exact Pw steps h.1
end
end
structure FN (n:Zp) (q:Nat):Prop where
 decls:GD n.decls
 len:1<=n.routines.length/\n.routines.length<=4
 sigs:∀r∈n.routines,(r.params,r.result)∈Jo
 lent:∀r∈n.routines,r.lent.length<=3/\∀i∈r.lent,0<=i/\i<r.params.length
 body:∀r∈n.routines,fB n.decls n.routines.length r.params.length r.body/\r.body.sz<=q
theorem FN.ok {n:Zp} {q:Nat} (h:FN n q):X0 n:=
 ⟨h.decls.ok,h.len.2,fun r hr=>(Tz.bd (f:=⟨r.params,r.result,default⟩) (h.sigs r hr)).1,fun r hr=>by have:=(h.lent r hr).1;omega⟩
def Pk (n k:Int):Prop:=0<=k/\(0<n->k<n)/\(n<=0->k=0)
theorem Pk.lt {n k:Int} (h:Pk n k) (hn:0<n):0<=k/\k<n:=⟨h.1,h.2.1 hn⟩
theorem Pk.zero {n:Int}:Pk n 0:=⟨Int.le_refl _,fun h=>h,fun _=>rfl⟩
theorem Pk.rem {n a:Int} (ha:0<=a) (hn:0<n):Pk n (a % n):=⟨Int.emod_nonneg _ om,fun _=>Int.emod_lt_of_pos _ hn,fun _=>by omega⟩
def AD (ds:List Zf):Prop:=ds.length<=8/\∀d∈ds,d.cons.length<=4/\∀c∈d.cons,c.fields.length<=4
theorem GD.ad {ds:List Zf} (h:GD ds):AD ds:=(by decide:∀ds∈A9,ds.length<=8/\∀d∈ds,d.cons.length<=4/\∀c∈d.cons,c.fields.length<=4) ds h
theorem AD.set {ds:List Zf} (h:AD ds) (k:Nat) {d:Zf} (hd:d.cons.length<=4/\∀c∈d.cons,c.fields.length<=4):AD (ds.set k d):=
 ⟨by rw [Uw];exact h.1,fun x hx=>(List.mem_or_eq_of_mem_set hx).elim (h.2 x) fun e=>by rw [e];exact hd⟩
theorem AD.app {ds es:List Zf} (h:AD ds) (hl:ds.length+es.length<=8) (hd:∀d∈es,d.cons.length<=4/\∀c∈d.cons,c.fields.length<=4):AD (ds++es):=
 ⟨by rw [Ys];exact hl,fun x hx=>(X8.1 hx).elim (h.2 x) (hd x)⟩
theorem GD.three:GD [JY,⟨0,0,[]⟩,JZ]:=List.Mem.head _
theorem GD.four:∀{k:Nat} {x:Zf},MP[k]? = some x->GD ([JY,⟨0,0,[]⟩,JZ]++[x])
 | 0,x,h=>by cases h;exact .tail _ (.head _)
 | 1,x,h=>by cases h;exact .tail _ (.tail _ (.head _))
 | 2,x,h=>by cases h;exact .tail _ (.tail _ (.tail _ (.head _)))
 | 3,x,h=>by cases h;exact .tail _ (.tail _ (.tail _ (.tail _ (.head _))))
 | k+4,x,h=>by simp [MP] at h
theorem B3 {l:LI} {z a b:Int} (h:z∈l) (hl:l.all (fun x=>decide (a<=x/\x<=b))=true):a<=z/\z<=b:=by
 have:=Jk.1 hl z h
 exact of_decide_eq_true this
def rk (t:Int):Nat:=if KM t then 0 else 1
theorem IT (t:Int):rk t<=1:=by rw [rk];split<;>omega
theorem Pu {t:Int} (h:KM t):rk t=0:=Ze h
def SE (g:W4) (q:Nat) (e:Z1):Prop:=(∀m,eW g.decls g.funcs.length m e)/\e.sz<=q
def GE (g:W4) (m q:Nat) (e:Z1):Prop:=eW g.decls g.funcs.length m e/\e.sz<=q
theorem SE.ge {g:W4} {q q' m:Nat} {e:Z1} (h:SE g q e) (hq:q<=q'):GE g m q' e:=⟨h.1 m,Vy h.2 hq⟩
theorem GE.le {g:W4} {m q q':Nat} {e:Z1} (h:GE g m q e) (hq:q<=q'):GE g m q' e:=⟨h.1,Vy h.2 hq⟩
theorem EN {m:Nat}:∀{xs:List Z1},(∀e∈xs,e.sz<=m)->Xu xs<=xs.length*m
 | [],_=>Kn _
 | x::r,h=>by
  have h1:=h x (Xh ..)
  have h2:=EN (xs:=r) fun e he=>h e (XA _ he)
  rw [Xu,YS,Qd];omega
theorem Xy {α:Type} {p:α->Prop} {xs:List α} {a:α} (h:∀x∈xs,p x) (ha:p a):∀x∈xs++[a],p x:=fun x hx=>(X8.1 hx).elim (h x) fun q=>by rw [XB.1 q];exact ha
theorem SE.int {g:W4} {z:Int} {q:Nat} (hz:-2000<=z/\z<=2000) (hq:1<=q):SE g q (.mk 0 z []):=⟨fun _=>Z31 hz,by simpa [Z1.sz,Xu] using hq⟩
theorem SE.node {g:W4} {op num:Int} {ys:List Z1} {q k:Nat} (ho:op=6∨op=10) (hn:0<=num/\num<=2000) (hy:∀e∈ys,SE g 1 e) (hl:ys.length<=k) (hk:k<=3) (hq:1+k<=q):SE g q (.mk op num ys):=by
 refine ⟨fun m=>BH om (fun h=>by omega) om om fun e he=>(hy e he).1 m,?_⟩
 have:=EN (xs:=ys) (m:=1) fun e he=>(hy e he).2
 rw [Z1.sz];omega
def Az (ds:List Zf) (t c:Int):Prop:=(0<=c/\c<=9)/\(ZU ds c).length<=3*rk t/\∀u∈ZU ds c,KM u
instance (ds:List Zf) (t c:Int):Decidable (Az ds t c):=inferInstanceAs (Decidable (_/\_/\_))
theorem PT {ds:List Zf} (h:GD ds):∀t∈[(1:Int),2,3,4],∀c∈ZW ds t,(t∈ZU ds c->∀c0,(ZW ds t)[0]? = some c0->Az ds t c0)/\(¬t∈ZU ds c->Az ds t c):=by
 intro t ht c hc
 have k1:=(by decide:∀ds∈A9,∀t∈[(1:Int),2,3,4],∀c∈ZW ds t,(t∈ZU ds c->Az ds t (gI (ZW ds t) 0))/\(¬t∈ZU ds c->Az ds t c)) ds h t ht c hc
 refine ⟨fun q c0 h0=>?_,k1.2⟩
 have:=k1.1 q
 rwa [Vr (i:=0) h0] at this
theorem MM {ds:List Zf} (h:GD ds) {t c:Int} (hc:c∈ZW ds t):t∈[(1:Int),2,3,4]:=by
 obtain ⟨_,h2,_⟩:=h.cons_cases hc
 rcases h2 with rfl|rfl|rfl<;>simp
theorem Zb6 {ds:List Zf} (h:GD ds) {t c c0:Int} (hc:c∈ZW ds t) (ht:t∈ZU ds c) (h0:(ZW ds t)[0]? = some c0):Az ds t c0:=(PT h t (MM h hc) c hc).1 ht c0 h0
theorem Zb5 {ds:List Zf} (h:GD ds) {t c:Int} (hc:c∈ZW ds t) (ht:¬t∈ZU ds c):Az ds t c:=(PT h t (MM h hc) c hc).2 ht
theorem Za6 {ds:List Zf} (h:GD ds) {t:Int} (h0:(ZW ds t).length=0) (ht:0<t):rk t=1:=by
 rw [rk,Z7]
 rintro (q|q|q)
 ·omega
 ·rw [q,h.low.2.1] at h0;cases h0
 ·rw [q,h.low.2.2.2.1] at h0;cases h0
def JO (g:W4) (t i:Int):Prop:=0<=i/\∃f,g.funcs[i.toNat]? = some f/\0<f.params.length/\Ua g.decls (gI f.params ((f.params.length:Int)-1)) f.result=t
theorem JO.lt {g:W4} {t i:Int} (h:JO g t i):0<=i/\i<g.funcs.length:=by
 obtain ⟨h1,f,h2,_⟩:=h
 have:=(Xn.1 h2).1
 omega
theorem JO.mk {g:W4} {t x2:Int} {k:Nat} {f:Func} (hf:g.funcs[k]? = some f) (hl:0<f.params.length) (hx:f.params[f.params.length-1]? = some x2) (ha:Ua g.decls x2 f.result=t):JO g t (k:Int):=by
 refine ⟨by omega,f,by simpa using hf,hl,?_⟩
 rw [Vr (i:=(f.params.length:Int)-1) (by rw [show ((f.params.length:Int)-1).toNat=f.params.length-1 by omega];exact hx)]
 exact ha
theorem JO.low {g:W4} {t i u:Int} {f:Func} {j:Nat} (hg:GP g) (h:JO g t i) (ht:0<t) (hf:g.funcs[i.toNat]? = some f) (hj:j+1<f.params.length) (hu:f.params[j]? = some u):rk u=0:=by
 obtain ⟨_,f',h2,_,h4⟩:=h
 have e:f'=f:=TU (h2.symm.trans hf)
 subst e
 have h5:=(hg.sigs f' (Y4 hf)).clo hg.decls (by rw [h4];exact ht)
 refine Pu (h5 u ?_)
 rw [List.dropLast_eq_take]
 exact Y4 (i:=j) (by rw [List.getElem?_take_of_lt om];exact hu)
end Go.Abs
section
namespace Go.Abs
theorem Jt (b:Nat):bS b=max 4 (10*b-10):=rfl
theorem Js (b:Nat):bC b=max 40 (100*b-100):=rfl
theorem DL {L q b:Nat} (hL:L<=3) (hb:3<=b) (hq:L*q<=b-1):1+L*bS q<=bS b:=by
 rw [Jt,Jt]
 have:L=0∨L=1∨L=2∨L=3:=by omega
 rcases this with rfl|rfl|rfl|rfl<;>omega
theorem Z8s {L q b:Nat} (hL:L<=3) (hb:3<=b) (hq:L*q<=b-2):5+L*bS q<=bS b:=by
 rw [Jt,Jt]
 have:L=0∨L=1∨L=2∨L=3:=by omega
 rcases this with rfl|rfl|rfl|rfl<;>omega
theorem Z8m {b:Nat} (hb:3<=b):1+(bS (b / 2)+bS (b / 2))<=bS b:=by rw [Jt,Jt];omega
theorem SG {b:Nat} (hb:3<=b):5+bS (b-2)<=bS b:=by rw [Jt,Jt];omega
theorem Ai {L q b:Nat} (hL:L<=3) (hb:3<=b) (hq:L*q<=b-1):10+L*bC q<=bC b:=by
 rw [Js,Js]
 have:L=0∨L=1∨L=2∨L=3:=by omega
 rcases this with rfl|rfl|rfl|rfl<;>omega
theorem Z8r {L q b:Nat} (hL:L<=3) (hb:3<=b) (hq:L*q<=b-2):40+L*bC q<=bC b:=by
 rw [Js,Js]
 have:L=0∨L=1∨L=2∨L=3:=by omega
 rcases this with rfl|rfl|rfl|rfl<;>omega
theorem Z8l {b:Nat} (hb:3<=b):10+(bC (b / 2)+bC (b / 2))<=bC b:=by rw [Js,Js];omega
theorem SF {b:Nat} (hb:3<=b):40+bC (b-2)<=bC b:=by rw [Js,Js];omega
theorem Mj (b:Nat):4<=bS b:=by rw [Jt];omega
theorem Mi (b:Nat):40<=bC b:=by rw [Js];omega
theorem TY (L b:Nat):L*(b / L)<=b:=Nat.mul_div_le b L
theorem OQ {k L C:Nat} (h:k<L):(k+1)*C=k*C+C/\(k+1)*C<=L*C:=⟨by rw [Qd,Nat.one_mul],Qt C h⟩
theorem CR {ds:List Zf} {d x:Int} {m k:Nat} (h:(ZW ds d)[k]? = some x):TR ds 8 d m (1+k)=m+(ZU ds x).length:=by
 rw [TR,Z7 om,Ze rfl,Z7 om,Vr (i:=((1+k:Nat):Int)-1) (by rw [show (((1+k:Nat):Int)-1).toNat=k by omega];exact h)]
section
variable {g:W4} {m:Nat}
theorem GE.var {z:Int} {q:Nat} (hz:0<=z/\z<m) (hm:m<=2000) (hq:1<=q):GE g m q (.mk 12 z []):=⟨Z32 hz hm,by simpa [Z1.sz,Xu] using hq⟩
theorem GE.list {ys:List Z1} {L s:Nat} (h:∀e∈ys,GE g m s e) (hl:ys.length=L):Xu ys<=L*s:=by rw [<-hl];exact EN fun e he=>(h e he).2
theorem GE.node {op num:Int} {ys:List Z1} {L s q:Nat} (ho:0<=op/\op<=11/\op≠7/\op≠8) (hc:op=9->0<=num/\num<g.funcs.length) (hn:-2000<=num/\num<=2000) (h:∀e∈ys,GE g m s e) (hl:ys.length=L) (hL:L<=3) (hq:1+L*s<=q):GE g m q (.mk op num ys):=by
 have:=GE.list h hl
 exact ⟨BH ho hc hn om fun e he=>(h e he).1,by rw [Z1.sz];omega⟩
theorem GE.if_ {num:Int} {ys:List Z1} {s q:Nat} (hn:-2000<=num/\num<=2000) (h:∀e∈ys,GE g m s e) (hl:ys.length=3) (hq:1+3*s<=q):GE g m q (.mk 7 num ys):=by
 have:=GE.list h hl
 exact ⟨MY hn hl fun e he=>(h e he).1,by rw [Z1.sz];omega⟩
theorem GE.let_ {a b:Z1} {s q:Nat} (ha:GE g m s a) (hb:GE g (m+1) s b) (hq:1+(s+s)<=q):GE g m q (.mk 13 0 [a,b]):=by
 refine ⟨MZ om ha.1 hb.1,?_⟩
 have h1:=ha.2
 have h2:=hb.2
 simp only [Z1.sz,Xu];omega
theorem GE.two {op num:Int} {a b:Z1} {s1 s2 q:Nat} (ho:0<=op/\op<=11/\op≠7/\op≠8/\op≠9) (hn:-2000<=num/\num<=2000) (ha:GE g m s1 a) (hb:GE g m s2 b) (hq:1+(s1+s2)<=q):GE g m q (.mk op num [a,b]):=by
 refine ⟨BH om (fun h=>by omega) hn (by simp) fun e he=>?_,?_⟩
 ·rcases YG.1 he with rfl|he
  ·exact ha.1
  ·rw [XB.1 he];exact hb.1
 ·have h1:=ha.2
  have h2:=hb.2
  simp only [Z1.sz,Xu];omega
theorem GE.match_ {d:Int} {e:Z1} {ys:List Z1} {L s q:Nat} (hd:-2000<=d/\d<=2000) (he:GE g m 4 e) (hw:QC g.decls g.funcs.length (TR g.decls 8 d m) 1 ys) (hs:∀e∈ys,e.sz<=s) (hl:ys.length=L) (hL:L=(ZW g.decls d).length) (h3:L<=3) (hq:5+L*s<=q):GE g m q (.mk 8 d (e::ys)):=by
 refine ⟨Hx hd om om he.1 hw,?_⟩
 have h1:=EN hs
 rw [hl] at h1
 have h2:=he.2
 rw [Z1.sz,Xu];omega
end
def NL (s:Nat) (left w:Int):Prop:=((s:Int)<=left/\w=left-s)∨(left<s/\w=-1)
end Go.Abs
namespace Go.Abs
theorem BS {L b p pp M:Nat} (hL:L<=3) (hb:3<=b) (h:pp<=p+8) (hp:p+(bC b-1)<=M):pp+L*bC ((b-1) / L)<=M:=by
 have:=Ai hL hb (TY L (b-1))
 omega
end Go.Abs
end
namespace Go.Abs
theorem Z38 (a b:Z1):Xu [a,b]=a.sz+b.sz:=by simp only [Xu];omega
theorem EM (a b c:Z1):Xu [a,b,c]=a.sz+b.sz+c.sz:=by simp only [Xu];omega
theorem Dd:bS 3=20/\bS 4=30/\bS 12=110/\bS 16=150/\bS 18=170/\bC 3=200/\bC 4=300/\bC 16=1500:=by decide
theorem Ek {b:Nat} (h:b<=20):bS b<=190/\bC b<=1900/\(b<=2->bS b<=10):=by rw [Jt,Js];omega
section
variable {g:W4} {m:Nat}
theorem SE.ofs {op num:Int} {ys:List Z1} {q:Nat} (ho:0<=op/\op<=11/\op≠7/\op≠8/\op≠9) (hn:-2000<=num/\num<=2000) (hl:ys.length<=4) (hy:∀e∈ys,∃s,SE g s e) (hq:1+Xu ys<=q):SE g q (.mk op num ys):=
 ⟨fun m=>BH om (fun h=>by omega) hn hl fun e he=>let ⟨_,h⟩:=hy e he;h.1 m,by rw [Z1.sz];exact hq⟩
theorem SE.nil {op num:Int} {q:Nat} (ho:0<=op/\op<=11/\op≠7/\op≠8/\op≠9) (hn:-2000<=num/\num<=2000) (hq:1<=q):SE g q (.mk op num []):=
 SE.ofs ho hn (by simp) (fun e he=>by cases he) (by simpa [Xu] using hq)
theorem SE.two {op num:Int} {a b:Z1} {s1 s2 q:Nat} (ho:0<=op/\op<=11/\op≠7/\op≠8/\op≠9) (hn:-2000<=num/\num<=2000) (ha:SE g s1 a) (hb:SE g s2 b) (hq:1+(s1+s2)<=q):SE g q (.mk op num [a,b]):=by
 refine SE.ofs ho hn (by simp) (fun e he=>?_) ?_
 ·rcases YG.1 he with rfl|he
  ·exact ⟨_,ha⟩
  ·rw [XB.1 he];exact ⟨_,hb⟩
 ·have h1:=ha.2
  have h2:=hb.2
  rw [Z38];omega
theorem SE.three {op num:Int} {a b c:Z1} {s1 s2 s3 q:Nat} (ho:0<=op/\op<=11/\op≠7/\op≠8/\op≠9) (hn:-2000<=num/\num<=2000) (ha:SE g s1 a) (hb:SE g s2 b) (hc:SE g s3 c) (hq:1+(s1+s2+s3)<=q):SE g q (.mk op num [a,b,c]):=by
 refine SE.ofs ho hn (by simp) (fun e he=>?_) ?_
 ·rcases YG.1 he with rfl|he
  ·exact ⟨_,ha⟩
  ·rcases YG.1 he with rfl|he
   ·exact ⟨_,hb⟩
   ·rw [XB.1 he];exact ⟨_,hc⟩
 ·have h1:=ha.2
  have h2:=hb.2
  have h3:=hc.2
  rw [EM];omega
theorem GE.int {z:Int} {q:Nat} (hz:-2000<=z/\z<=2000) (hq:1<=q):GE g m q (.mk 0 z []):=(SE.int (g:=g) (q:=q) hz hq).ge (X4 _)
theorem GE.three {op num:Int} {a b c:Z1} {s1 s2 s3 q:Nat} (ho:0<=op/\op<=11/\op≠8/\op≠9) (hn:-2000<=num/\num<=2000) (ha:GE g m s1 a) (hb:GE g m s2 b) (hc:GE g m s3 c) (hq:1+(s1+s2+s3)<=q):GE g m q (.mk op num [a,b,c]):=by
 have hk:∀e∈[a,b,c],eW g.decls g.funcs.length m e:=fun e he=>by
  rcases YG.1 he with rfl|he
  ·exact ha.1
  ·rcases YG.1 he with rfl|he
   ·exact hb.1
   ·rw [XB.1 he];exact hc.1
 refine ⟨?_,?_⟩
 ·by_cases h7:op=7
  ·subst h7;exact MY hn rfl hk
  ·exact BH om (fun h=>by omega) hn (by simp) hk
 ·have h1:=ha.2
  have h2:=hb.2
  have h3:=hc.2
  rw [Z1.sz,EM];omega
theorem GE.one {op num:Int} {a:Z1} {s1 q:Nat} (ho:0<=op/\op<=11/\op≠7/\op≠8/\op≠9) (hn:-2000<=num/\num<=2000) (ha:GE g m s1 a) (hq:1+s1<=q):GE g m q (.mk op num [a]):=by
 refine ⟨BH om (fun h=>by omega) hn (by simp) fun e he=>?_,?_⟩
 ·rw [XB.1 he];exact ha.1
 ·have h1:=ha.2
  simp only [Z1.sz,Xu];omega
theorem GE.letS {a b:Z1} {s1 s2 q:Nat} (ha:GE g m s1 a) (hb:GE g (m+1) s2 b) (hq:1+(s1+s2)<=q):GE g m q (.mk 13 0 [a,b]):=by
 refine ⟨MZ om ha.1 hb.1,?_⟩
 have h1:=ha.2
 have h2:=hb.2
 simp only [Z1.sz,Xu];omega
theorem GE.matchL (hg:GP g) {e a b:Z1} {s1 s2 s3 q:Nat} (he:GE g m s1 e) (ha:GE g m s2 a) (hb:GE g (m+2) s3 b) (hq:1+(s1+s2+s3)<=q):GE g m q (.mk 8 1 [e,a,b]):=by
 have hl:=hg.decls.low
 refine ⟨Hx om (by simp) (by rw [hl.2.1];rfl) he.1 ⟨?_,?_,True.intro⟩,?_⟩
 ·rw [CR (k:=0) (x:=0) (by rw [hl.2.1];rfl),hl.2.2.2.2.1];exact ha.1
 ·rw [CR (k:=1) (x:=1) (by rw [hl.2.1];rfl),hl.2.2.2.2.2.1];exact hb.1
 ·have h1:=he.2
  have h2:=ha.2
  have h3:=hb.2
  rw [Z1.sz,EM];omega
theorem GE.matchT (hg:GP g) {e a b:Z1} {s1 s2 s3 q:Nat} (he:GE g m s1 e) (ha:GE g m s2 a) (hb:GE g (m+3) s3 b) (hq:1+(s1+s2+s3)<=q):GE g m q (.mk 8 3 [e,a,b]):=by
 have hl:=hg.decls.low
 refine ⟨Hx om (by simp) (by rw [hl.2.2.2.1];rfl) he.1 ⟨?_,?_,True.intro⟩,?_⟩
 ·rw [CR (k:=0) (x:=2) (by rw [hl.2.2.2.1];rfl),hl.2.2.2.2.2.2.1];exact ha.1
 ·rw [CR (k:=1) (x:=3) (by rw [hl.2.2.2.1];rfl),hl.2.2.2.2.2.2.2];exact hb.1
 ·have h1:=he.2
  have h2:=ha.2
  have h3:=hb.2
  rw [Z1.sz,EM];omega
theorem GR {α:Type} {p:α->Prop} {a:α} (h:p a):∀x∈[a],p x:=fun x hx=>by rw [XB.1 hx];exact h
end
structure GF (g:W4):Prop where
 gp:GP g
 body:∀f∈g.funcs,eW g.decls g.funcs.length f.params.length f.body/\f.body.sz<=30
structure GL (ds:List Zf) (k j:Nat) (rq:List Func):Prop where
 len:rq.length=4
 sigs:∀f∈rq,Tz f
 zero:∀f,rq[0]? = some f->f.params.length=0
 body:∀i f,j<=i->i<k->rq[i]? = some f->eW ds k f.params.length f.body/\f.body.sz<=30
theorem GL.gp {ds:List Zf} {k j:Nat} {rq:List Func} (h:GL ds k j rq) (hd:GD ds) (hk:1<=k/\k<=4):GP ⟨ds,rq.take k⟩:=
 ⟨hd,by show 1<=(rq.take k).length/\_;rw [WB,h.len];omega,fun f hf=>h.sigs f (Qc hf)⟩
theorem GL.len_take {ds:List Zf} {k j:Nat} {rq:List Func} (h:GL ds k j rq) (hk:k<=4):(rq.take k).length=k:=by rw [WB,h.len];omega
theorem GL.set {ds:List Zf} {k j:Nat} {rq:List Func} {f:Func} {e:Z1} (h:GL ds k j rq) (hj:1<=j) (hf:rq[j-1]? = some f) (he:eW ds k f.params.length e/\e.sz<=30):GL ds k (j-1) (rq.set (j-1) ⟨f.params,f.result,e⟩):=by
 have hl:=(Xn.1 hf).1
 refine ⟨by rw [Uw];exact h.len,fun x hx=>?_,fun x hx=>?_,fun i x h1 h2 hx=>?_⟩
 ·rcases List.mem_or_eq_of_mem_set hx with hx|rfl
  ·exact h.sigs x hx
  ·exact h.sigs f (Y4 hf)
 ·rw [List.getElem?_set] at hx
  split at hx
  ·rename_i h0
   cases hx
   exact h.zero f (by rw [<-h0];exact hf)
  ·exact h.zero x hx
 ·rw [List.getElem?_set] at hx
  split at hx
  ·cases hx
   exact he
  ·exact h.body i x om h2 hx
theorem GL.done {ds:List Zf} {k:Nat} {rq:List Func} (h:GL ds k 0 rq) (hd:GD ds) (hk:1<=k/\k<=4):GF ⟨ds,rq.take k⟩:=by
 refine ⟨h.gp hd hk,fun f hf=>?_⟩
 show eW ds (rq.take k).length _ _/\_
 rw [h.len_take hk.2]
 obtain ⟨i,hi⟩:=LN hf
 have hi2:i<(rq.take k).length:=(Xn.1 hi).1
 rw [h.len_take hk.2] at hi2
 rw [List.getElem?_take_of_lt hi2] at hi
 exact h.body i f om hi2 hi
theorem Lc {l:List Func} {f:Func} {k:Nat} (h:l[k]? = some f) (hl:l.all (fun f=>decide ((f.params,f.result)∈Jo))=true):Tz f:=show (f.params,f.result)∈Jo from of_decide_eq_true (Jk.1 hl f (Y4 h))
theorem GL.start {ds:List Zf} {k:Nat} {e:Z1} {a b c:Func} (ha:Tz a) (hb:Tz b) (hc:Tz c):GL ds k k [⟨[],0,e⟩,a,b,c]:=by
 refine ⟨rfl,fun f hf=>?_,fun f hf=>?_,fun i f h1 h2=>by omega⟩
 ·rcases YG.1 hf with rfl|hf
  ·exact List.Mem.head _
  ·rcases YG.1 hf with rfl|hf
   ·exact ha
   ·rcases YG.1 hf with rfl|hf
    ·exact hb
    ·rw [XB.1 hf];exact hc
 ·cases hf;rfl
theorem Z93 {l:LI} {k:Nat} {a b:Nat} (h:(k:Int)∈l) (hl:l.all (fun x=>decide ((a:Int)<=x/\x<=b))=true):a<=k/\k<=b:=by
 have:=of_decide_eq_true (Jk.1 hl _ h)
 omega
mutual
def QO (p:Int->Prop):Z5->Prop
 | .mk op _ _ _ kids=>p op/\QN p kids
def QN (p:Int->Prop):List Z8->Prop
 | []=>True
 | b::r=>Vm p b/\QN p r
def TO (p:Int->Prop):List Z5->Prop
 | []=>True
 | s::r=>QO p s/\TO p r
def Vm (p:Int->Prop):Z8->Prop
 | .mk steps _=>TO p steps
end
section
variable {p q:Int->Prop}
theorem DQ (s:Z5):QO p s↔p s.op/\QN p s.kids:=by cases s;rw [QO];rfl
theorem FB (b:Z8):Vm p b↔TO p b.steps:=by cases b;rw [Vm];rfl
theorem CK:∀{xs:List Z8},QN p xs↔∀b∈xs,Vm p b
 | []=>by simp [QN]
 | b::r=>by rw [QN,CK];simp
theorem BV:∀{xs:List Z5},TO p xs↔∀b∈xs,QO p b
 | []=>by simp [TO]
 | b::r=>by rw [TO,BV];simp
theorem FC {xs ys:List Z5}:TO p (xs++ys)↔TO p xs/\TO p ys:=by simp only [BV,X8];exact ⟨fun h=>⟨fun b hb=>h b (.inl hb),fun b hb=>h b (.inr hb)⟩,fun h b hb=>hb.elim (h.1 b) (h.2 b)⟩
theorem P7 {xs:List Z8} {b:Z8} (h:QN p xs) (hb:Vm p b):QN p (xs++[b]):=CK.2 (Xy (CK.1 h) hb)
theorem FD {xs:List Z5} {b:Z5} (h:TO p xs) (hb:QO p b):TO p (xs++[b]):=BV.2 (Xy (BV.1 h) hb)
end
def WK (op:Int):Prop:=op<=11
def Vz (op:Int):Prop:=op<=15
end Go.Abs
section
namespace Go.Abs
structure LW (ds:List Zf) (nf q:Nat) (e:Z1) (ys:List Z5) (v:Int):Prop where
 fs:Tp ds nf q ys
 v:0<=v/\v<(q+YZ ys:Nat)
 sz:Ye ys<=6*e.sz
 op:TO WK ys
theorem LW.dn {ds:List Zf} {nf q:Nat} {e:Z1} {ys:List Z5} {v:Int} (h:LW ds nf q e ys v):YZ ys<=6*e.sz/\ys.length<=6*e.sz:=by
 have h1:=BE ys
 have h2:=KS ys
 have h3:=h.sz
 omega
structure LB (ds:List Zf) (nf q:Nat) (e:Z1) (b:Z8):Prop where
 fb:fB ds nf q b
 sz:b.sz<=1+6*e.sz
 op:Vm WK b
section
variable {ds:List Zf} {nf q:Nat}
theorem Df:∀xs ys:List Z8,X7 (xs++ys)=X7 xs+X7 ys
 | [],ys=>by simp [X7]
 | x::r,ys=>by rw [K0,X7,X7,Df r];omega
theorem LW.block {e:Z1} {ys:List Z5} {v:Int} (h:LW ds nf q e ys v):LB ds nf q e ⟨ys,v⟩:=
 ⟨by rw [fB];exact ⟨h.fs,h.v⟩,by rw [Z8.sz];have:=h.sz;omega,by rw [Vm];exact h.op⟩
theorem LW.var {e:Z1} {v:Int} (hv:0<=v/\v<q):LW ds nf q e [] v:=⟨True.intro,by simpa [YZ] using hv,by simp [Ye],True.intro⟩
theorem LW.let_ {e a b:Z1} {ys zs:List Z5} {v1 v2:Int} (ha:LW ds nf q a ys v1) (hb:LW ds nf (q+YZ ys) b zs v2) (he:a.sz+b.sz<e.sz):LW ds nf q e (ys++zs) v2:=by
 refine ⟨Co.2 ⟨ha.fs,hb.fs⟩,by rw [J8,<-Au];exact hb.v,?_,FC.2 ⟨ha.op,hb.op⟩⟩
 have h1:=ha.sz
 have h2:=hb.sz
 rw [Ty];omega
theorem Dk {ys:List Z5} {s:Z5} (h:YA s.op=false):YZ (ys++[s])=YZ ys+1:=by
 rw [J8]
 simp [YZ,h]
theorem LW.node {e:Z1} {ys:List Z5} {as1:LI} (ho:0<=e.op/\e.op<=11/\e.op≠7/\e.op≠8) (hc:e.op=9->0<=e.num/\e.num<nf) (hn:-2000<=e.num/\e.num<=2000) (hf:Tp ds nf q ys) (ha:∀a∈as1,0<=a/\a<(q+YZ ys:Nat)) (hl:as1.length<=4) (hs:Ye ys<=6*Xu e.kids) (hop:TO WK ys) :
  LW ds nf q e (ys++[⟨e.op,e.num,0,as1,[]⟩]) ((q+YZ ys:Nat):Int):=by
 have hcb:YA e.op=false:=by simp [YA];omega
 refine ⟨EP hf ?_,?_,?_,FD hop (by rw [QO];exact ⟨by show e.op<=11;omega,True.intro⟩)⟩
 ·rw [fS]
  exact ⟨.inl ⟨by omega,by omega⟩,ha,fun h=>by omega,fun h=>by omega,fun h=>by omega,fun h=>by omega,hc,hn,by omega,hl,fun _=>rfl,True.intro⟩
 ·rw [Dk (show YA (Z5.mk e.op e.num 0 as1 []).op=false from hcb)];omega
 ·rw [Ty,e.sz_eq]
  simp only [Ye,Z5.sz,X7]
  omega
theorem LW.branch {e:Z1} {ys:List Z5} {v:Int} {bs:List Z8} {s0 sr:Nat} (ho:e.op=7∨e.op=8) (h7:e.op=7->bs.length=2) (h8:e.op=8->bs.length=(ZW ds e.num).length) (hn:-2000<=e.num/\e.num<=2000) (hf:Tp ds nf q ys) (hv:0<=v/\v<(q+YZ ys:Nat))
  (hb:TK ds nf (Tg ds e.op e.num (q+YZ ys)) 0 bs) (hl:bs.length<=3) (h0:Ye ys<=6*s0) (h1:X7 bs<=bs.length+6*sr) (hs:s0+sr<=Xu e.kids) (hop:TO WK ys) (hob:QN WK bs):LW ds nf q e (ys++[⟨e.op,e.num,0,[v],bs⟩]) ((q+YZ ys:Nat):Int):=by
 have hcb:YA e.op=false:=by simp [YA];omega
 refine ⟨EP hf ?_,?_,?_,FD hop (by rw [QO];exact ⟨by show e.op<=11;omega,hob⟩)⟩
 ·rw [fS]
  exact ⟨.inl ⟨by omega,by omega⟩,fun a ha=>by rw [XB.1 ha];exact hv,fun h=>by omega,h7,h8,fun _=>⟨v,rfl⟩,fun h=>by omega,hn,by omega,by simp,fun h=>by omega,hb⟩
 ·rw [Dk (show YA (Z5.mk e.op e.num 0 [v] bs).op=false from hcb)];omega
 ·rw [Ty,e.sz_eq]
  simp only [Ye,Z5.sz,YS,Xt]
  omega
theorem PR {ds:List Zf} {op num:Int} {m k:Nat} (h:op=13):TR ds op num m k=m+k:=Ze h
theorem Zb3 {ds:List Zf} {op num:Int} {m:Nat} (h:op≠13):TR ds op num m 0=m:=by simp [TR,h]
theorem PS {ds:List Zf} {op num:Int} {m k:Nat} (h:op≠13/\op≠8):TR ds op num m k=m:=by simp [TR,h.1,h.2]
theorem Zb4 {ds:List Zf} {op num x:Int} {m k j:Nat} (h:op=8) (hk:k=j+1) (hx:(ZW ds num)[j]? = some x):TR ds op num m k=m+(ZU ds x).length:=by
 subst h;subst hk;rw [Nat.add_comm j 1];exact CR hx
theorem L7 {ds:List Zf} {op num x:Int} {m j:Nat} (h:op=8) (hx:(ZW ds num)[j]? = some x):Tg ds op num m j=m+(ZU ds x).length:=by
 rw [Tg,Ze h,Vr (i:=(j:Int)) (by simpa using hx)]
theorem L8 {ds:List Zf} {op num:Int} {m j:Nat} (h:op≠8):Tg ds op num m j=m:=Z7 h
theorem AL {xs:List Z1} {k:Nat} {e:Z1} (h:xs[k]? = some e):Xu (xs.take (k+1))=Xu (xs.take k)+e.sz:=by rw [V4 h,Dn,Xu,Xu];rfl
theorem A6 {xs:List Z1} (k:Nat):Xu (xs.take k)<=Xu xs:=by
 have h:=Ym Xu (T1 k xs)
 rw [Dn] at h;omega
theorem N6 {xs:List Z1} {a b:Z1} (ha:xs[0]? = some a) (hb:xs[1]? = some b):a.sz+b.sz<=Xu xs:=by
 have h1:Xu (xs.take 1)=Xu (xs.take 0)+a.sz:=AL ha
 have h2:Xu (xs.take 2)=Xu (xs.take 1)+b.sz:=AL hb
 have h3:=A6 (xs:=xs) 2
 omega
theorem Ea {us:LI} {v:Int} {d:Nat} (hu:∀a∈us,0<=a/\a<(q:Int)) (hv:0<=v/\v<(q+d:Nat)):∀a∈us++[v],0<=a/\a<((q+d:Nat):Int):=
 Xy (fun a ha=>by have:=hu a ha;omega) hv
theorem Gh {us:LI} {d:Nat} (hu:∀a∈us,0<=a/\a<(q:Int)):∀a∈us,0<=a/\a<((q+d:Nat):Int):=fun a ha=>by have:=hu a ha;omega
theorem Ze3 {us ns:LI} {d mf:Nat} (hu:∀a∈us,0<=a/\a<(q:Int)) (hn:∀i∈ns,((q+d:Nat):Int)<=i/\i<((q+d:Nat):Int)+mf):∀a∈us++ns,0<=a/\a<((q+d+mf:Nat):Int):=fun a ha=>by
 rcases X8.1 ha with h|h
 ·have:=hu a h;omega
 ·have:=hn a h;omega
theorem Ep:∀bs:List Z8,bs.length<=X7 bs
 | []=>X4 _
 | b::r=>by have:=Ep r;have:=b.sz_pos;rw [X7,YS];omega
end
end Go.Abs
namespace Go.Abs
structure RF (ds:List Zf) (nf q:Nat) (p:Int->Prop) (r:Yg):Prop where
 sig:(r.params,r.result)∈Jo
 lent:r.lent.length<=3/\∀i∈r.lent,0<=i/\i<r.params.length
 body:fB ds nf r.params.length r.body/\r.body.sz<=q
 op:Vm p r.body
structure FO (n:Zp) (q:Nat) (p:Int->Prop):Prop where
 fn:FN n q
 op:∀r∈n.routines,Vm p r.body
theorem FO.rf {n:Zp} {q:Nat} {p:Int->Prop} (h:FO n q p) {r:Yg} (hr:r∈n.routines):RF n.decls n.routines.length q p r:=⟨h.fn.sigs r hr,h.fn.lent r hr,h.fn.body r hr,h.op r hr⟩
theorem FO.all {n:Zp} {q:Nat} {p:Int->Prop} (hd:GD n.decls) (hl:1<=n.routines.length/\n.routines.length<=4) (h:∀r∈n.routines,RF n.decls n.routines.length q p r):FO n q p:=
 ⟨⟨hd,hl,fun r hr=>(h r hr).sig,fun r hr=>(h r hr).lent,fun r hr=>(h r hr).body⟩,fun r hr=>(h r hr).op⟩
structure RN (ds:List Zf) (nf:Nat) (r:Yg):Prop where
 sig:(r.params,r.result)∈Jo
 lent:r.lent=[]
 body:fB ds nf r.params.length r.body/\r.body.sz<=181
 op:Vm WK r.body
theorem RN.all {n:Zp} {q:Nat} (hd:GD n.decls) (hl:1<=n.routines.length/\n.routines.length<=4) (h:∀r∈n.routines,RN n.decls n.routines.length r) (hq:181<=q):FO n q WK:=
 FO.all hd hl fun r hr=>⟨(h r hr).sig,by rw [(h r hr).lent];exact ⟨by simp,fun i hi=>by cases hi⟩,⟨(h r hr).body.1,Vy (h r hr).body.2 hq⟩,(h r hr).op⟩
end Go.Abs
namespace Go.Abs
theorem RN.of {ds:List Zf} {nf:Nat} {ps:LI} {rt:Int} {b:Z8} {e:Z1} (hs:(ps,rt)∈Jo) (h:LB ds nf ps.length e b) (he:e.sz<=30):RN ds nf ⟨ps,[],rt,Z8.mk b.steps b.result⟩:=by
 have e1:Z8.mk b.steps b.result=b:=by cases b;rfl
 rw [e1]
 exact ⟨hs,rfl,⟨h.fb,by have:=h.sz;show b.sz<=181;omega⟩,h.op⟩
end Go.Abs
end
namespace Go.Abs
theorem Lo:∀{xs:List Z5} {s:Z5},s∈xs->s.sz<=Ye xs
 | [],s,h=>by cases h
 | x::r,s,h=>by
  rw [Ye]
  rcases YG.1 h with rfl|h
  ·omega
  ·have:=Lo h;omega
theorem GZ:∀{xs:List Z8} {b:Z8},b∈xs->b.sz<=X7 xs
 | [],b,h=>by cases h
 | x::r,b,h=>by
  rw [X7]
  rcases YG.1 h with rfl|h
  ·omega
  ·have:=GZ h;omega
structure LC (n:Zp) (k:Nat) (xs:List LI):Prop where
 len:xs.length=k
 ok:∀(i:Nat) (l:LI),xs[i]? = some l->l.length<=3/\∀r,n.routines[i]? = some r->∀v∈l,0<=v/\v<(r.params.length:Int)
theorem LC.nil {n:Zp}:LC n 0 []:=⟨rfl,fun i l h=>by simp at h⟩
theorem LC.snoc {n:Zp} {k:Nat} {xs:List LI} {l:LI} (h:LC n k xs) (hl:l.length<=3) (hv:∀r,n.routines[k]? = some r->∀v∈l,0<=v/\v<(r.params.length:Int)):LC n (k+1) (xs++[l]):=by
 refine ⟨by rw [Ys,h.len];rfl,fun i l' hi=>?_⟩
 by_cases hk:i<xs.length
 ·rw [D0 hk] at hi
  exact h.ok i l' hi
 ·rw [D3 om] at hi
  have h0:i-xs.length=0:=by
   cases e:i-xs.length with
   | zero=>rfl
   | succ q=>rw [e] at hi;simp at hi
  rw [h0] at hi
  cases hi
  have e:i=k:=by have:=h.len;omega
  subst e
  exact ⟨hl,hv⟩
def U6:LI->Int->LI
 | [],y=>[y]
 | x::r,y=>if x>y then y::x::r else if x=y then x::r else x::U6 r y
def Q4 (d:Bool) (xs:LI) (y:Int):LI:=if d=true then xs else U6 xs y
theorem Fh {xs:LI} {y:Int}:Q4 true xs y=xs:=rfl
theorem Fg {xs:LI} {y:Int}:Q4 false xs y=U6 xs y:=rfl
theorem O6 {xs acc r:LI} {y x:Int} {k:Nat} {d:Bool} (hx:xs[k]? = some x) (hd:d=true) (h:acc++Q4 d (xs.drop k) y=r):(acc++[x])++Q4 d (xs.drop (k+1)) y=r:=by
 subst hd
 rw [Fh,Y5 hx] at h
 rw [Fh,<-h];simp
theorem Z78 {xs acc r:LI} {y x:Int} {k:Nat} {d:Bool} (hx:xs[k]? = some x) (hd:¬d=true) (hl:¬x>=y) (h:acc++Q4 d (xs.drop k) y=r):(acc++[x])++Q4 d (xs.drop (k+1)) y=r:=by
 have hd:=J2.2 hd
 subst hd
 rw [Fg,Y5 hx,U6,Z7 om,Z7 om] at h
 rw [Fg,<-h];simp
theorem Z79 {xs acc r:LI} {y x:Int} {k:Nat} {d:Bool} (hx:xs[k]? = some x) (hd:¬d=true) (hl:x>y) (h:acc++Q4 d (xs.drop k) y=r):((acc++[y])++[x])++Q4 true (xs.drop (k+1)) y=r:=by
 have hd:=J2.2 hd
 subst hd
 rw [Fg,Y5 hx,U6,Ze hl] at h
 rw [Fh,<-h];simp
theorem Z7a {xs acc r:LI} {y x:Int} {k:Nat} {d:Bool} (hx:xs[k]? = some x) (hd:¬d=true) (hl:x=y) (h:acc++Q4 d (xs.drop k) y=r):(acc++[x])++Q4 true (xs.drop (k+1)) y=r:=by
 have hd:=J2.2 hd
 subst hd
 rw [Fg,Y5 hx,U6,Z7 om,Ze hl] at h
 rw [Fh,<-h];simp
theorem Z77 {xs acc acc2 r:LI} {y x:Int} {k:Nat} {d d2:Bool} (hx:xs[k]? = some x) (h:acc++Q4 d (xs.drop k) y=r)
  (hc:(acc2=acc/\d2=d/\(d=true∨¬x>=y))∨(acc2=acc++[y]/\d2=true/\¬d=true/\x>y)∨(acc2=acc/\d2=true/\¬d=true/\x=y)):(acc2++[x])++Q4 d2 (xs.drop (k+1)) y=r:=by
 rcases hc with ⟨rfl,rfl,h3⟩|⟨rfl,rfl,h3,h4⟩|⟨rfl,rfl,h3,h4⟩
 ·rcases h3 with h3|h3
  ·exact O6 hx h3 h
  ·by_cases q:d2=true
   ·exact O6 hx q h
   ·exact Z78 hx q h3 h
 ·exact Z79 hx h3 h4 h
 ·exact Z7a hx h3 h4 h
theorem Z76 {xs acc r:LI} {y:Int} {k:Nat} {d:Bool} (hk:xs.length<=k) (h:acc++Q4 d (xs.drop k) y=r):(if d=true then acc else acc++[y])=r:=by
 rw [Xe hk] at h
 by_cases q:d=true
 ·rw [Q4,Ze q,JM] at h;rw [Ze q];exact h
 ·rw [Q4,Z7 q,U6] at h;rw [Z7 q];exact h
theorem Cy:∀(xs:LI) (y:Int),(U6 xs y).length<=xs.length+1
 | [],y=>X4 _
 | x::r,y=>by
  have:=Cy r y
  rw [U6]
  split
  ·simp
  ·split
   ·simp
   ·simp only [YS];omega
theorem DD:∀{xs:LI} {y z:Int},z∈U6 xs y↔z∈xs∨z=y
 | [],y,z=>by simp [U6]
 | x::r,y,z=>by
  rw [U6]
  split
  ·simp only [YG];exact ⟨fun h=>h.elim .inr .inl,fun h=>h.elim .inr .inl⟩
  ·split
   ·rename_i h;subst h;simp only [YG];exact ⟨fun h=>.inl h,fun h=>h.elim id .inl⟩
   ·simp only [YG,DD (xs:=r)];exact ⟨fun h=>by rcases h with h|h|h<;>simp [h],fun h=>by rcases h with (h|h)|h<;>simp [h]⟩
def Bu (xs:LI):Prop:=xs.Pairwise (·<·)
theorem O5:∀{xs:LI} {y:Int},Bu xs->Bu (U6 xs y)
 | [],y,_=>by simp [U6,Bu]
 | x::r,y,h=>by
  obtain ⟨h1,h2⟩:=WJ.1 h
  rw [U6]
  split
  ·rename_i q
   refine WJ.2 ⟨fun z hz=>?_,h⟩
   rcases YG.1 hz with rfl|hz
   ·omega
   ·have:=h1 z hz;omega
  ·split
   ·exact h
   ·refine WJ.2 ⟨fun z hz=>?_,O5 h2⟩
    rcases DD.1 hz with hz|rfl
    ·exact h1 z hz
    ·omega
def TP:LI->Int->LI
 | [],_=>[]
 | x::r,y=>if x=y then TP r y else x::TP r y
theorem DS:∀(xs:LI) (y:Int),(TP xs y).length<=xs.length
 | [],y=>X4 _
 | x::r,y=>by
  have:=DS r y
  rw [TP]
  split
  ·rw [YS];omega
  ·rw [YS,YS];omega
theorem CM:∀{xs:LI} {y z:Int},z∈TP xs y->z∈xs
 | [],y,z,h=>by rw [TP] at h;exact h
 | x::r,y,z,h=>by
  rw [TP] at h
  split at h
  ·exact XA _ (CM h)
  ·rcases YG.1 h with rfl|h
   ·exact Xh ..
   ·exact XA _ (CM h)
theorem Z9q {xs acc r:LI} {y x:Int} {k:Nat} (hx:xs[k]? = some x) (h:acc++TP (xs.drop k) y=r):(if x≠y then acc++[x] else acc)++TP (xs.drop (k+1)) y=r:=by
 rw [Y5 hx,TP] at h
 by_cases q:x=y
 ·rw [Ze q] at h;rw [Z7 (fun z=>z q)];exact h
 ·rw [Z7 q] at h;rw [Ze q,<-h];simp
theorem Z9p {xs acc r:LI} {y:Int} {k:Nat} (hk:xs.length<=k) (h:acc++TP (xs.drop k) y=r):acc=r:=by
 rw [Xe hk,TP,JM] at h;exact h
def UG (n:Int) (xs:LI) (a:Int):LI:=if 0<=a/\a<n then U6 xs a else xs
def Qr (n:Int):LI->LI->LI
 | [],xs=>xs
 | a::r,xs=>Qr n r (UG n xs a)
mutual
def Ji (n:Int):Z5->LI->LI
 | .mk op _ _ args kids,xs=>if YA op=true then xs else KW n kids (Qr n args xs)
def KW (n:Int):List Z8->LI->LI
 | [],xs=>xs
 | b::r,xs=>KW n r (UY n b xs)
def UZ (n:Int):List Z5->LI->LI
 | [],xs=>xs
 | s::r,xs=>UZ n r (Ji n s xs)
def UY (n:Int):Z8->LI->LI
 | .mk steps result,xs=>UG n (UZ n steps xs) result
end
section
variable {n:Int}
theorem RY (s:Z5) (xs:LI):Ji n s xs=if YA s.op=true then xs else KW n s.kids (Qr n s.args xs):=by cases s;rw [Ji];rfl
theorem RW (b:Z8) (xs:LI):UY n b xs=UG n (UZ n b.steps xs) b.result:=by cases b;rw [UY];rfl
theorem Gg (xs:LI) (a:Int):(UG n xs a).length<=xs.length+1:=by
 rw [UG];split
 ·exact Cy xs a
 ·omega
theorem RU:∀(as1 xs:LI),(Qr n as1 xs).length<=xs.length+as1.length
 | [],xs=>X4 _
 | a::r,xs=>by
  have h1:=RU r (UG n xs a)
  have h2:=Gg (n:=n) xs a
  rw [Qr,YS];omega
mutual
theorem RZ:∀(s:Z5) (xs:LI),(Ji n s xs).length<=xs.length+s.sz
 | .mk op num into args kids,xs=>by
  have h1:=RX kids (Qr n args xs)
  have h2:=RU (n:=n) args xs
  rw [Ji,Z5.sz];split<;>omega
theorem RX:∀(bs:List Z8) (xs:LI),(KW n bs xs).length<=xs.length+X7 bs
 | [],xs=>X4 _
 | b::r,xs=>by
  have h1:=RX r (UY n b xs)
  have h2:=Gf b xs
  rw [KW,X7];omega
theorem LE:∀(bs:List Z5) (xs:LI),(UZ n bs xs).length<=xs.length+Ye bs
 | [],xs=>X4 _
 | b::r,xs=>by
  have h1:=LE r (Ji n b xs)
  have h2:=RZ b xs
  rw [UZ,Ye];omega
theorem Gf:∀(b:Z8) (xs:LI),(UY n b xs).length<=xs.length+b.sz
 | .mk steps result,xs=>by
  have h1:=LE steps xs
  have h2:=Gg (n:=n) (UZ n steps xs) result
  rw [UY,Z8.sz];omega
end
theorem Zdy {as1 ys r:LI} {k:Nat} {a:Int} (h:as1[k]? = some a) (ha:Qr n (as1.drop k) ys=r):Qr n (as1.drop (k+1)) (UG n ys a)=r:=by
 rw [Y5 h,Qr] at ha;exact ha
theorem Ze0 {bs:List Z8} {ys r:LI} {k:Nat} {b:Z8} (h:bs[k]? = some b) (ha:KW n (bs.drop k) ys=r):KW n (bs.drop (k+1)) (UY n b ys)=r:=by
 rw [Y5 h,KW] at ha;exact ha
theorem Ze2 {bs:List Z5} {ys r:LI} {k:Nat} {b:Z5} (h:bs[k]? = some b) (ha:UZ n (bs.drop k) ys=r):UZ n (bs.drop (k+1)) (Ji n b ys)=r:=by
 rw [Y5 h,UZ] at ha;exact ha
theorem Zdx {as1 ys r:LI} {k:Nat} (h:as1.length<=k) (ha:Qr n (as1.drop k) ys=r):ys=r:=by rw [Xe h,Qr] at ha;exact ha
theorem Zdz {bs:List Z8} {ys r:LI} {k:Nat} (h:bs.length<=k) (ha:KW n (bs.drop k) ys=r):ys=r:=by rw [Xe h,KW] at ha;exact ha
theorem Ze1 {bs:List Z5} {ys r:LI} {k:Nat} (h:bs.length<=k) (ha:UZ n (bs.drop k) ys=r):ys=r:=by rw [Xe h,UZ] at ha;exact ha
end
theorem LQ {s:Z5} (h:Cn s):∃a,s.args=[a]:=⟨gI s.args 0,by have:=Ym Z5.args h;exact this⟩
section
variable {xs:LI} {v:Int} {lo hi:Nat}
end
section
variable {m:Int} {xs du dr:List Z5} {lf:LI} {d:Bool} {k:Nat} {s:Z5} {W:List Z5 × List Z5 × LI}
end
def YV:List Z5->Nat
 | []=>0
 | s::r=>if YA s.op=true then YV r+1 else 0
def W5 (op x:Int):List Z5->Int->Int
 | [],_=>-1
 | s::r,k=>if s.op=op/\gI s.args 0=x then k else W5 op x r (k+1)
def Ka (many:Nat) (s:Z5):Prop:=(s.op=6/\s.into=0)/\s.args.length=many
instance (many:Nat) (s:Z5):Decidable (Ka many s):=by unfold Ka;infer_instance
def Wq (many:Nat):List Z5->Int->Int
 | [],_=>-1
 | s::r,k=>if Ka many s then k else Wq many r (k+1)
def AP (xs:List Z5) (i:Int):Z5:=xs[i.toNat]?.getD (Zx 0 0)
def QI (v:Int) (s:Z5):Z5:=.mk s.op s.num v s.args s.kids
def Vv (xs:List Z5) (x:Int):Int:=W5 16 x (xs.take (YV xs)) 0
def WE (xs:List Z5) (many:Nat):Int:=Wq many (xs.drop (YV xs)) (YV xs)
def Us (xs:List Z5) (x:Int) (many:Nat):List Z5:=
 if Vv xs x<0∨WE xs many<0 then xs else (xs.set (Vv xs x).toNat (Zx 17 x)).set (WE xs many).toNat (QI (1+x) (AP xs (WE xs many)))
def Ug (b:Z8) (x:Int) (many:Nat):Z8:=.mk (Us b.steps x many) b.result
mutual
def QS (ds:List Zf) (kept:LI):Z5->Z5
 | .mk op num into args kids=>.mk op num into args (UV ds kept op num args kids 0)
def UV (ds:List Zf) (kept:LI) (op num:Int) (args:LI):List Z8->Nat->List Z8
 | [],_=>[]
 | b::r,k=>(if op=8/\¬gI args 0∈kept then Ug (WI ds (if Vv b.steps (gI args 0)<0∨WE b.steps (UQ ds num k).length<0 then kept else gI args 0::kept) b) (gI args 0) (UQ ds num k).length else WI ds kept b)::UV ds kept op num args r (k+1)
def UW (ds:List Zf) (kept:LI):List Z5->List Z5
 | []=>[]
 | s::r=>QS ds kept s::UW ds kept r
def WI (ds:List Zf) (kept:LI):Z8->Z8
 | .mk steps result=>.mk (UW ds kept steps) result
end
def Fm (ds:List Zf) (kept:LI) (num:Int) (args:LI) (k:Nat) (b:Z8):LI:=if Vv b.steps (gI args 0)<0∨WE b.steps (UQ ds num k).length<0 then kept else gI args 0::kept
def TQ (ds:List Zf) (kept:LI) (op num:Int) (args:LI) (k:Nat) (b:Z8):Z8:=if op=8/\¬gI args 0∈kept then Ug (WI ds (Fm ds kept num args k b) b) (gI args 0) (UQ ds num k).length else WI ds kept b
theorem B7 (ds:List Zf) (kept:LI) (s:Z5):QS ds kept s=.mk s.op s.num s.into s.args (UV ds kept s.op s.num s.args s.kids 0):=by cases s;rw [QS];rfl
theorem FI (ds:List Zf) (kept:LI) (b:Z8):WI ds kept b=.mk (UW ds kept b.steps) b.result:=by cases b;rw [WI];rfl
theorem FK (ds:List Zf) (kept:LI):∀xs:List Z5,UW ds kept xs=xs.map (QS ds kept)
 | []=>rfl
 | s::r=>by rw [UW,FK ds kept r];rfl
section
variable {ds:List Zf} {kept:LI}
theorem Zaq {xs acc r:List Z5} {k:Nat} {s:Z5} (h:xs[k]? = some s) (ha:acc++UW ds kept (xs.drop k)=r) :
  (acc++[.mk s.op s.num s.into s.args (UV ds kept s.op s.num s.args s.kids 0)])++UW ds kept (xs.drop (k+1))=r:=by
 rw [Y5 h,UW,B7] at ha
 rw [<-ha];simp
theorem Zap {xs acc r:List Z5} {k:Nat} (h:xs.length<=k) (ha:acc++UW ds kept (xs.drop k)=r):acc=r:=by
 rw [Xe h,UW,JM] at ha;exact ha
theorem Zak {op num:Int} {args:LI} {bs acc r:List Z8} {k:Nat} {b:Z8} (h:bs[k]? = some b) (ha:acc++UV ds kept op num args (bs.drop k) k=r) :
  (acc++[TQ ds kept op num args k b])++UV ds kept op num args (bs.drop (k+1)) (k+1)=r:=by
 rw [Y5 h,UV] at ha
 rw [<-ha,TQ,Fm];simp
theorem Zaj {op num:Int} {args:LI} {bs acc r:List Z8} {k j:Nat} (h:bs.length<=k) (ha:acc++UV ds kept op num args (bs.drop k) j=r):acc=r:=by
 rw [Xe h,UV,JM] at ha;exact ha
end
section
variable {ds:List Zf}
mutual
theorem Zan:∀(s:Z5) {K K':LI},(∀z,z∈K↔z∈K')->QS ds K s=QS ds K' s
 | .mk op num into args kids,K,K',h=>by rw [QS,QS,PG kids h]
theorem PG:∀(bs:List Z8) {K K':LI} {op num:Int} {args:LI} {k:Nat},(∀z,z∈K↔z∈K')->UV ds K op num args bs k=UV ds K' op num args bs k
 | [],_,_,_,_,_,_,_=>by rw [UV,UV]
 | b::r,K,K',op,num,args,k,h=>by
  have h1:=PG r (op:=op) (num:=num) (args:=args) (k:=k+1) h
  have h2:=IY b h
  have h3:∀z,z∈(gI args 0::K)↔z∈(gI args 0::K'):=fun z=>by rw [YG,YG,h z]
  have h4:=IY b h3
  rw [UV,UV,h1,h2]
  congr 1
  by_cases hq:op=8/\¬gI args 0∈K
  ·have hq':op=8/\¬gI args 0∈K':=⟨hq.1,fun z=>hq.2 ((h _).2 z)⟩
   rw [Ze hq,Ze hq']
   congr 1
   split
   ·exact h2
   ·exact h4
  ·have hq':¬(op=8/\¬gI args 0∈K'):=fun z=>hq ⟨z.1,fun y=>z.2 ((h _).1 y)⟩
   rw [Z7 hq,Z7 hq']
theorem PI:∀(xs:List Z5) {K K':LI},(∀z,z∈K↔z∈K')->UW ds K xs=UW ds K' xs
 | [],_,_,_=>by rw [UW,UW]
 | s::r,K,K',h=>by rw [UW,UW,Zan s h,PI r h]
theorem IY:∀(b:Z8) {K K':LI},(∀z,z∈K↔z∈K')->WI ds K b=WI ds K' b
 | .mk steps result,K,K',h=>by rw [WI,WI,PI steps h]
end
end
theorem DH:∀xs:List Z5,YV xs<=xs.length
 | []=>X4 _
 | s::r=>by have:=DH r;rw [YV];split<;>simp<;>omega
section
variable {f:Z5->Z5} (hop:∀s,(f s).op=s.op) (hin:∀s,(f s).into=s.into) (har:∀s,(f s).args=s.args)
include hop
theorem Ij:∀xs:List Z5,YV (xs.map f)=YV xs
 | []=>rfl
 | s::r=>by rw [Ul,YV,YV,hop,Ij r]
include har
theorem Me {op x:Int}:∀(xs:List Z5) (k:Int),W5 op x (xs.map f) k=W5 op x xs k
 | [],_=>rfl
 | s::r,k=>by rw [Ul,W5,W5,hop,har,Me r]
theorem Z9j (xs:List Z5) (x:Int):Vv (xs.map f) x=Vv xs x:=by rw [Vv,Ij hop,<-List.map_take,Me hop har,Vv]
include hin
theorem MI {many:Nat}:∀(xs:List Z5) (k:Int),Wq many (xs.map f) k=Wq many xs k
 | [],_=>rfl
 | s::r,k=>by
  have e:Ka many (f s)↔Ka many s:=by rw [Ka,Ka,hop,hin,har]
  rw [Ul,Wq,Wq,MI r]
  by_cases h:Ka many s
  ·rw [Ze h,Ze (e.2 h)]
  ·rw [Z7 h,Z7 (fun z=>h (e.1 z))]
theorem Z1a (xs:List Z5) (many:Nat):WE (xs.map f) many=WE xs many:=by rw [WE,Ij hop,<-List.map_drop,MI hop hin har,WE]
end
theorem Md {op x:Int}:∀{xs:List Z5} {k:Int},¬W5 op x xs k<0->0<=k->k<=W5 op x xs k/\W5 op x xs k<k+xs.length/\∃s,xs[(W5 op x xs k-k).toNat]? = some s/\s.op=op/\gI s.args 0=x
 | [],k,h,_=>by simp [W5] at h
 | s::r,k,h,hk=>by
  rw [W5] at h ⊢
  split
  ·rename_i q
   refine ⟨Int.le_refl _,by rw [YS];omega,s,?_,q⟩
   rw [Int.sub_self];rfl
  ·rename_i q
   rw [Z7 q] at h
   obtain ⟨h1,h2,t,h3,h4⟩:=Md (xs:=r) (k:=k+1) h om
   refine ⟨by omega,by rw [YS];omega,t,?_,h4⟩
   rw [show (W5 op x r (k+1)-k).toNat=(W5 op x r (k+1)-(k+1)).toNat+1 by omega,List.getElem?_cons_succ]
   exact h3
theorem MH {many:Nat}:∀{xs:List Z5} {k:Int},¬Wq many xs k<0->0<=k->k<=Wq many xs k/\Wq many xs k<k+xs.length/\∃s,xs[(Wq many xs k-k).toNat]? = some s/\Ka many s
 | [],k,h,_=>by simp [Wq] at h
 | s::r,k,h,hk=>by
  rw [Wq] at h ⊢
  split
  ·rename_i q
   refine ⟨Int.le_refl _,by rw [YS];omega,s,?_,q⟩
   rw [Int.sub_self];rfl
  ·rename_i q
   rw [Z7 q] at h
   obtain ⟨h1,h2,t,h3,h4⟩:=MH (xs:=r) (k:=k+1) h om
   refine ⟨by omega,by rw [YS];omega,t,?_,h4⟩
   rw [show (Wq many r (k+1)-k).toNat=(Wq many r (k+1)-(k+1)).toNat+1 by omega,List.getElem?_cons_succ]
   exact h3
theorem DR {xs:List Z5} {x:Int} (h:¬Vv xs x<0):0<=Vv xs x/\Vv xs x<YV xs/\∃s,xs[(Vv xs x).toNat]? = some s/\s.op=16/\gI s.args 0=x:=by
 obtain ⟨h1,h2,s,h3,h4⟩:=Md h (Int.le_refl 0)
 have hl:=DH xs
 rw [WB,VG hl] at h2
 have h2':Vv xs x<YV xs:=by unfold Vv;omega
 have h1':0<=Vv xs x:=h1
 refine ⟨h1',h2',s,?_,h4⟩
 rw [Int.sub_zero] at h3
 have h5:(Vv xs x).toNat<YV xs:=by omega
 rwa [show W5 16 x (xs.take (YV xs)) 0=Vv xs x from rfl,List.getElem?_take_of_lt h5] at h3
theorem AH {xs:List Z5} {many:Nat} (h:¬WE xs many<0):(YV xs:Int)<=WE xs many/\WE xs many<xs.length/\∃s,xs[(WE xs many).toNat]? = some s/\Ka many s/\AP xs (WE xs many)=s:=by
 obtain ⟨h1,h2,s,h3,h4⟩:=MH h om
 have hl:=DH xs
 rw [Bi] at h2
 have h1':(YV xs:Int)<=WE xs many:=h1
 have h2':WE xs many<xs.length:=by unfold WE;omega
 rw [Bh,show Wq many (xs.drop (YV xs)) (YV xs)=WE xs many from rfl,show YV xs+(WE xs many-(YV xs:Int)).toNat=(WE xs many).toNat by omega] at h3
 exact ⟨h1',h2',s,h3,h4,by rw [AP,h3];rfl⟩
theorem Za3 {f:Z5->Z5} (hop:∀s,(f s).op=s.op) (hin:∀s,(f s).into=s.into) (har:∀s,(f s).args=s.args) (hc:∀x,f (Zx 17 x)=Zx 17 x) (hi:∀v s,f (QI v s)=QI v (f s)) (xs:List Z5) (x:Int) (many:Nat) :
  Us (xs.map f) x many=(Us xs x many).map f:=by
 rw [Us,Z9j hop har,Z1a hop hin har,Us]
 split
 ·rfl
 ·rename_i hq
  obtain ⟨_,_,s,h3,_,h5⟩:=AH (fun z=>hq (.inr z))
  have e:AP (xs.map f) (WE xs many)=f (AP xs (WE xs many)):=by rw [AP,T0,h3,h5];rfl
  rw [e,List.map_set,List.map_set,hc,hi]
theorem PE {ds:List Zf} {K:LI} {b:Z8} {x:Int} {many:Nat}:WI ds K (Ug b x many)=Ug (WI ds K b) x many:=by
 rw [Ug,WI,Ug,FI,FK,FK]
 show Z8.mk _ _=Z8.mk (Us (b.steps.map (QS ds K)) x many) b.result
 rw [Za3 (f:=QS ds K) (fun s=>by rw [B7];rfl) (fun s=>by rw [B7];rfl) (fun s=>by rw [B7];rfl) (fun x=>by rw [B7];rfl) (fun v s=>by rw [B7,B7];rfl)]
structure CB (c:LI) (q:Int):Prop where
 len:c.length=4
 bd:∀x∈c,0<=x/\x<=q
mutual
def BU:Z5->Prop
 | .mk op _ _ _ kids=>op≠17/\AX kids
def AX:List Z8->Prop
 | []=>True
 | b::r=>QM b/\AX r
def AY:List Z5->Prop
 | []=>True
 | s::r=>BU s/\AY r
def QM:Z8->Prop
 | .mk steps _=>AY steps
end
theorem CJ (s:Z5):BU s↔s.op≠17/\AX s.kids:=by cases s;rw [BU];rfl
theorem DM (b:Z8):QM b↔AY b.steps:=by cases b;rw [QM];rfl
theorem DN:∀{xs:List Z5},AY xs↔∀s∈xs,BU s
 | []=>by simp [AY]
 | s::r=>by rw [AY,DN];simp
theorem Fy:∀{xs:List Z8},AX xs↔∀s∈xs,QM s
 | []=>by simp [AX]
 | s::r=>by rw [AX,Fy];simp
theorem G7:∀{xs:List Z5} {i:Nat} {s:Z5} (t:Z5),xs[i]? = some s->Ye (xs.set i t)+s.sz=Ye xs+t.sz
 | [],_,_,_,h=>by simp at h
 | x::r,0,s,t,h=>by simp at h;subst h;rw [List.set_cons_zero,Ye,Ye];omega
 | x::r,i+1,s,t,h=>by
  have:=G7 (xs:=r) (i:=i) t (by simpa using h)
  rw [List.set_cons_succ,Ye,Ye];omega
theorem Z7g (v:Int) (s:Z5):(QI v s).sz=s.sz:=by cases s;rw [QI,Z5.sz,Z5.sz];rfl
theorem MJ {xs:List Z5} {x:Int} {many:Nat} (h:¬(Vv xs x<0∨WE xs many<0)):(Vv xs x).toNat<(WE xs many).toNat:=by
 obtain ⟨h1,h2,_⟩:=DR (fun z=>h (.inl z))
 obtain ⟨h3,h4,_⟩:=AH (fun z=>h (.inr z))
 omega
theorem FH {xs:List Z5} {x:Int} {many:Nat} (h:¬(Vv xs x<0∨WE xs many<0)) {t:Z5} {s:Z5} (hs:xs[(WE xs many).toNat]? = some s):(xs.set (Vv xs x).toNat t)[(WE xs many).toNat]? = some s:=by
 have:=MJ h
 rw [List.getElem?_set_ne om];exact hs
theorem Pt {xs:List Z5} {x:Int} {many:Nat} (h:∀s∈xs,YA s.op=true->2<=s.sz):Ye (Us xs x many)<=Ye xs:=by
 rw [Us]
 split
 ·exact X4 _
 ·rename_i hq
  obtain ⟨_,_,s,h3,h4,_⟩:=DR (fun z=>hq (.inl z))
  obtain ⟨_,_,t,h5,_,h6⟩:=AH (fun z=>hq (.inr z))
  have e1:=G7 (Zx 17 x) h3
  have e2:=G7 (QI (1+x) (AP xs (WE xs many))) (FH hq (t:=Zx 17 x) h5)
  have h7:=h s (Y4 h3) (by rw [h4];rfl)
  rw [Ew] at e1
  rw [Z7g,h6] at e2
  rw [h6]
  omega
section
variable {ds:List Zf}
theorem Zek {v:Int} {s:Z5} (h:wS ds s) (h6:s.op=6):wS ds (QI v s):=by
 obtain ⟨h1,h2,h3,h4⟩:=(Jj s).1 h
 exact (Jj _).2 ⟨h1,fun hc=>absurd hc (by show ¬YA s.op=true;rw [h6];decide),h3,h4⟩
theorem Zeh {v:Int}:wS ds (Zx 17 v):=(Jj _).2 ⟨rfl,fun _=>⟨rfl,rfl,rfl,v,rfl⟩,fun e=>absurd e (show (17:Int)≠8 by decide),True.intro⟩
theorem Zeg {xs:List Z5} {x:Int} {many:Nat} (h:QZ ds xs):QZ ds (Us xs x many):=by
 rw [Us]
 split
 ·exact h
 ·rename_i hq
  obtain ⟨_,_,t,h5,h7,h6⟩:=AH (fun z=>hq (.inr z))
  rw [Aq]
  intro s hs
  rcases List.mem_or_eq_of_mem_set hs with hs|rfl
  ·rcases List.mem_or_eq_of_mem_set hs with hs|rfl
   ·exact Aq.1 h s hs
   ·exact Zeh
  ·rw [h6];exact Zek (Aq.1 h t (Y4 h5)) h7.1.1
theorem Zef {b:Z8} {x:Int} {many:Nat} (h:wB ds b):wB ds (Ug b x many):=by rw [Ug,J1];exact Zeg ((J1 b).1 h)
variable (hd:WD ds)
mutual
theorem Zao:∀(s:Z5) {K:LI},wS ds s->(QS ds K s).sz<=s.sz
 | .mk op num into args kids,K,h=>by
  have:=PH kids (K:=K) (op:=op) (num:=num) (args:=args) (k:=0) h.2.2.2
  rw [QS,Z5.sz,Z5.sz];omega
theorem PH:∀(bs:List Z8) {K:LI} {op num:Int} {args:LI} {k:Nat},Ap ds bs->X7 (UV ds K op num args bs k)<=X7 bs
 | [],_,_,_,_,_,_=>X4 _
 | b::r,K,op,num,args,k,h=>by
  have h2:=PH r (K:=K) (op:=op) (num:=num) (args:=args) (k:=k+1) h.2
  have key:∀K2:LI,(Ug (WI ds K2 b) (gI args 0) (UQ ds num k).length).sz<=b.sz:=fun K2=>by
   have h1:=IZ b (K:=K2) h.1
   have h3:=Pt (xs:=(WI ds K2 b).steps) (x:=gI args 0) (many:=(UQ ds num k).length) (by
    rw [FI,FK]
    intro s hs hc
    obtain ⟨t,ht,rfl⟩:=W8.1 hs
    rw [B7] at hc ⊢
    obtain ⟨_,_,a,ha⟩:=Gm (Aq.1 ((J1 b).1 h.1) t ht) hc
    rw [Z5.sz,ha];simp)
   rw [Ug,Z8.sz]
   rw [Z8.sz_eq] at h1
   omega
  rw [UV,X7,X7]
  split
  ·have:=key (if Vv b.steps (gI args 0)<0∨WE b.steps (UQ ds num k).length<0 then K else gI args 0::K)
   omega
  ·have:=IZ b (K:=K) h.1
   omega
theorem PJ:∀(xs:List Z5) {K:LI},QZ ds xs->Ye (UW ds K xs)<=Ye xs
 | [],_,_=>X4 _
 | s::r,K,h=>by
  have h1:=Zao s (K:=K) h.1
  have h2:=PJ r (K:=K) h.2
  rw [UW,Ye,Ye];omega
theorem IZ:∀(b:Z8) {K:LI},wB ds b->(WI ds K b).sz<=b.sz
 | .mk steps result,K,h=>by
  have:=PJ steps (K:=K) h
  rw [WI,Z8.sz,Z8.sz];omega
end
end
theorem Ik:∀{xs:List Z5} {i:Nat} {s t:Z5},xs[i]? = some s->YA t.op=YA s.op->YV (xs.set i t)=YV xs
 | [],_,_,_,h,_=>by simp at h
 | x::r,0,s,t,h,e=>by simp at h;subst h;rw [List.set_cons_zero,YV,YV,e]
 | x::r,i+1,s,t,h,e=>by
  rw [List.set_cons_succ,YV,YV,Ik (xs:=r) (i:=i) (by simpa using h) e]
theorem Z86 {xs:List Z5} {x:Int} {many:Nat}:YV (Us xs x many)=YV xs:=by
 rw [Us]
 split
 ·rfl
 ·rename_i hq
  obtain ⟨_,_,s,h3,h4,_⟩:=DR (fun z=>hq (.inl z))
  obtain ⟨_,_,t,h5,_,h6⟩:=AH (fun z=>hq (.inr z))
  rw [Ik (FH hq (t:=Zx 17 x) h5) (by rw [h6];rfl),Ik h3 (by rw [h4];rfl)]
theorem Mg {op x:Int}:∀{xs:List Z5} {k:Int},(∀s∈xs,s.op≠op)->W5 op x xs k=-1
 | [],_,_=>rfl
 | s::r,k,h=>by
  rw [W5,Z7 (fun z=>h s (Xh ..) z.1)]
  exact Mg fun t ht=>h t (XA _ ht)
theorem Mh {op x:Int}:∀{xs:List Z5} {k:Int},0<=k->(∃s∈xs,s.op=op/\gI s.args 0=x)->0<=W5 op x xs k
 | [],_,_,h=>by obtain ⟨s,hs,_⟩:=h;cases hs
 | s::r,k,hk,h=>by
  rw [W5]
  split
  ·exact hk
  ·rename_i q
   obtain ⟨t,ht,h1⟩:=h
   rcases YG.1 ht with rfl|ht
   ·exact absurd h1 q
   ·exact Mh om ⟨t,ht,h1⟩
theorem RO {xs:List Z5} {x:Int} {many:Nat} (hn:AY xs):0<=W5 17 x ((Us xs x many).take (YV (Us xs x many))) 0↔¬(Vv xs x<0∨WE xs many<0):=by
 rw [Z86]
 constructor
 ·intro h hq
  rw [Us,Ze hq,Mg (fun s hs=>((CJ s).1 (DN.1 hn s (Qc hs))).1)] at h
  omega
 ·intro hq
  obtain ⟨h1,h2,s,h3,h4,_⟩:=DR (fun z=>hq (.inl z))
  have hap:=MJ hq
  refine Mh (Int.le_refl 0) ⟨Zx 17 x,?_,rfl,rfl⟩
  rw [Us,Z7 hq]
  refine Y4 (i:=(Vv xs x).toNat) ?_
  rw [List.getElem?_take_of_lt om,List.getElem?_set_ne om,List.getElem?_set_self (Xn.1 h3).1]
def AZ (b:Z8):Prop:=∀s∈b.steps,AX s.kids
theorem BT {b:Z8} (h:QM b):AZ b:=fun s hs=>((CJ s).1 (DN.1 ((DM b).1 h) s hs)).2
theorem Z8z {b:Z8} {k j:Nat} {s:Z5} {c:Z8} (h:AZ b) (hs:b.steps[k]? = some s) (hc:s.kids[j]? = some c):QM c:=Fy.1 (h s (Y4 hs)) c (Y4 hc)
theorem OX {b:Z8} {x:Int} {many:Nat} (h:QM b):AZ (Ug b x many):=by
 intro s hs
 have hs:s∈Us b.steps x many:=hs
 rw [Us] at hs
 split at hs
 ·exact BT h s hs
 ·rename_i hq
  obtain ⟨_,_,t,h5,_,h6⟩:=AH (fun z=>hq (.inr z))
  rcases List.mem_or_eq_of_mem_set hs with hs|rfl
  ·rcases List.mem_or_eq_of_mem_set hs with hs|rfl
   ·exact BT h s hs
   ·exact True.intro
  ·rw [h6];exact BT h t (Y4 h5)
theorem Za2 {ds:List Zf} {b:Z8} {x:Int} {many:Nat} (h:wB ds b):(Ug b x many).sz<=b.sz:=by
 have:=Pt (xs:=b.steps) (x:=x) (many:=many) fun s hs hc=>by
  have h7:=Gz ((J1 b).1 h) s hs hc
  rw [h7,Ew];omega
 rw [Ug,Z8.sz,b.sz_eq];omega
def B6 (ds:List Zf) (r:Yg):Yg:=⟨r.params,r.lent,r.result,WI ds [] r.body⟩
def FJ (n:Zp):Zp:=⟨n.decls,n.routines.map (B6 n.decls)⟩
end Go.Abs
