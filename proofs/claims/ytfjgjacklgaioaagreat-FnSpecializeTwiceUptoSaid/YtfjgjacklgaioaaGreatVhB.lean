/-
  A part of the proofs of several laws (see the last file): no condition.
-/
import Derived.Test.YtfjgjacklgaioaaGreatVhA
import Derived.Test.YtfjgjacklgaioaaGreatRows
import Derived.Deep.Slices
import Derived.ChangeArms
set_option linter.all false
set_option linter.unusedVariables false
set_option linter.unusedSimpArgs false
set_option linter.unusedSectionVars false
set_option maxRecDepth 10000
set_option maxHeartbeats 4000000
namespace Go.Abs
theorem A9.mono {w:World} {G G':Yc} {v:Value} {k:Nat} {ls:List AV} (hA:Uc G w w G') (h:A9 w G v k ls):A9 w G' v k ls:=by
 rcases h with ⟨rfl,h0⟩|⟨g,len,cap,cur,el,rfl,h1,h2,h3,h4,h5⟩
 ·exact .inl ⟨rfl,h0⟩
 ·exact .inr ⟨g,len,cap,cur,el,rfl,h1,h2,h3,h4,h5.mono hA⟩
theorem QG.same {w:World} {G G':Yc} {r:Res} (hA:Uc G w w G') (h:QG w G r):QG w G' r:=by
 cases r with
 | obj b ls=>obtain ⟨cs,e,h1,h2⟩:=h;exact ⟨cs,e,h1,h2.mono hA⟩
 | tail v k=>exact h
 | ge s=>exact h
 | vec v ls=>
  rcases h with ⟨rfl,h0⟩|⟨g,cap,cur,el,rfl,h1,h2,h3,h4⟩
  ·exact .inl ⟨rfl,h0⟩
  ·exact .inr ⟨g,cap,cur,el,rfl,h1,h2,h3,h4.mono hA⟩
 | many ts=>exact h
 | own B m=>exact h
 | row v k ls=>exact h.mono hA
theorem Yx.alloc_rrow {w:World} {G:Yc} {h:List Res} (hh:Yx w G h) (cs:Array Value) (t:TypeId) {ls:List AV} {len cap k:Nat} (hcap:len<=cap) (Xu:cs.size=cap*k) (hl:ls.length=len*k)
  (hls:YV w G ls (cs.toList.take (len*k))) :
  Yx (w.alloc (.cells cs t)) G (.row (.slice (some ⟨w.heap.size,0,none⟩) len cap) k ls::h)/\YX w G h (w.alloc (.cells cs t)) G (.row (.slice (some ⟨w.heap.size,0,none⟩) len cap) k ls::h):=by
 have hA:Uc G w (w.alloc (.cells cs t)) G:=⟨fun b j hg=>E1 w _ (hh.lt b j hg),fun _ _ h=>h⟩
 refine hh.alloc (.cells cs t) (h':=[.row (.slice (some ⟨w.heap.size,0,none⟩) len cap) k ls]) (fun _ _ h=>h) (fun _ _ h=>.inl h) ?_ ?_ (BY _ _) ?_
 ·intro r hr
  rw [XI.1 hr]
  exact .inr ⟨_,len,cap,cs,t,rfl,Dj w _,hcap,Xu,hl,hls.mono hA⟩
 ·intro r hr b j hf
  rw [XI.1 hr] at hf
  exact hf
 ·intro r hr b j hf hg
  rw [XI.1 hr] at hf
  have:=hh.lt b j hg
  have:b=w.heap.size:=hf
  omega
theorem Yx.rwrite {w:World} {G:Yc} {h2:List Res} {g len cap k:Nat} {ls ls':List AV} (hh:Yx w G (.row (.slice (some ⟨g,0,none⟩) len cap) k ls::h2)) {cs cs':Array Value} {e:TypeId}
  (hb:w.heap[g]? = some (.cells cs e (0,0))) (Xu:cs'.size=cs.size) (hle:len<=cap) (hcap:cs.size=cap*k) (hl:ls'.length=len*k) (hls:YV w G ls' (cs'.toList.take (len*k))) :
  Yx (w.setRow g cs') G (.row (.slice (some ⟨g,0,none⟩) len cap) k ls'::h2) /\
   YX w G (.row (.slice (some ⟨g,0,none⟩) len cap) k ls::h2) (w.setRow g cs') G (.row (.slice (some ⟨g,0,none⟩) len cap) k ls'::h2):=by
 have hmem:Res.row (.slice (some ⟨g,0,none⟩) len cap) k ls∈Res.row (.slice (some ⟨g,0,none⟩) len cap) k ls::h2:=Xc ..
 have hA:Uc G w (w.setRow g cs') G:=⟨fun c j hg=>by
  have hne:c≠g:=fun he=>hh.prot _ hmem c j he hg
  simp [World.cell?,U6 w g c cs' hne],fun _ _ h=>h⟩
 have hpw:=Vk.1 hh.apart
 have hother:∀r∈h2,∀c j,r.fp c j->c≠g:=fun r hr c j hf hc=>hpw.1 r hr c j hc hf
 have e1:YX w G [.row (.slice (some ⟨g,0,none⟩) len cap) k ls] (w.setRow g cs') G [.row (.slice (some ⟨g,0,none⟩) len cap) k ls']:=by
  refine ⟨rfl,rfl,rfl,by simp [World.setRow],fun _ _ h=>h,?_,fun _ _ _ h=>.inl h,?_⟩
  ·intro c hc
   by_cases hcb:c=g
   ·subst hcb
    exact .inr ⟨cs,cs',e,(0,0),hb,setRow_heap w c cs cs' e (0,0) hb,Xu,fun j hj=>absurd ⟨_,Xc ..,rfl⟩ hj⟩
   ·exact .inl (U6 w g c cs' hcb)
  ·rintro c j _ ⟨r,hr,hf⟩
   rw [XI.1 hr] at hf
   exact ⟨_,Xc ..,hf⟩
 have e2:Yx (w.setRow g cs') G [.row (.slice (some ⟨g,0,none⟩) len cap) k ls']:=by
  refine ⟨fun r hr=>?_,BY _ _,fun r hr c j hf hg=>?_,fun c j hg=>?_⟩
  ·rw [XI.1 hr]
   exact .inr ⟨g,len,cap,cs',e,rfl,setRow_heap w g cs cs' e (0,0) hb,hle,Xu.trans hcap,hl,hls.mono hA⟩
  ·rw [XI.1 hr] at hf
   exact hh.prot _ hmem c j hf hg
  ·have:=hh.lt c j hg
   simpa [World.setRow] using this
 exact Yx.frame (h:=[.row (.slice (some ⟨g,0,none⟩) len cap) k ls]) (k:=h2) hh e1 e2
theorem Zg6 {w:World} {G:Yc} {h:List Res} {k:Nat} (hh:Yx w G h):Yx w G (.row (.slice none 0 0) k []::h)/\YX w G h w G (.row (.slice none 0 0) k []::h):=
 ⟨⟨fun r hr=>by
   rcases YE.1 hr with rfl|hr
   ·exact .inl ⟨rfl,rfl⟩
   ·exact hh.ok r hr,Vk.2 ⟨fun _ _ _ _ hf=>hf.elim,hh.apart⟩,fun r hr b o hf hg=>by
   rcases YE.1 hr with rfl|hr
   ·exact hf.elim
   ·exact hh.prot r hr b o hf hg,hh.lt⟩,
  ⟨rfl,rfl,rfl,X5 _,fun _ _ h=>h,fun _ _=>.inl rfl,fun _ _ _ h=>.inl h,fun b o _ ⟨r,hr,hf⟩=>by
   rcases YE.1 hr with rfl|hr
   ·exact hf.elim
   ·exact ⟨r,hr,hf⟩⟩⟩
theorem A9.form {w:World} {G:Yc} {v:Value} {k:Nat} {ls:List AV} (h:A9 w G v k ls):∃a len cap,v=.slice a len cap/\ls.length=len*k:=by
 rcases h with ⟨rfl,rfl⟩|⟨g,len,cap,cur,e,rfl,_,_,_,h4,_⟩
 ·exact ⟨none,0,0,rfl,by simp⟩
 ·exact ⟨_,len,cap,rfl,h4⟩
theorem CC {w:World} {G:Yc} {v:Value} {k:Nat} {es:List AV} {h2:List Res} (hh:Yx w G (.row v k (Zh es)::h2)) (hes:∀y∈es,y.leaves.length=k) (hk:0<k) :
  ∃G',Yx w G' (.tail v k::h2)/\YX w G (.row v k (Zh es)::h2) w G' (.tail v k::h2)/\RV w G' (.sl es (some v)) v:=by
 have hpw:=Vk.1 hh.apart
 have hfl:=UZ es hes
 rcases hh.ok _ (Xc ..) with ⟨rfl,h0⟩|⟨g,len,cap,cur,e,rfl,h1,h3,h4,h5,h6⟩
 ·have hes0:es=[]:=by
   cases es with
   | nil=>rfl
   | cons y r=>
    have h7:0<(r.length+1)*k:=Nat.mul_pos om hk
    rw [h0,YZ] at hfl
    rw [<-hfl] at h7
    simp at h7
  subst hes0
  obtain ⟨k1,k2⟩:=MO (sz:=k) (hh.sub (BZ _ _))
  refine ⟨G,k1,⟨rfl,rfl,rfl,X5 _,fun _ _ h=>h,fun _ _=>.inl rfl,fun _ _ _ h=>.inl h,?_⟩,.nil (by simp)⟩
  rintro b o _ ⟨r,hr,hf⟩
  rcases YE.1 hr with rfl|hr
  ·exact hf.elim
  ·exact ⟨r,Xo _ hr,hf⟩
 ·have hlen:len=es.length:=HQ hk (h5.symm.trans hfl)
  subst hlen
  let G':Yc:=fun b o=>G b o∨(b=g/\o<es.length*k)
  have hA:Uc G w w G':=⟨fun _ _ _=>rfl,fun _ _ h=>.inl h⟩
  have hmem:Res.row (.slice (some ⟨g,0,none⟩) es.length cap) k (Zh es)∈Res.row (.slice (some ⟨g,0,none⟩) es.length cap) k (Zh es)::h2:=Xc ..
  refine ⟨G',⟨fun r hr=>?_,Vk.2 ⟨fun r hr b o f1 f2=>hpw.1 r hr b o f1.1 f2,hpw.2⟩,fun r hr b o hf hg=>?_,fun b o hg=>?_⟩,
   ⟨rfl,rfl,rfl,X5 _,fun _ _ h=>.inl h,fun _ _=>.inl rfl,fun b o _ hg=>hg.imp id fun ⟨e1,_⟩=>⟨_,hmem,e1⟩,?_⟩,?_⟩
  ·rcases YE.1 hr with rfl|hr
   ·exact .inr ⟨g,es.length,cap,cur,e,rfl,h1,h3,h4⟩
   ·exact (hh.ok r (Xo _ hr)).same hA
  ·rcases YE.1 hr with rfl|hr2
   ·obtain ⟨hbg,hf2⟩:=hf
    rcases hg with hg|⟨_,hg⟩
    ·exact hh.prot _ hmem b o hbg hg
    ·omega
   ·rcases hg with hg|⟨hbg,_⟩
    ·exact hh.prot r (Xo _ hr2) b o hf hg
    ·exact hpw.1 r hr2 b o hbg hf
  ·rcases hg with hg|⟨rfl,_⟩
   ·exact hh.lt b o hg
   ·exact (T6.1 h1).1
  ·rintro b o _ ⟨r,hr,hf⟩
   rcases YE.1 hr with rfl|hr
   ·exact ⟨_,hmem,hf.1⟩
   ·exact ⟨r,Xo _ hr,hf⟩
  ·refine .sl (k:=k) (fun x hx=>by cases hx;rfl) h3 (Vb.of_flat es hes (WB.of_cells (h6.mono hA) fun j u hj=>?_))
   have hjl:j<es.length*k:=by
    have:=(Xs.1 hj).1
    have h7:=h6.length
    omega
   rw [Qi,Zc hjl] at hj
   refine ⟨?_,.inr ⟨rfl,by omega⟩⟩
   rw [Vm,cell_of_row w g j cur e (0,0) h1]
   simpa using hj
section
variable {P:Program} {n:Nat} {ops:Array Oper} {B:Fr->List Res->Prop} {k:Nat} {F:Fr} {h h2:List Res}
theorem Hy {k:Nat}:Tw h (.row (.slice none 0 0) k []::h):=fun _ _ hh=>let ⟨a,b⟩:=Zg6 hh;⟨_,a,b⟩
theorem Zj5 (j:Nat) {v:Value} {kk m:Nat} {ls:List AV} (hl:Dq P ops F k=some (.val v)) (hj:h[j]? = some (.row v kk ls)) (hm:ls.length=m*kk) (hk:0<kk):XA P (ZB ops k) F h [] (.val (.int .i64 m)):=by
 unfold Dq at hl
 generalize hoo:ZB ops k=o at hl
 obtain ⟨dst,op,type,pos,after,guard⟩:=o
 cases op<;>simp only at hl<;>try (cases hl)
 rename_i c
 obtain ⟨callee,args,tys⟩:=c
 simp only at hl
 split at hl
 ·rename_i x t hargs htys
  split at hl
  ·rename_i el hu
   simp only [Wn] at hl
   intro n w G a hF hh
   have hv:=hF.ev x
   rw [hl] at hv
   have hv:=hv.val_inv
   obtain ⟨ad,len,cap,rfl,hlen⟩:=A9.form (hh.ok _ (Y3 hj))
   have:len=m:=HQ hk (hlen.symm.trans hm)
   subst this
   have e1:args=#[x]:=by rw [<-Up (xs:=args),hargs]
   have e2:tys=#[t]:=by rw [<-Up (xs:=tys),htys]
   subst e1;subst e2
   exact ⟨_,.val,fun w' _ _=>by simp [execOp,resolve,invoke,builtin,hv,Builtin.len_,VG hu,goInt]⟩
  ·cases hl
 ·cases hl
def LP (ops:Array Oper) (F:Fr) (k:Nat):Option (TypeId × AV):=
 match (ZB ops k).op with
 | .load t x=>some (t,F.ev x)
 | _=>none
theorem Zj6 (j:Nat) {g len cap kk o:Nat} {ls zs:List AV} {t:TypeId} {y:AV} (hl:LP ops F k=some (t,.val (.pointer (some ⟨g,o,none⟩)))) (hj:h[j]? = some (.row (.slice (some ⟨g,0,none⟩) len cap) kk ls))
  (hz:(ls.drop o).take zs.length=zs) (hy:AZ P t zs=some y):XA P (ZB ops k) F h [g] y:=by
 unfold LP at hl
 generalize hoo:ZB ops k=q at hl
 obtain ⟨dst,op,type,pos,after,guard⟩:=q
 cases op<;>simp only at hl<;>try (cases hl)
 rename_i t' x
 intro n w G a hF hh
 simp only [Wn,Prod.mk.injEq] at hl
 obtain ⟨rfl,hl⟩:=hl
 have hv:=hF.ev x
 rw [hl] at hv
 have hv:=hv.val_inv
 rcases hh.ok _ (Y3 hj) with ⟨h0,_⟩|⟨g',len',cap',cur,e,h0,h1,h2,h3,h4,h5⟩
 ·cases h0
 ·cases h0
  have hc:=(h5.drop o).take zs.length
  rw [hz] at hc
  obtain ⟨v,j1,j2⟩:=Hg (P:=P) (b:=g) (o:=o) hy hc
  refine ⟨v,j1,fun w' _ hw=>?_⟩
  have hrow:=hw g (by simp)
  rw [h1] at hrow
  simp only [execOp,hv]
  refine Vj ?_
  simp only [Instr.loadAt,Instr.sureAddr,Sem.run_bind,Sem.run_pure,Result.andThen_ok]
  refine j2 w' fun j u hj=>?_
  rw [cell_of_row w' g (o+j) cur e (0,0) hrow]
  rw [Qi] at hj
  split at hj
  ·rw [CO,Qi] at hj
   split at hj
   ·simpa using hj
   ·cases hj
  ·cases hj
theorem Si {K:Fr->List Res->Prop} {g len cap kk:Nat} {ls xs:List AV} {i:Nat} (hs:storeAt P ops F k=some (g,i,xs)) (hlt:i+xs.length<=ls.length)
  (hK:K F (.row (.slice (some ⟨g,0,none⟩) len cap) kk (ls.take i++xs++ls.drop (i+xs.length))::h2)):WJ P n (ZB ops k) F (.row (.slice (some ⟨g,0,none⟩) len cap) kk ls::h2) K:=by
 unfold storeAt at hs
 generalize hoo:ZB ops k=q at hs
 obtain ⟨dst,op,type,pos,after,guard⟩:=q
 cases op<;>simp only at hs<;>try (cases hs)
 rename_i t x z
 split at hs
 ·rename_i b' o' inf hx hi
  split at hs
  ·rename_i hc
   simp only [Wa] at hc
   simp only [Wn,Prod.mk.injEq] at hs
   obtain ⟨rfl,rfl,hz⟩:=hs
   intro Q w G a hF hh
   have hvx:=hF.ev x
   rw [hx] at hvx
   have hvx:=hvx.val_inv
   have hvy:=hF.ev z
   have hcs:=hvy.cells hc.2.1
   rw [hz] at hcs hc
   have hone:=hcs.one_cells hc.2.2
   have Xu:inf.size=xs.length:=US hc.1
   have hlen:(a.eval z).cells.size=xs.length:=by have:=hcs.length;simpa using this
   rcases hh.ok (.row (.slice (some ⟨b',0,none⟩) len cap) kk ls) (Xc ..) with ⟨h0,_⟩|⟨g',len',cap',cur,e,h0,h1,h2',h3,h4,h5⟩
   ·cases h0
   ·cases h0
    have hlc:len*kk<=cap*kk:=Kh _ h2'
    have hst:=run_storeCells_at P b' o' e (a.eval z).cells.toList 0 cur w h1 (by simp [hlen];omega) hone
    simp only [C1,Je] at hst
    have hr:(execOp a.eval { dst:=none,op:=.store t x z,type:=type,pos:=pos,after:=after,guard:=guard }).run P w =
      .ok .skip (w.setRow b' (cur.toList.take o'++(a.eval z).cells.toList++cur.toList.drop (o'+(a.eval z).cells.size)).toArray):=by
     simp only [execOp,hvx]
     simp [Instr.storeAt,Instr.sureAddr,storeVar,K0 hi,hlen,Xu,hst]
    unfold Oper.wp
    rw [hr]
    have hcl:(a.eval z).cells.toList.length=xs.length:=by simpa using hlen
    obtain ⟨j1,j2⟩:=hh.rwrite (ls':=ls.take o'++xs++ls.drop (o'+xs.length)) (cs':=(cur.toList.take o'++(a.eval z).cells.toList++cur.toList.drop (o'+(a.eval z).cells.size)).toArray) h1
     (by simp [hlen];omega) h2' h3 (by simp;omega) (by
      rw [DN,hlen]
      have e1:(cur.toList.take o'++(a.eval z).cells.toList++cur.toList.drop (o'+xs.length)).take (len*kk) =
        (cur.toList.take (len*kk)).take o'++(a.eval z).cells.toList++(cur.toList.take (len*kk)).drop (o'+xs.length):=by
       have q1:(cur.toList.take o'++(a.eval z).cells.toList).length=o'+xs.length:=by simp [hlen];omega
       rw [List.take_append,q1,Vw om,List.take_take,Uy om,List.drop_take]
      rw [e1]
      exact ((h5.take o').append hcs).append (h5.drop _))
    refine ⟨F,_,G,hK,?_,j1,j2⟩
    have:=hF.mono (j2.agree hh)
    simpa [Act.put] using this
  ·cases hs
 ·cases hs
theorem Zen {K:Fr->List Res->Prop} {sz:Nat} (hd:VK n (ZB ops k)=true) (ha:TY P ops F k=some ([],0,sz))
  (hK:∀g,K (F.put (ZB ops k).dst (.val (.slice (some ⟨g,0,none⟩) 0 0))) (.row (.slice (some ⟨g,0,none⟩) 0 0) sz []::h)):WJ P n (ZB ops k) F h K:=by
 unfold TY at ha
 generalize hoo:ZB ops k=q at ha hd hK
 obtain ⟨dst,op,type,pos,after,guard⟩:=q
 cases op<;>simp only at ha<;>try (cases ha)
 rename_i t ln parts
 split at ha
 case h_2=>cases ha
 rename_i e ht
 split at ha
 case h_2=>cases ha
 rename_i i hi
 split at ha
 case h_2=>cases ha
 rename_i hc
 simp only [Wa] at hc
 split at ha
 case h_2=>cases ha
 rename_i ls' hf
 simp only [Wn,Prod.mk.injEq] at ha
 obtain ⟨rfl,rfl,Xu⟩:=ha
 intro Q w G a hF hh
 obtain ⟨cs,h1,h2⟩:=Hf hF parts ht hi rfl hc.1 hc.2 hf
 have hr:(execOp a.eval { dst:=dst,op:=.buildSlice t 0 parts,type:=type,pos:=pos,after:=after,guard:=guard }).run P w =
   .ok (.value (.slice (some ⟨w.heap.size,0,none⟩) 0 0)) (w.alloc (.cells cs e)):=by
  simp only [execOp]
  exact Vj h2
 unfold Oper.wp
 rw [hr]
 have hlc:=h1.length
 simp only [Je] at hlc
 obtain ⟨j1,j2⟩:=hh.alloc_rrow cs e (ls:=[]) (len:=0) (cap:=0) (k:=sz) (X5 _) (by simpa using hlc) (by simp) (by simpa using YV.nil)
 exact ⟨_,_,G,hK _,(hF.mono (j2.agree hh)).put (Te hd) .val,j1,j2⟩
theorem Zel {K:Fr->List Res->Prop} {g sz:Nat} {xs:List AV} {hx:Option Value} (hd:VK n (ZB ops k)=true) (ha:UV P ops F k=some (.val (.slice (some ⟨g,0,none⟩) 0 0),.sl xs hx,sz))
  (hxs:∀y∈xs,y.leaves.length=sz) (hbound:xs.length<=4294967296)
  (hK:∀v:Hd,K (F.put (ZB ops k).dst (.val v.v)) (.row v.v sz (Zh xs)::h2)):WJ P n (ZB ops k) F (.row (.slice (some ⟨g,0,none⟩) 0 0) sz []::h2) K:=by
 unfold UV at ha
 generalize hoo:ZB ops k=o at ha hd hK
 obtain ⟨dst,op,type,pos,after,guard⟩:=o
 cases op<;>simp only at ha<;>try (cases ha)
 rename_i c
 obtain ⟨callee,args,tys⟩:=c
 simp only at ha
 split at ha
 case h_2=>cases ha
 rename_i s x t t' hargs htys
 split at ha
 case h_2=>cases ha
 rename_i e htt ht
 have:=US htt
 subst this
 split at ha
 case h_2=>cases ha
 rename_i i hinfo
 split at ha
 case h_2=>cases ha
 rename_i z hz
 split at ha
 case h_2=>cases ha
 rename_i hb
 simp only [Wa] at hb
 simp only [Wn,Prod.mk.injEq] at ha
 obtain ⟨h3,h4,hk1⟩:=ha
 have e1:args=#[s,x]:=by rw [<-Up (xs:=args),hargs]
 have e2:tys=#[t,t]:=by rw [<-Up (xs:=tys),htys]
 subst e1;subst e2
 have hzs:z.cells.size=sz:=by rw [US hb.1,hk1]
 have hby:=Vl hb.2
 intro Q w G a hF hh
 have v1:=hF.ev s
 have v2:=hF.ev x
 rw [h3] at v1
 rw [h4] at v2
 have v1:=v1.val_inv
 have v2:=v2.forget
 have finish:∀(v':Hd) w',(Builtin.append_ #[t,t] type #[.slice (some ⟨g,0,none⟩) 0 0,a.eval x]).run P w=.ok v'.v w'->Yx w' G (.row v'.v sz (Zh xs)::h2) ->
   YX w G (.row (.slice (some ⟨g,0,none⟩) 0 0) sz []::h2) w' G (.row v'.v sz (Zh xs)::h2) ->
   ({ dst:=dst,op:=.call { callee:=.builtin .append,args:=#[s,x],argTypes:=#[t,t] },type:=type,pos:=pos,after:=after,guard:=guard }:Oper).wp P a w
    (fun a' w'=>∃F' h' G',K F' h'/\FR w' G' n F' a'/\Yx w' G' h'/\YX w G (.row (.slice (some ⟨g,0,none⟩) 0 0) sz []::h2) w' G' h') Q:=by
  intro v' w' hr j1 j2
  have hrun:(execOp a.eval { dst:=dst,op:=.call { callee:=.builtin .append,args:=#[s,x],argTypes:=#[t,t] },type:=type,pos:=pos,after:=after,guard:=guard }).run P w=.ok (.value v'.v) w':=by
   simp only [execOp,resolve,invoke,builtin,Sem.run_bind,Sem.run_pure,Result.andThen_ok,BW,VQ,A6,v1,hr]
  unfold Oper.wp
  rw [hrun]
  exact ⟨_,_,G,hK v',(hF.mono (j2.agree hh)).put (Te hd) .val,j1,j2⟩
 by_cases hxe:xs=[]
 ·subst hxe
  cases v2q:a.eval x with
  | slice ad' l' c'=>
   rw [v2q] at v2
   cases v2<;>exact finish ⟨some ⟨g,0,none⟩,0,0⟩ _ (by rw [v2q];exact DC ht hinfo (X5 _) w) hh (YX.refl w G _)
  | _=>rw [v2q] at v2;cases v2
 ·generalize hax:a.eval x=ax at v2 finish
  cases v2 with
  | nil _=>exact absurd rfl hxe
  | sl hq hcc hm=>
   rename_i b o' k' c
   have hpos:0<xs.length:=Fs.2 hxe
   have hfm:=hm.flat_mem
   obtain ⟨news,hn,hnc⟩:=hfm.cells
   have hfl:=UZ xs hxs
   have hnl:news.length=xs.length*i.size:=by rw [hn.length,hfl,hk1]
   have hnews:∀j u,news[j]? = some u->w.cell? ((⟨b,o',none⟩:Addr).add j)=some u:=fun j u hj=>by rw [Jj];exact (hnc j u hj).1
   have hbb:(0+xs.length)*i.bytes<=140737488355328:=by
    have:=Nat.mul_le_mul hbound hby
    rw [Vm]
    omega
   have hr:=run_append_grow (P:=P) w t type e i z ht hinfo hz ⟨g,0,none⟩ 0 0 [] (by simp) (fun j u hj=>by simp at hj) ⟨b,o',none⟩ xs.length c news hnl hnews om om (growslice_fits om hbb)
   simp only [Vm] at hr
   have Xr:=grownCap_ge w xs.length 0 e
   obtain ⟨j1,j2⟩:=hh.drew.alloc_rrow ([].toArray++news.toArray++Builtin.zeroCells z.cells (grownCap w xs.length 0 e-xs.length)) e
    (ls:=Zh xs) (len:=xs.length) (cap:=grownCap w xs.length 0 e) (k:=sz) Xr
    (by
     have q2:(grownCap w xs.length 0 e-xs.length)*sz=grownCap w xs.length 0 e*sz-xs.length*sz:=Nat.sub_mul ..
     have q3:xs.length*sz<=grownCap w xs.length 0 e*sz:=Kh _ Xr
     simp only [Array.size_append,DM,size_zeroCells,hzs,XL,Vm,hnl,hk1]
     omega) hfl
    (by
     have q1:([].toArray++news.toArray++Builtin.zeroCells z.cells (grownCap w xs.length 0 e-xs.length)).toList.take (xs.length*sz)=news:=by
      simp only [DL,BX]
      rw [<-hk1,<-hnl]
      exact Aw
     rw [q1]
     exact hn.mono (Bn w G))
   have hs:List.Sublist (.row (.slice (some ⟨w.drew.heap.size,0,none⟩) xs.length (grownCap w xs.length 0 e)) sz (Zh xs)::h2)
     (.row (.slice (some ⟨w.drew.heap.size,0,none⟩) xs.length (grownCap w xs.length 0 e)) sz (Zh xs)::.row (.slice (some ⟨g,0,none⟩) 0 0) sz []::h2):=List.Sublist.cons_cons _ (BZ _ _)
   exact finish ⟨some ⟨w.heap.size,0,none⟩,xs.length,grownCap w xs.length 0 e⟩ _ hr (j1.sub hs) ((YX.drew w G _).trans (j2.sub' hs))
theorem SZ {w:World} {G:Yc} {v:Hd} {kk m:Nat} {ls:List AV} (h:A9 w G v.v kk ls) (hm:ls.length=m*kk) (hk:0<kk) (h0:0<m):∃g c,v=⟨some ⟨g,0,none⟩,m,c⟩:=by
 obtain ⟨a,l,c⟩:=v
 rcases h with ⟨h1,h2⟩|⟨g,len,cap,cur,e,h1,h2,h3,h4,h5,h6⟩
 ·subst h2
  have:=Nat.mul_pos h0 hk
  rw [XL] at hm
  omega
 ·cases h1
  have:l=m:=HQ hk (h5.symm.trans hm)
  subst this
  exact ⟨g,c,rfl⟩
theorem Z3c (j m:Nat) {v:Hd} {kk:Nat} {ls:List AV} {c:Code} {A:V2} (hj:h[j]? = some (.row v.v kk ls)) (hm:ls.length=m*kk) (hk:0<kk) (h0:0<m)
  (H:∀g c',v=⟨some ⟨g,0,none⟩,m,c'⟩->Yw P n c A F h):Yw P n c A F h:=by
 intro w G a hF hh
 obtain ⟨g,c',e⟩:=SZ (hh.ok _ (Y3 hj)) hm hk h0
 exact H g c' e w G a hF hh
theorem Z3b (t j:Nat) {v:Hd} {kk:Nat} {es:List AV} {c:Code} {A:V2} (hF':F.get t=.h v) (hp:Ws [j] h=some [.row v.v kk (Zh es)]) (hes:∀y∈es,y.leaves.length=kk) (hk:0<kk)
  (H:Yw P n c A ((t,.sl es (some v.v))::F) (.tail v.v kk::XP [j] h)):Yw P n c A F h:=by
 intro w G a hF hh
 have hp':=UG (VO hp)
 obtain ⟨G',h1,h2',h3⟩:=CC (hh.perm hp') hes hk
 have e:=h2'.perm hp'.symm (K1 _)
 have hF2:=hF.mono (e.agree hh)
 have hv:=hF2.get t
 rw [hF'] at hv
 have hv:=hv.val_inv
 refine wp_mono (H w G' a ⟨hF2.defers,hF2.size,fun s=>?_⟩ h1) fun e' a' w' hc=>hc.trans e
 show RV w G' (match Nat.beq t s with|true=>_|false=>Fr.get F s) _
 cases hb:Nat.beq t s with
 | true=>
  have:=US hb
  subst this
  rw [hv]
  exact h3
 | false=>exact hF2.get s
theorem Z28 (j i p:Nat) {u v:Value} {kk kv:Nat} {es ls:List AV} (hp:Ws [j,i] h=some [.row u kk (Zh es),.row v kv ls]) (hes:∀y∈es,y.leaves.length=kk) (hk:0<kk) (hl:ls[p]? = some (.val u)) :
  Tw h (.row v kv (ls.set p (.sl es (some u)))::.tail u kk::XP [j,i] h):=by
 intro w G hh
 have hp':=UG (VO hp)
 have hh':=hh.perm hp'
 obtain ⟨G',h1,h2',h3⟩:=CC (h2:=.row v kv ls::XP [j,i] h) hh' hes hk
 have e:=h2'.perm hp'.symm (K1 _)
 have h1:Yx w G' (.tail u kk::.row v kv ls::XP [j,i] h):=h1
 have perm:(Res.tail u kk::.row v kv ls::XP [j,i] h).Perm (.row v kv ls::.tail u kk::XP [j,i] h):=List.Perm.swap ..
 have h4:=h1.perm perm
 have e4:=e.perm (K1 _) perm
 have hset:∀{w:World} {G:Yc},RV w G (.sl es (some u)) u->A9 w G v kv ls->A9 w G v kv (ls.set p (.sl es (some u))):=by
  intro w G hu hr
  rcases hr with ⟨rfl,h0⟩|⟨g,len,cap,cur,el,rfl,k1,k2,k3,k4,k5⟩
  ·exact .inl ⟨rfl,by rw [h0];rfl⟩
  ·refine .inr ⟨g,len,cap,cur,el,rfl,k1,k2,k3,by rw [T7];exact k4,?_⟩
   obtain ⟨c,c1,c2⟩:=k5.get p _ hl
   have:=c2.val_inv
   subst this
   have h6:=k5.set p hu
   rwa [show (cur.toList.take (len*kv)).set p c=cur.toList.take (len*kv) from by
    apply List.ext_getElem?
    intro q
    rw [List.getElem?_set]
    split
    ·rename_i hq;subst hq;split
     ·exact c1.symm
     ·rename_i hq2;rw [Be om]
    ·rfl] at h6
 refine ⟨G',⟨fun r hr=>?_,?_,fun r hr=>?_,h4.lt⟩,⟨e4.os,e4.tape,e4.output,e4.size,e4.sub,e4.same,e4.newG,fun b o hb ⟨r,hr,hf⟩=>e4.newfp b o hb ?_⟩⟩
 ·rcases YE.1 hr with rfl|hr
  ·exact hset h3 (h4.ok _ (Xc ..))
  ·exact h4.ok r (Xo _ hr)
 ·have:=Vk.1 h4.apart
  refine Vk.2 ⟨fun r hr b o f1 f2=>this.1 r hr b o ?_ f2,this.2⟩
  cases v with
  | slice a _ _=>cases a with
   | none=>exact f1.elim
   | some a=>exact f1
  | _=>exact f1.elim
 ·rcases YE.1 hr with rfl|hr
  ·intro b o f1 hg
   refine h4.prot (.row v kv ls) (Xc ..) b o ?_ hg
   cases v with
   | slice a _ _=>cases a with
    | none=>exact f1.elim
    | some a=>exact f1
   | _=>exact f1.elim
  ·exact h4.prot r (Xo _ hr)
 ·rcases YE.1 hr with rfl|hr
  ·refine ⟨.row v kv ls,Xc ..,?_⟩
   cases v with
   | slice a _ _=>cases a with
    | none=>exact hf.elim
    | some a=>exact hf
   | _=>exact hf.elim
  ·exact ⟨r,Xo _ hr,hf⟩
def Kk:List Res->Option (List (Value × Nat))
 | []=>some []
 | .tail v k::r=>(Kk r).map ((v,k)::·)
 | .many ts::r=>(Kk r).map (ts++·)
 | _=>none
theorem Cb {b o:Nat}:∀{hs:List Res} {L:List (Value × Nat)},Kk hs=some L->((∃p∈L,Fd p.1 p.2 b o)↔Ve hs b o)
 | [],L,h=>by cases h;simp [Ve]
 | .tail v k::r,L,h=>by
  rw [Kk] at h
  cases hr:Kk r with
  | none=>rw [hr] at h;cases h
  | some L'=>
   rw [hr] at h
   cases h
   have ih:=Cb (b:=b) (o:=o) hr
   have ht:Res.fp (.tail v k) b o↔Fd v k b o:=by
    cases v with
    | slice a _ _=>cases a<;>exact Iff.rfl
    | _=>exact Iff.rfl
   simp only [Ve,YE,exists_eq_or_imp] at ih ⊢
   rw [ht,ih]
 | .many ts::r,L,h=>by
  rw [Kk] at h
  cases hr:Kk r with
  | none=>rw [hr] at h;cases h
  | some L'=>
   rw [hr] at h
   cases h
   have ih:=Cb (b:=b) (o:=o) hr
   simp only [Ve,YE,exists_eq_or_imp] at ih ⊢
   rw [<-ih]
   simp only [Xj,Res.fp]
   constructor
   ·rintro ⟨p,hp|hp,hf⟩
    ·exact .inl ⟨p,hp,hf⟩
    ·exact .inr ⟨p,hp,hf⟩
   ·rintro (⟨p,hp,hf⟩|⟨p,hp,hf⟩)
    ·exact ⟨p,.inl hp,hf⟩
    ·exact ⟨p,.inr hp,hf⟩
 | .obj _ _::_,_,h=>by cases h
 | .ge _::_,_,h=>by cases h
 | .vec _ _::_,_,h=>by cases h
 | .own _ _::_,_,h=>by cases h
 | .row _ _ _::_,_,h=>by cases h
theorem Ic {w:World} {G:Yc}:∀{hs:List Res} {L:List (Value × Nat)},Kk hs=some L->(∀r∈hs,QG w G r)->hs.Pairwise AA->QG w G (.many L)
 | [],L,h,_,_=>by cases h;exact ⟨by simp,.nil⟩
 | .tail v k::r,L,h,h1,h2=>by
  rw [Kk] at h
  cases hr:Kk r with
  | none=>rw [hr] at h;cases h
  | some L'=>
   rw [hr] at h
   cases h
   have hpw:=Vk.1 h2
   obtain ⟨i1,i2⟩:=Ic (w:=w) (G:=G) hr (fun q hq=>h1 q (Xo _ hq)) hpw.2
   refine ⟨fun p hp=>?_,Vk.2 ⟨fun p hp b o f1 f2=>?_,i2⟩⟩
   ·rcases YE.1 hp with rfl|hp
    ·exact h1 (.tail v k) (Xc ..)
    ·exact i1 p hp
   ·obtain ⟨q,hq,hf⟩:=(Cb hr).1 ⟨p,hp,f2⟩
    refine hpw.1 q hq b o ?_ hf
    cases v with
    | slice a _ _=>cases a<;>exact f1
    | _=>exact f1
 | .many ts::r,L,h,h1,h2=>by
  rw [Kk] at h
  cases hr:Kk r with
  | none=>rw [hr] at h;cases h
  | some L'=>
   rw [hr] at h
   cases h
   have hpw:=Vk.1 h2
   obtain ⟨i1,i2⟩:=Ic (w:=w) (G:=G) hr (fun q hq=>h1 q (Xo _ hq)) hpw.2
   obtain ⟨t1,t2⟩:=h1 (.many ts) (Xc ..)
   refine ⟨fun p hp=>?_,A7.2 ⟨t2,i2,fun p hp q hq b o f1 f2=>?_⟩⟩
   ·rcases Xj.1 hp with hp|hp
    ·exact t1 p hp
    ·exact i1 p hp
   ·obtain ⟨s,hs,hf⟩:=(Cb hr).1 ⟨q,hq,f2⟩
    exact hpw.1 s hs b o ⟨p,hp,f1⟩ hf
 | .obj _ _::_,_,h,_,_=>by cases h
 | .ge _::_,_,h,_,_=>by cases h
 | .vec _ _::_,_,h,_,_=>by cases h
 | .own _ _::_,_,h,_,_=>by cases h
 | .row _ _ _::_,_,h,_,_=>by cases h
theorem Zjw (is:List Nat) {L:List (Value × Nat)} {hs:List Res} (hp:Ws is h=some hs) (hb:Kk hs=some L):Tw h (.many L::XP is h):=by
 intro w G hh
 have hp':=UG (VO hp)
 have hh':=hh.perm hp'
 have hpw:=A7.1 hh'.apart
 have hmany:=Ic (w:=w) (G:=G) hb (fun r hr=>hh'.ok r (Xj.2 (.inl hr))) hpw.1
 refine ⟨G,⟨fun r hr=>?_,Vk.2 ⟨fun r hr b o f1 f2=>?_,hpw.2.1⟩,fun r hr b o hf hg=>?_,hh'.lt⟩,
  ⟨rfl,rfl,rfl,X5 _,fun _ _ h=>h,fun _ _=>.inl rfl,fun _ _ _ h=>.inl h,fun b o _ ⟨r,hr,hf⟩=>?_⟩⟩
 ·rcases YE.1 hr with rfl|hr
  ·exact hmany
  ·exact hh'.ok r (Xj.2 (.inr hr))
 ·exact hh'.cross ((Cb hb).1 f1) ⟨r,hr,f2⟩
 ·rcases YE.1 hr with rfl|hr
  ·obtain ⟨q,hq,hf⟩:=(Cb hb).1 hf
   exact hh'.prot q (Xj.2 (.inl hq)) b o hf hg
  ·exact hh'.prot r (Xj.2 (.inr hr)) b o hf hg
 ·refine (Bu hp').2 ?_
  rcases YE.1 hr with rfl|hr
  ·exact Al.2 (.inl ((Cb hb).1 hf))
  ·exact Al.2 (.inr ⟨r,hr,hf⟩)
end
end Go.Abs
section
namespace Go.Abs
structure VD where
 fields:LI
 fv:Value
structure Vn where
 frm:Int
 to_:Int
 cons:List VD
 cv:Value
mutual
inductive Wo where
 | mk (op num into:Int) (args:LI) (av:Value) (kids:List XJ) (kv:Value)
inductive XJ where
 | mk (steps:List Wo) (sv:Value) (result:Int)
end
namespace Wo
def op:Wo->Int|.mk a _ _ _ _ _ _=>a
def num:Wo->Int|.mk _ a _ _ _ _ _=>a
def into:Wo->Int|.mk _ _ a _ _ _ _=>a
def args:Wo->LI|.mk _ _ _ a _ _ _=>a
def av:Wo->Value|.mk _ _ _ _ a _ _=>a
def kids:Wo->List XJ|.mk _ _ _ _ _ a _=>a
def kv:Wo->Value|.mk _ _ _ _ _ _ a=>a
end Wo
namespace XJ
def steps:XJ->List Wo|.mk a _ _=>a
def sv:XJ->Value|.mk _ a _=>a
def result:XJ->Int|.mk _ _ a=>a
end XJ
structure V9 where
 params:LI
 pv:Value
 lent:LI
 lv:Value
 result:Int
 body:XJ
structure Qj where
 decls:List Vn
 dv:Value
 routines:List V9
 rv:Value
abbrev Rt (c:VD):List AV:=[ZQ c.fields c.fv]
abbrev N7 (c:VD):AV:=.agg (Rt c)
def Ut (cs:List VD):List AV:=cs.map N7
abbrev EE (xs:List VD) (v:Value):AV:=.sl (Ut xs) (some v)
abbrev Ru (d:Vn):List AV:=[.i d.frm,.i d.to_,EE d.cons d.cv]
abbrev N8 (d:Vn):AV:=.agg (Ru d)
def Vy (ds:List Vn):List AV:=ds.map N8
abbrev Cy (xs:List Vn) (v:Value):AV:=.sl (Vy xs) (some v)
mutual
def IG:Wo->AV
 | .mk op num into args av kids kv=>.agg [.i op,.i num,.i into,ZQ args av,.sl (Tg kids) (some kv)]
def ID:XJ->AV
 | .mk steps sv result=>.agg [.sl (QJ steps) (some sv),.i result]
def QJ:List Wo->List AV
 | []=>[]
 | s::ss=>IG s::QJ ss
def Tg:List XJ->List AV
 | []=>[]
 | b::bs=>ID b::Tg bs
end
abbrev Dv (xs:List Wo) (v:Value):AV:=.sl (QJ xs) (some v)
abbrev RP (xs:List XJ):AV:=.sl (Tg xs) none
abbrev BC (xs:List XJ) (v:Value):AV:=.sl (Tg xs) (some v)
abbrev Rw (s:Wo):List AV:=[.i s.op,.i s.num,.i s.into,ZQ s.args s.av,BC s.kids s.kv]
abbrev DV (s:Wo):AV:=.agg (Rw s)
abbrev LD (b:XJ):List AV:=[Dv b.steps b.sv,.i b.result]
abbrev Ql (b:XJ):AV:=.agg (LD b)
abbrev Rv (r:V9):List AV:=[ZQ r.params r.pv,ZQ r.lent r.lv,.i r.result,Dv r.body.steps r.body.sv,.i r.body.result]
abbrev N9 (r:V9):AV:=.agg (Rv r)
def Q6 (rs:List V9):List AV:=rs.map N9
abbrev Zdx (xs:List V9):AV:=.sl (Q6 xs) none
abbrev EF (xs:List V9) (v:Value):AV:=.sl (Q6 xs) (some v)
abbrev GS (n:Qj):List AV:=[Cy n.decls n.dv,EF n.routines n.rv]
abbrev DU (n:Qj):AV:=.agg (GS n)
theorem Ou (s:Wo):IG s=DV s:=by cases s;rw [IG];rfl
theorem On (b:XJ):ID b=Ql b:=by cases b;rw [ID];rfl
theorem Ea:∀xs:List Wo,QJ xs=xs.map DV
 | []=>by rw [QJ];rfl
 | s::ss=>by rw [QJ,Ea ss,Ou];rfl
theorem Cg:∀xs:List XJ,Tg xs=xs.map Ql
 | []=>by rw [Tg];rfl
 | b::bs=>by rw [Tg,Cg bs,On];rfl
@[simp] theorem Zl3 (xs:List VD):(Ut xs).length=xs.length:=by simp [Ut]
theorem Z7a (xs ys:List VD):Ut (xs++ys)=Ut xs++Ut ys:=by simp [Ut]
theorem Oo (xs:List VD):∀y∈Ut xs,y.leaves.length=1:=by intro y hy;simp only [Ut,XF] at hy;obtain ⟨x,_,rfl⟩:=hy;rfl
@[simp] theorem Zl4 (xs:List Vn):(Vy xs).length=xs.length:=by simp [Vy]
theorem Z7b (xs ys:List Vn):Vy (xs++ys)=Vy xs++Vy ys:=by simp [Vy]
theorem Oq (xs:List Vn):∀y∈Vy xs,y.leaves.length=3:=by intro y hy;simp only [Vy,XF] at hy;obtain ⟨x,_,rfl⟩:=hy;rfl
@[simp] theorem Zl6 (xs:List Wo):(QJ xs).length=xs.length:=by simp [Ea]
theorem Z7e (xs ys:List Wo):QJ (xs++ys)=QJ xs++QJ ys:=by simp [Ea]
theorem Z7f (xs:List Wo):∀y∈QJ xs,y.leaves.length=5:=by intro y hy;simp only [Ea,XF] at hy;obtain ⟨x,_,rfl⟩:=hy;rfl
@[simp] theorem Zl2 (xs:List XJ):(Tg xs).length=xs.length:=by simp [Cg]
theorem IE (xs ys:List XJ):Tg (xs++ys)=Tg xs++Tg ys:=by simp [Cg]
theorem IF (xs:List XJ):∀y∈Tg xs,y.leaves.length=2:=by intro y hy;simp only [Cg,XF] at hy;obtain ⟨x,_,rfl⟩:=hy;rfl
@[simp] theorem Zl5 (xs:List V9):(Q6 xs).length=xs.length:=by simp [Q6]
theorem Z7c (xs ys:List V9):Q6 (xs++ys)=Q6 xs++Q6 ys:=by simp [Q6]
theorem Ot (xs:List V9):∀y∈Q6 xs,y.leaves.length=5:=by intro y hy;simp only [Q6,XF] at hy;obtain ⟨x,_,rfl⟩:=hy;rfl
theorem Z7d (xs:List V9):(Zh (Q6 xs)).all AV.one=true:=Jp fun y hy=>by simp only [Q6,XF] at hy;obtain ⟨x,_,rfl⟩:=hy;rfl
def Qu (c:VD):List (Value × Nat):=[(c.fv,1)]
def U0 (cs:List VD):List (Value × Nat):=cs.flatMap Qu
def Qv (d:Vn):List (Value × Nat):=U0 d.cons++[(d.cv,1)]
def VV (ds:List Vn):List (Value × Nat):=ds.flatMap Qv
mutual
def Qx:Wo->List (Value × Nat)
 | .mk _ _ _ _ av kids kv=>(av,1)::(WL kids++[(kv,2)])
def Vg:XJ->List (Value × Nat)
 | .mk steps sv _=>Vh steps++[(sv,5)]
def Vh:List Wo->List (Value × Nat)
 | []=>[]
 | s::r=>Qx s++Vh r
def WL:List XJ->List (Value × Nat)
 | []=>[]
 | b::r=>Vg b++WL r
end
def Qw (r:V9):List (Value × Nat):=(r.pv,1)::(r.lv,1)::Vg r.body
def U1 (rs:List V9):List (Value × Nat):=rs.flatMap Qw
def Ti (n:Qj):List (Value × Nat):=VV n.decls++((n.dv,3)::(U1 n.routines++[(n.rv,5)]))
theorem Zaj (b:XJ):Vg b=Vh b.steps++[(b.sv,5)]:=by cases b;rw [Vg];rfl
theorem Qy:∀(xs:List Wo) (ys:List Wo),Vh (xs++ys)=Vh xs++Vh ys
 | [],ys=>by simp [Vh]
 | x::r,ys=>by rw [Q0,Vh,Vh,Qy r ys,UR]
theorem Qt:∀(xs:List XJ) (ys:List XJ),WL (xs++ys)=WL xs++WL ys
 | [],ys=>by simp [WL]
 | x::r,ys=>by rw [Q0,WL,WL,Qt r ys,UR]
theorem QS:Vh []=[]:=by rw [Vh]
theorem QO:WL []=[]:=by rw [WL]
theorem QP (xs ys:List VD):U0 (xs++ys)=U0 xs++U0 ys:=by simp [U0]
theorem QQ (xs ys:List Vn):VV (xs++ys)=VV xs++VV ys:=by simp [VV]
theorem QR (xs ys:List V9):U1 (xs++ys)=U1 xs++U1 ys:=by simp [U1]
def VD.er (c:VD):Ye:=⟨c.fields⟩
def Vn.er (d:Vn):Zf:=⟨d.frm,d.to_,d.cons.map VD.er⟩
mutual
def Wo.er:Wo->Z6
 | .mk op num into args _ kids _=>.mk op num into args (Kr kids)
def XJ.er:XJ->Z7
 | .mk steps _ result=>.mk (J0 steps) result
def J0:List Wo->List Z6
 | []=>[]
 | s::r=>s.er::J0 r
def Kr:List XJ->List Z7
 | []=>[]
 | b::r=>b.er::Kr r
end
def V9.er (r:V9):Yh:=⟨r.params,r.lent,r.result,r.body.er⟩
def Qj.er (n:Qj):Zl:=⟨n.decls.map Vn.er,n.routines.map V9.er⟩
theorem IS:∀xs:List Wo,J0 xs=xs.map Wo.er
 | []=>by rw [J0];rfl
 | x::r=>by rw [J0,IS r];rfl
theorem IQ:∀xs:List XJ,Kr xs=xs.map XJ.er
 | []=>by rw [Kr];rfl
 | x::r=>by rw [Kr,IQ r];rfl
inductive TP:List AV->List AV->Prop
 | nil:TP [] []
 | cons {x y:AV} {xs ys:List AV} (hl:x.leaves.length=y.leaves.length) (h:Va x.leaves y.leaves) (t:TP xs ys):TP (x::xs) (y::ys)
theorem TP.length:∀{xs ys:List AV},TP xs ys->xs.length=ys.length
 | _,_,.nil=>rfl
 | _,_,.cons _ _ t=>by simp [t.length]
theorem TP.els {w:World} {G:Yc} {k b:Nat}:∀{o:Nat} {xs ys:List AV},TP xs ys->Vb w G k b o xs->Vb w G k b o ys
 | _,_,_,.nil,_=>.nil
 | _,_,_,.cons hl h t,.cons hk hm r=>.cons (hl▸hk) (h.mem hm) (t.els r)
theorem Zd.els {es es':List AV} (hv:Option Value) (h:TP es es'):Zd (.sl es hv) (.sl es' none):=by
 intro w G v hr
 cases hr with
 | nil _=>cases h;exact .nil (by simp)
 | sl _ hc hm=>rw [h.length] at hc ⊢;exact .sl (by simp) hc (h.els hm)
theorem TP.map {α β:Type} {f:α->AV} {g:β->AV} {e:α->β} (h:∀x,(f x).leaves.length=(g (e x)).leaves.length/\Va (f x).leaves (g (e x)).leaves):∀xs:List α,TP (xs.map f) ((xs.map e).map g)
 | []=>.nil
 | x::r=>.cons (h x).1 (h x).2 (TP.map h r)
theorem Zdm (c:VD):Va (Rt c) (Dp c.er):=.cons (Zd.forget _ _) .nil
theorem Z7w (cs:List VD):TP (Ut cs) (XT (cs.map VD.er)):=TP.map (f:=N7) (g:=CP) (e:=VD.er) (fun c=>⟨rfl,Zdm c⟩) cs
theorem Zdn (d:Vn):Va (Ru d) (TW d.er):=.cons (Zd.refl _) (.cons (Zd.refl _) (.cons (Zd.els _ (Z7w _)) .nil))
theorem Z7x (ds:List Vn):TP (Vy ds) (YB (ds.map Vn.er)):=TP.map (f:=N8) (g:=AC) (e:=Vn.er) (fun c=>⟨rfl,Zdn c⟩) ds
mutual
theorem Zdq:∀s:Wo,Va (Rw s) (XE s.er)
 | .mk op num into args av kids kv=>by
  rw [Wo.er]
  exact .cons (Zd.refl _) (.cons (Zd.refl _) (.cons (Zd.refl _) (.cons (Zd.forget _ _) (.cons (Zd.els _ (OH kids)) .nil))))
theorem RI:∀b:XJ,Va (LD b) (Xx b.er)
 | .mk steps sv result=>by
  rw [XJ.er]
  exact .cons (Zd.els _ (OI steps)) (.cons (Zd.refl _) .nil)
theorem OI:∀xs:List Wo,TP (QJ xs) (ZD (J0 xs))
 | []=>by rw [QJ,J0,ZD];exact .nil
 | s::r=>by
  rw [QJ,J0,ZD,Ou,Oz]
  exact .cons rfl (Zdq s) (OI r)
theorem OH:∀xs:List XJ,TP (Tg xs) (YU (Kr xs))
 | []=>by rw [Tg,Kr,YU];exact .nil
 | s::r=>by
  rw [Tg,Kr,YU,On,Om]
  exact .cons rfl (RI s) (OH r)
end
theorem Zdp (r:V9):Va (Rv r) (TX r.er):=by
 have h:=RI r.body
 cases h with
 | cons h1 t=>cases t with
  | cons h2 _=>exact .cons (Zd.forget _ _) (.cons (Zd.forget _ _) (.cons (Zd.refl _) (.cons h1 (.cons h2 .nil))))
theorem Z7y (rs:List V9):TP (Q6 rs) (X8 (rs.map V9.er)):=TP.map (f:=N9) (g:=K5) (e:=V9.er) (fun c=>⟨rfl,Zdp c⟩) rs
theorem Zdo (n:Qj):Va (GS n) (YY n.er):=.cons (Zd.els _ (Z7x _)) (.cons (Zd.els _ (Z7y _)) .nil)
theorem Nx (n:Qj):Zd (DU n) (Yt n.er):=Zd.agg (Zdo n)
theorem WA.args_le {P:Program} {f:FuncId} {as1 xs:List AV} {h:List Res} {R:AV->List Res->Prop} (H:WA P f xs h R) (hle:Va as1 xs):WA P f as1 h R:=
 fun w G vs hvs hh=>H w G vs (hle.cs hvs) hh
theorem TM {es:List AV} {k:Nat} (h:es.all (fun y=>Nat.beq y.leaves.length k)=true):∀y∈es,y.leaves.length=k:=fun y hy=>US (A5.1 h y hy)
abbrev rK (g:Hd) (k:Nat) (ls:List AV):Res:=.row g.v k ls
section
variable {P:Program} {n:Nat} {c:Code} {A:V2} {F:Fr} {h:List Res} {ops:Array Oper} {B:Fr->List Res->Prop} {k:Nat}
variable {T:List (Nat × List Nat)} {fuel:Nat} {done:List Nat}
theorem tB (is:List Nat) (hs:List Res) (L' L:List (Value × Nat)) (e:L'=L) (hp:Ws is h=some hs:=by kernel_rfl) (hb:Kk hs=some L':=by kernel_rfl):Tw h (.many L::XP is h):=e▸Zjw is hp hb
theorem rr {v:Value} {q:Nat} {ls ls':List AV} {t t':List Res} (h:ls=ls') (e:t=t'):Res.row v q ls::t=.row v q ls'::t':=h▸e▸rfl
theorem R7 (j m:Nat) (v:Hd) (kk:Nat) (ls:List AV) (hm:ls.length=m*kk) (hk:0<kk:=by omega) (hl:Dq P ops F k=some (.h v):=by kernel_rfl) (hj:h[j]? = some (rK v kk ls):=by kernel_rfl):XA P (ZB ops k) F h [] (.i m):=
 Zj5 j hl hj hm hk
theorem Wt (b l c' q sz:Nat) (j:Int) (hq:j=(q:Int)/\q<l:=by omega) (hi:Bz P ops F k=some (.val (.slice (some ⟨b,0,none⟩) l c'),j,sz):=by kernel_rfl):XA P (ZB ops k) F h [] (.val (.pointer (some ⟨b,q*sz,none⟩))):=by
 have:=Z1s (P:=P) (F:=F) (h:=h) hi om om
 rw [hq.1,VC,Vm] at this
 exact this
theorem Vz (j g len cap kk o:Nat) (ls zs:List AV) (t:TypeId) (y:AV) (hz:(ls.drop o).take zs.length=zs) (hl:LP ops F k=some (t,.val (.pointer (some ⟨g,o,none⟩))):=by kernel_rfl) (hj:h[j]? = some (.row (.slice (some ⟨g,0,none⟩) len cap) kk ls):=by kernel_rfl)
  (hy:AZ P t zs=some y:=by kernel_rfl):XA P (ZB ops k) F h [g] y:=Zj6 j hl hj hz hy
theorem Eu (j g len cap kk o:Nat) (xs ls:List AV) (ls':List AV) (hlt:o+xs.length<=ls.length) (he:ls.take o++xs++ls.drop (o+xs.length)=ls') (H:SI P n ops B (k+1) F (.row (.slice (some ⟨g,0,none⟩) len cap) kk ls'::XP [j] h)) (hk:Xh n ops F k=true:=by kernel_rfl)
  (hs:storeAt P ops F k=some (g,o,xs):=by kernel_rfl) (hp:Ws [j] h=some [.row (.slice (some ⟨g,0,none⟩) len cap) kk ls]:=by kernel_rfl):SI P n ops B k F h:=
 Qc hk (WJ.perm (UG (VO hp)) (Si hs hlt (by rw [he];exact H)))
theorem Cd (i j:Nat) (js bs:List Nat) (g len cap kk o:Nat) (xs ls:List AV) (ls':List AV) (hlt:o+xs.length<=ls.length) (he:ls.take o++xs++ls.drop (o+xs.length)=ls')
  (H:YW P n ops B (T.filter fun t=>!Vd ops i t.1) fuel (done++[i]) F (.row (.slice (some ⟨g,0,none⟩) len cap) kk ls'::XP [j] h)) (hk:Xh n ops F i=true:=by kernel_rfl)
  (hs:storeAt P ops F i=some (g,o,xs):=by kernel_rfl) (hp:Ws [j] h=some [.row (.slice (some ⟨g,0,none⟩) len cap) kk ls]:=by kernel_rfl) (ho:Uo ops i T=bs:=by kernel_rfl)
  (hj:js.map (fun q=>(WP (XP [j] h))[q]?)=bs.map some:=by kernel_rfl):VI P n ops B T fuel done F h i:=
 KY [j] js bs hk (VO hp) ho hj (Si (h2:=[]) hs hlt (by rw [he];exact H))
theorem Dk (sz:Nat) (hK:∀g,SI P n ops B (k+1) (F.put (ZB ops k).dst (.val (.slice (some ⟨g,0,none⟩) 0 0))) (.row (.slice (some ⟨g,0,none⟩) 0 0) sz []::h)) (hk:Xh n ops F k=true:=by kernel_rfl)
  (ha:TY P ops F k=some ([],0,sz):=by kernel_rfl):SI P n ops B k F h:=Qc hk (Zen (U5 hk).2.1 ha hK)
theorem Gw (j g sz:Nat) (xs:List AV) (hx:Option Value) (hxs:∀y∈xs,y.leaves.length=sz) (hbound:xs.length<=4294967296) (hK:∀v:Hd,SI P n ops B (k+1) (F.put (ZB ops k).dst (.h v)) (rK v sz (Zh xs)::XP [j] h))
  (hk:Xh n ops F k=true:=by kernel_rfl) (ha:UV P ops F k=some (.val (.slice (some ⟨g,0,none⟩) 0 0),.sl xs hx,sz):=by kernel_rfl) (hp:Ws [j] h=some [.row (.slice (some ⟨g,0,none⟩) 0 0) sz []]:=by kernel_rfl):SI P n ops B k F h:=
 Qc hk (WJ.perm (UG (VO hp)) (Zel (U5 hk).2.1 ha hxs hbound hK))
theorem R4 (j m:Nat) {v:Hd} {kk:Nat} {ls:List AV} (hm:ls.length=m*kk) (h0:0<m) (H:∀g c',v=⟨some ⟨g,0,none⟩,m,c'⟩->Yw P n c A F h) (hk:0<kk:=by omega) (hj:h[j]? = some (rK v kk ls):=by kernel_rfl):Yw P n c A F h:=
 Z3c j m hj hm hk h0 H
theorem R6 (t j:Nat) {v:Hd} {kk:Nat} (es:List AV) (hes:∀y∈es,y.leaves.length=kk) (H:Yw P n c A ((t,.sl es (some v.v))::F) (.tail v.v kk::XP [j] h)) (hk:0<kk:=by omega) (hF':F.get t=.h v:=by kernel_rfl)
  (hp:Ws [j] h=some [rK v kk (Zh es)]:=by kernel_rfl):Yw P n c A F h:=Z3b t j hF' hp hes hk H
theorem Zjr (j i p:Nat) (u v:Value) (kk kv:Nat) (es ls:List AV) (hes:∀y∈es,y.leaves.length=kk) (hl:ls[p]? = some (.val u)) (hk:0<kk:=by omega) (hp:Ws [j,i] h=some [.row u kk (Zh es),.row v kv ls]:=by kernel_rfl) :
  Tw h (.row v kv (ls.set p (.sl es (some u)))::.tail u kk::XP [j,i] h):=Z28 j i p hp hes hk hl
theorem EU {A xs ys B:List AV} {o:Nat} (hA:A.length=o) (hl:xs.length=ys.length):(A++(xs++B)).take o++ys++(A++(xs++B)).drop (o+ys.length)=A++(ys++B):=by
 subst hA
 rw [Aw,<-hl,<-List.drop_drop,List.drop_left,List.drop_left,UR]
theorem Mn {A xs B:List AV} {o:Nat} (hA:A.length=o):((A++(xs++B)).drop o).take xs.length=xs:=by
 subst hA
 rw [List.drop_left,Aw]
theorem UL (xs ys:List AV):Zh (xs++ys)=Zh xs++Zh ys:=by simp [Zh]
theorem Z8h:Zh []=[]:=rfl
theorem DI (j:Nat) (v:Value) (q:Nat) (ls ls':List AV) (e:ls=ls') (hp:Ws [j] h=some [.row v q ls]:=by kernel_rfl):Tw h (.row v q ls'::XP [j] h):=by
 subst e
 intro w G hh
 have hp':=UG (VO hp)
 exact ⟨G,hh.perm hp',(YX.refl w G h).perm (K1 _) hp'⟩
end
end Go.Abs
end
section
namespace Go.Abs
theorem Yx.rgrow {w:World} {G:Yc} {h2:List Res} {g len len' cap k:Nat} {ls ls':List AV} (hh:Yx w G (.row (.slice (some ⟨g,0,none⟩) len cap) k ls::h2)) {cs cs':Array Value} {e:TypeId}
  (hb:w.heap[g]? = some (.cells cs e (0,0))) (Xu:cs'.size=cs.size) (hle:len'<=cap) (hcap:cs.size=cap*k) (hl:ls'.length=len'*k) (hls:YV w G ls' (cs'.toList.take (len'*k))) :
  Yx (w.setRow g cs') G (.row (.slice (some ⟨g,0,none⟩) len' cap) k ls'::h2) /\
   YX w G (.row (.slice (some ⟨g,0,none⟩) len cap) k ls::h2) (w.setRow g cs') G (.row (.slice (some ⟨g,0,none⟩) len' cap) k ls'::h2):=by
 have hmem:Res.row (.slice (some ⟨g,0,none⟩) len cap) k ls∈Res.row (.slice (some ⟨g,0,none⟩) len cap) k ls::h2:=Xc ..
 have hA:Uc G w (w.setRow g cs') G:=⟨fun c j hg=>by
  have hne:c≠g:=fun he=>hh.prot _ hmem c j he hg
  simp [World.cell?,U6 w g c cs' hne],fun _ _ h=>h⟩
 have e1:YX w G [.row (.slice (some ⟨g,0,none⟩) len cap) k ls] (w.setRow g cs') G [.row (.slice (some ⟨g,0,none⟩) len' cap) k ls']:=by
  refine ⟨rfl,rfl,rfl,by simp [World.setRow],fun _ _ h=>h,?_,fun _ _ _ h=>.inl h,?_⟩
  ·intro c hc
   by_cases hcb:c=g
   ·subst hcb
    exact .inr ⟨cs,cs',e,(0,0),hb,setRow_heap w c cs cs' e (0,0) hb,Xu,fun j hj=>absurd ⟨_,Xc ..,rfl⟩ hj⟩
   ·exact .inl (U6 w g c cs' hcb)
  ·rintro c j _ ⟨r,hr,hf⟩
   rw [XI.1 hr] at hf
   exact ⟨_,Xc ..,hf⟩
 have e2:Yx (w.setRow g cs') G [.row (.slice (some ⟨g,0,none⟩) len' cap) k ls']:=by
  refine ⟨fun r hr=>?_,BY _ _,fun r hr c j hf hg=>?_,fun c j hg=>?_⟩
  ·rw [XI.1 hr]
   exact .inr ⟨g,len',cap,cs',e,rfl,setRow_heap w g cs cs' e (0,0) hb,hle,Xu.trans hcap,hl,hls.mono hA⟩
  ·rw [XI.1 hr] at hf
   exact hh.prot _ hmem c j hf hg
  ·have:=hh.lt c j hg
   simpa [World.setRow] using this
 exact Yx.frame (h:=[.row (.slice (some ⟨g,0,none⟩) len cap) k ls]) (k:=h2) hh e1 e2
section
variable {P:Program} {n:Nat} {ops:Array Oper} {k:Nat} {F:Fr} {h2:List Res}
theorem Sf {K:Fr->List Res->Prop} {v:Hd} {sz m:Nat} {ls xs:List AV} {hx:Option Value} (hd:VK n (ZB ops k)=true) (ha:UV P ops F k=some (.val v.v,.sl xs hx,sz))
  (hxs:∀y∈xs,y.leaves.length=sz) (hone:(Zh xs).all AV.one=true) (hm0:ls.length=m*sz) (hk0:0<sz) (hne:xs≠[]) (hbound:m+xs.length<=4294967296)
  (hK:∀v':Hd,K (F.put (ZB ops k).dst (.val v'.v)) (.row v'.v sz (ls++Zh xs)::h2)):WJ P n (ZB ops k) F (.row v.v sz ls::h2) K:=by
 unfold UV at ha
 generalize hoo:ZB ops k=o at ha hd hK
 obtain ⟨dst,op,type,pos,after,guard⟩:=o
 cases op<;>simp only at ha<;>try (cases ha)
 rename_i c
 obtain ⟨callee,args,tys⟩:=c
 simp only at ha
 split at ha
 case h_2=>cases ha
 rename_i s x t t' hargs htys
 split at ha
 case h_2=>cases ha
 rename_i e htt ht
 have:=US htt
 subst this
 split at ha
 case h_2=>cases ha
 rename_i i hinfo
 split at ha
 case h_2=>cases ha
 rename_i z hz
 split at ha
 case h_2=>cases ha
 rename_i hb
 simp only [Wa] at hb
 simp only [Wn,Prod.mk.injEq] at ha
 obtain ⟨h3,h4,hk1⟩:=ha
 have e1:args=#[s,x]:=by rw [<-Up (xs:=args),hargs]
 have e2:tys=#[t,t]:=by rw [<-Up (xs:=tys),htys]
 subst e1;subst e2
 have hzs:z.cells.size=sz:=by rw [US hb.1,hk1]
 have hby:=Vl hb.2
 have hfl:=UZ xs hxs
 intro Q w G a hF hh
 have v1:=hF.ev s
 have v2:=hF.ev x
 rw [h3] at v1
 rw [h4] at v2
 have v1:=v1.val_inv
 have v2:=v2.forget
 have finish:∀(v':Hd) w',(Builtin.append_ #[t,t] type #[v.v,a.eval x]).run P w=.ok v'.v w'->Yx w' G (.row v'.v sz (ls++Zh xs)::h2)->YX w G (.row v.v sz ls::h2) w' G (.row v'.v sz (ls++Zh xs)::h2) ->
   ({ dst:=dst,op:=.call { callee:=.builtin .append,args:=#[s,x],argTypes:=#[t,t] },type:=type,pos:=pos,after:=after,guard:=guard }:Oper).wp P a w
    (fun a' w'=>∃F' h' G',K F' h'/\FR w' G' n F' a'/\Yx w' G' h'/\YX w G (.row v.v sz ls::h2) w' G' h') Q:=by
  intro v' w' hr j1 j2
  have hrun:(execOp a.eval { dst:=dst,op:=.call { callee:=.builtin .append,args:=#[s,x],argTypes:=#[t,t] },type:=type,pos:=pos,after:=after,guard:=guard }).run P w=.ok (.value v'.v) w':=by
   simp only [execOp,resolve,invoke,builtin,Sem.run_bind,Sem.run_pure,Result.andThen_ok,BW,VQ,A6,v1,hr]
  unfold Oper.wp
  rw [hrun]
  exact ⟨_,_,G,hK v',(hF.mono (j2.agree hh)).put (Te hd) .val,j1,j2⟩
 have hrow0:=hh.ok (.row v.v sz ls) (Xc ..)
 have hsub2:∀r:Res,List.Sublist (r::h2) (r::.row v.v sz ls::h2):=fun r=>List.Sublist.cons_cons _ (BZ _ _)
 have grown:∀(olds news:List Value) (old:Nat),YV w G ls olds->YV w G (Zh xs) news ->
   Yx (w.drew.alloc (.cells (olds.toArray++news.toArray++Builtin.zeroCells z.cells (grownCap w (m+xs.length) old e-(m+xs.length))) e)) G
    (.row (.slice (some ⟨w.heap.size,0,none⟩) (m+xs.length) (grownCap w (m+xs.length) old e)) sz (ls++Zh xs)::h2) /\
   YX w G (.row v.v sz ls::h2) (w.drew.alloc (.cells (olds.toArray++news.toArray++Builtin.zeroCells z.cells (grownCap w (m+xs.length) old e-(m+xs.length))) e)) G
    (.row (.slice (some ⟨w.heap.size,0,none⟩) (m+xs.length) (grownCap w (m+xs.length) old e)) sz (ls++Zh xs)::h2):=by
  intro olds news old ho hn
  have Xr:=grownCap_ge w (m+xs.length) old e
  have hol:=ho.length
  have hnl:=hn.length
  have hlen:(ls++Zh xs).length=(m+xs.length)*sz:=by rw [Ys,hm0,hfl,K3]
  obtain ⟨j1,j2⟩:=hh.drew.alloc_rrow (olds.toArray++news.toArray++Builtin.zeroCells z.cells (grownCap w (m+xs.length) old e-(m+xs.length))) e
   (ls:=ls++Zh xs) (len:=m+xs.length) (cap:=grownCap w (m+xs.length) old e) (k:=sz) Xr
   (by
    have q2:(grownCap w (m+xs.length) old e-(m+xs.length))*sz=grownCap w (m+xs.length) old e*sz-(m+xs.length)*sz:=Nat.sub_mul ..
    have q3:(m+xs.length)*sz<=grownCap w (m+xs.length) old e*sz:=Kh _ Xr
    have q4:(m+xs.length)*sz=m*sz+xs.length*sz:=K3 ..
    simp only [Array.size_append,DM,size_zeroCells,hzs,hol,hnl,hm0,hfl]
    omega) hlen
   (by
    have:(olds.toArray++news.toArray++Builtin.zeroCells z.cells (grownCap w (m+xs.length) old e-(m+xs.length))).toList.take ((m+xs.length)*sz)=olds++news:=by
     simp only [DL]
     rw [<-hlen,Ys,<-hol,<-hnl,<-Ys]
     exact Aw
    rw [this]
    exact (ho.append hn).mono (Bn w G))
  exact ⟨j1.sub (hsub2 _),(YX.drew w G _).trans (j2.sub' (hsub2 _))⟩
 generalize hax:a.eval x=ax at v2 finish
 cases v2 with
 | nil _=>exact absurd rfl hne
 | sl hq hcc hm=>
  rename_i b o' k' c
  have hpos:0<xs.length:=Fs.2 hne
  have hfm:=hm.flat_mem
  obtain ⟨news,hn,hnc⟩:=hfm.cells
  have hnl:news.length=xs.length*i.size:=by rw [hn.length,hfl,hk1]
  have hone':=hn.one_cells hone
  have hnews:∀j u,news[j]? = some u->w.cell? ((⟨b,o',none⟩:Addr).add j)=some u:=fun j u hj=>by rw [Jj];exact (hnc j u hj).1
  have hbb:(m+xs.length)*i.bytes<=140737488355328:=by
   have:=Nat.mul_le_mul hbound hby
   omega
  rcases hrow0 with ⟨hv0,hl0⟩|⟨g,len,cap,cur,el,hv0,hrow,hlc,hcur,hll,hcells⟩
  ·subst hl0
   have hm1:m=0:=by
    have:m*sz=0:=by simpa using hm0.symm
    rcases Nat.mul_eq_zero.1 this with h|h
    ·exact h
    ·omega
   subst hm1
   rw [hv0] at finish hh ⊢
   have hr:=run_append_nil (P:=P) w t type e i z ht hinfo hz ⟨b,o',none⟩ xs.length c news hnl hnews hpos om (by simp only [Vm] at hbb;omega)
   obtain ⟨j1,j2⟩:=grown [] news 0 .nil hn
   simp only [Vm,Array.empty_append,BX] at j1 j2
   rw [hv0] at j2
   exact finish ⟨some ⟨w.heap.size,0,none⟩,xs.length,grownCap w xs.length 0 e⟩ _ hr (by simpa using j1) (by simpa using j2)
  ·have hlm:len=m:=HQ hk0 (hll.symm.trans hm0)
   subst hlm
   rw [hv0] at finish hh ⊢
   have q5:len*sz<=cap*sz:=Kh _ hlc
   have h1:(cur.toList.take (len*sz)).length=len*sz:=by rw [WT,Je,hcur,Uy q5]
   have hcl:cur.toList.length=cap*sz:=by rw [Je,hcur]
   by_cases hroom:len+xs.length<=cap
   ·have q1:(len+xs.length)*sz<=cap*sz:=Kh _ hroom
    have q2:(len+xs.length)*sz=len*sz+xs.length*sz:=K3 ..
    have hfit:len*i.size+news.length<=cur.size:=by rw [hnl,hcur,hk1];omega
    have hr:=He (P:=P) w t type e el i ht hinfo g len cap cur hrow ⟨b,o',none⟩ xs.length c news hnl hnews hone' hroom hfit
    rw [hk1] at hr
    have hnl':news.length=xs.length*sz:=by rw [hnl,hk1]
    obtain ⟨j1,j2⟩:=hh.rgrow (ls':=ls++Zh xs) (len':=len+xs.length) (cs':=(cur.toList.take (len*sz)++news++cur.toList.drop (len*sz+news.length)).toArray) hrow
     (by simp only [DM,Ys,h1,hnl',Bf,hcl,hcur];omega) hroom hcur (by rw [Ys,hll,hfl,q2]) (by
      have:(cur.toList.take (len*sz)++news++cur.toList.drop (len*sz+news.length)).toArray.toList.take ((len+xs.length)*sz)=cur.toList.take (len*sz)++news:=by
       rw [DN,q2,<-hnl']
       conv=>lhs;arg 1;rw [show len*sz+news.length=(cur.toList.take (len*sz)++news).length from by rw [Ys,h1]]
       exact Aw
      rw [this]
      exact hcells.append hn)
    exact finish ⟨some ⟨g,0,none⟩,len+xs.length,cap⟩ _ hr j1 j2
   ·have hr:=run_append_grow (P:=P) w t type e i z ht hinfo hz ⟨g,0,none⟩ len cap (cur.toList.take (len*sz)) (by rw [hk1];exact h1) (fun j u hj=>by
     rw [Jj,cell_of_row w g _ cur el (0,0) hrow]
     rw [Qi] at hj
     split at hj
     ·simpa using hj
     ·cases hj) ⟨b,o',none⟩ xs.length c news hnl hnews om om (growslice_fits om hbb)
    obtain ⟨j1,j2⟩:=grown (cur.toList.take (len*sz)) news cap hcells hn
    rw [hv0] at j2
    exact finish ⟨some ⟨w.heap.size,0,none⟩,len+xs.length,grownCap w (len+xs.length) cap e⟩ _ hr j1 j2
end
section
variable {P:Program} {n:Nat} {ops:Array Oper} {B:Fr->List Res->Prop} {k:Nat} {F:Fr} {h:List Res}
theorem Gv (j m:Nat) (v:Hd) (sz:Nat) (ls xs:List AV) (hx:Option Value) (hm0:ls.length=m*sz) (hxs:∀y∈xs,y.leaves.length=sz) (hone:(Zh xs).all AV.one=true) (hne:xs≠[]) (hbound:m+xs.length<=4294967296)
  (hK:∀v':Hd,SI P n ops B (k+1) (F.put (ZB ops k).dst (.h v')) (rK v' sz (ls++Zh xs)::XP [j] h)) (hk0:0<sz:=by omega)
  (hk:Xh n ops F k=true:=by kernel_rfl) (ha:UV P ops F k=some (.h v,.sl xs hx,sz):=by kernel_rfl) (hp:Ws [j] h=some [rK v sz ls]:=by kernel_rfl):SI P n ops B k F h:=
 Qc hk (WJ.perm (UG (VO hp)) (Sf (U5 hk).2.1 ha hxs hone hm0 hk0 hne hbound hK))
end
end Go.Abs
namespace Go.Abs
section
variable {P:Program} {n:Nat} {ops:Array Oper} {B:Fr->List Res->Prop} {T:List (Nat × List Nat)} {fuel:Nat} {done:List Nat} {F:Fr} {h:List Res}
theorem Od (i j m:Nat) (js bs:List Nat) (v:Hd) (sz:Nat) (ls xs:List AV) (hx:Option Value) (hm0:ls.length=m*sz) (hxs:∀y∈xs,y.leaves.length=sz) (hone:(Zh xs).all AV.one=true) (hne:xs≠[]) (hbound:m+xs.length<=4294967296)
  (hK:∀v':Hd,YW P n ops B (T.filter fun t=>!Vd ops i t.1) fuel (done++[i]) (F.put (ZB ops i).dst (.h v')) (rK v' sz (ls++Zh xs)::XP [j] h)) (hk0:0<sz:=by omega) (hk:Xh n ops F i=true:=by kernel_rfl)
  (ha:UV P ops F i=some (.h v,.sl xs hx,sz):=by kernel_rfl) (hp:Ws [j] h=some [rK v sz ls]:=by kernel_rfl) (ho:Uo ops i T=bs:=by kernel_rfl)
  (hj:js.map (fun q=>(WP (XP [j] h))[q]?)=bs.map some:=by kernel_rfl):VI P n ops B T fuel done F h i:=
 KY [j] js bs hk (VO hp) ho hj (Sf (h2:=[]) (U5 hk).2.1 ha hxs hone hm0 hk0 hne hbound hK)
end
end Go.Abs
namespace Go.Abs
section
variable {h:List Res}
theorem Zjx (j i p:Nat) {u:Value} {kk b:Nat} {es ls:List AV} (hp:Ws [j,i] h=some [.row u kk (Zh es),.obj b ls]) (hes:∀y∈es,y.leaves.length=kk) (hk:0<kk) (hl:ls[p]? = some (.val u)) :
  Tw h (.obj b (ls.set p (.sl es (some u)))::.tail u kk::XP [j,i] h):=by
 intro w G hh
 have hp':=UG (VO hp)
 have hh':=hh.perm hp'
 obtain ⟨G',h1,h2',h3⟩:=CC (h2:=.obj b ls::XP [j,i] h) hh' hes hk
 have e:=h2'.perm hp'.symm (K1 _)
 have h1:Yx w G' (.tail u kk::.obj b ls::XP [j,i] h):=h1
 have perm:(Res.tail u kk::.obj b ls::XP [j,i] h).Perm (.obj b ls::.tail u kk::XP [j,i] h):=List.Perm.swap ..
 have h4:=h1.perm perm
 have e4:=e.perm (K1 _) perm
 have hset:∀{w:World} {G:Yc},RV w G (.sl es (some u)) u->QG w G (.obj b ls)->QG w G (.obj b (ls.set p (.sl es (some u)))):=by
  intro w G hu hr
  obtain ⟨cs,el,k1,k5⟩:=hr
  refine ⟨cs,el,k1,?_⟩
  obtain ⟨c,c1,c2⟩:=k5.get p _ hl
  have:=c2.val_inv
  subst this
  have h6:=k5.set p hu
  rwa [show cs.toList.set p c=cs.toList from by
   apply List.ext_getElem?
   intro q
   rw [List.getElem?_set]
   split
   ·rename_i hq;subst hq;split
    ·exact c1.symm
    ·rename_i hq2;rw [Be om]
   ·rfl] at h6
 refine ⟨G',⟨fun r hr=>?_,?_,fun r hr=>?_,h4.lt⟩,⟨e4.os,e4.tape,e4.output,e4.size,e4.sub,e4.same,e4.newG,fun b' o hb ⟨r,hr,hf⟩=>e4.newfp b' o hb ?_⟩⟩
 ·rcases YE.1 hr with rfl|hr
  ·exact hset h3 (h4.ok _ (Xc ..))
  ·exact h4.ok r (Xo _ hr)
 ·have:=Vk.1 h4.apart
  exact Vk.2 ⟨fun r hr b' o f1 f2=>this.1 r hr b' o f1 f2,this.2⟩
 ·rcases YE.1 hr with rfl|hr
  ·exact fun b' o f1 hg=>h4.prot (.obj b ls) (Xc ..) b' o f1 hg
  ·exact h4.prot r (Xo _ hr)
 ·rcases YE.1 hr with rfl|hr
  ·exact ⟨.obj b ls,Xc ..,hf⟩
  ·exact ⟨r,Xo _ hr,hf⟩
theorem TZ (j i p:Nat) (u:Value) (kk b:Nat) (es ls:List AV) (hes:∀y∈es,y.leaves.length=kk) (hl:ls[p]? = some (.val u)) (hk:0<kk:=by omega) (hp:Ws [j,i] h=some [.row u kk (Zh es),.obj b ls]:=by kernel_rfl) :
  Tw h (.obj b (ls.set p (.sl es (some u)))::.tail u kk::XP [j,i] h):=Zjx j i p hp hes hk hl
end
end Go.Abs
namespace Go.Abs
section
variable {P:Program} {n:Nat} {ops:Array Oper} {k:Nat} {F:Fr} {h:List Res}
theorem Zj7 (j:Nat) {g l c m kk:Nat} {ls:List AV} (hi:DF P ops F k=some (.val (.slice (some ⟨g,0,none⟩) l c),(m:Int))) (hj:h[j]? = some (.row (.slice (some ⟨g,0,none⟩) l c) kk ls)) (hle:m<=l) :
  XA P (ZB ops k) F h [] (.val (.slice (some ⟨g,0,none⟩) m c)):=by
 unfold DF at hi
 generalize hoo:ZB ops k=o at hi
 obtain ⟨dst,op,type,pos,after,guard⟩:=o
 cases op<;>simp only at hi<;>try (cases hi)
 rename_i t x lo hi' mx
 cases lo with
 | some _=>simp at hi
 | none=>
  cases hi' with
  | none=>simp at hi
  | some y=>
   cases mx with
   | some _=>simp at hi
   | none=>
    simp only at hi
    split at hi
    ·rename_i e ht
     split at hi
     ·rename_i inf hinf
      split at hi
      ·rename_i ik m' hm
       simp only [Wn,Prod.mk.injEq] at hi
       obtain ⟨hx,rfl⟩:=hi
       intro n w G a hF hh
       have v1:=hF.ev x
       rw [hx] at v1
       have v1:=v1.val_inv
       have v2:=hF.ev y
       rw [hm] at v2
       have v2:=v2.val_inv
       have hcap:l<=c:=by
        rcases hh.ok _ (Y3 hj) with ⟨h0,_⟩|⟨g',l',c',cur,el,h0,_,hc,_⟩
        ·cases h0
        ·cases h0;exact hc
       refine ⟨_,.val,fun w' _ _=>?_⟩
       simp only [execOp,v1,v2,C2,Option.map_none]
       refine Vj ?_
       simp only [Instr.sliceAt,Sem.run_bind,VG ht,Result.andThen_ok,Instr.slice]
       have hmm:(Instr.sliceBounds true l c none (some (.int ik (m:Int))) none).run P w'=.ok (0,m,c) w':=by
        have ZA:=fun q=>DD (P:=P) (c:=q) (v:=.int ik (m:Int)) (y:=c) rfl om om w'
        simp [Instr.sliceBounds,ZA]
       rw [hmm]
       have hz:∀a:Addr,a.add 0=a:=fun a=>by simp [Addr.add]
       simp only [Result.andThen_ok,K0 hinf,Nat.zero_mul,hz]
       by_cases h0:c=0<;>simp [h0]
      ·cases hi
     ·cases hi
    ·cases hi
theorem Lv (j g l c m kk:Nat) (ls:List AV) (hle:m<=l:=by omega) (hi:DF P ops F k=some (.val (.slice (some ⟨g,0,none⟩) l c),(m:Int)):=by kernel_rfl) (hj:h[j]? = some (.row (.slice (some ⟨g,0,none⟩) l c) kk ls):=by kernel_rfl) :
  XA P (ZB ops k) F h [] (.val (.slice (some ⟨g,0,none⟩) m c)):=Zj7 j hi hj hle
variable {B:Fr->List Res->Prop}
end
end Go.Abs
end
namespace Go.Abs
theorem Y6 {α:Type} {xs:List α} {k:Nat} {x:α} (h:xs[k]? = some x):xs.drop k=x::xs.drop (k+1):=by
 have hk:=(Xs.1 h).1
 rw [Z2y hk]
 congr 1
 rw [Q1 hk] at h
 exact UT h
theorem Xq {α:Type} {xs:List α} {k:Nat} (h:xs.length<=k):xs.drop k=[]:=HN h
theorem V6 {α:Type} {xs:List α} {k:Nat} {x:α} (h:xs[k]? = some x):xs.take (k+1)=xs.take k++[x]:=by
 rw [List.take_add_one,h];rfl
def YQ:List Zf->Nat
 | []=>0
 | d::ds=>d.cons.length+YQ ds
theorem E4 (xs ys:List Zf):YQ (xs++ys)=YQ xs+YQ ys:=by
 induction xs with
 | nil=>simp [YQ]
 | cons d ds ih=>simp [YQ,ih];omega
structure Wv (ds:List Zf):Prop where
 len:ds.length<=4
 cons:∀d∈ds,d.cons.length<=3
 fields:∀d∈ds,∀c∈d.cons,c.fields.length<=3
theorem Z5x {ds:List Zf} {m:Nat} (h:∀d∈ds,d.cons.length<=m):YQ ds<=ds.length*m:=by
 induction ds with
 | nil=>simp [YQ]
 | cons d ds ih=>
  have h1:=h d (by simp)
  have h2:=ih (fun x hx=>h x (by simp [hx]))
  simp only [YQ,YZ,K3];omega
theorem Wv.sum {ds:List Zf} (h:Wv ds):YQ ds<=12:=by
 have:=Z5x h.cons
 have:=h.len
 have:ds.length*3<=4*3:=Kh 3 h.len
 omega
theorem Wv.take {ds:List Zf} (h:Wv ds) (k:Nat):Wv (ds.take k):=
 ⟨by have:=h.len;simp;omega,fun d hd=>h.cons d (Tu hd),fun d hd=>h.fields d (Tu hd)⟩
theorem Wv.cons_at {ds:List Zf} (h:Wv ds) {k:Nat} {d:Zf} (hd:ds[k]? = some d):d.cons.length<=3:=h.cons d (Y3 hd)
theorem Wv.fields_at {ds:List Zf} (h:Wv ds) {k j:Nat} {d:Zf} {c:Ye} (hd:ds[k]? = some d) (hc:d.cons[j]? = some c):c.fields.length<=3:=
 h.fields d (Y3 hd) c (Y3 hc)
def TA (c:Int):List Zf->Nat->Nat->Int × LI
 | [],_,_=>(-1,[])
 | d::ds,i,first=>
  if (first:Int)<=c/\c<=((first+d.cons.length:Nat):Int)-1 then ((i:Int)+1,(d.cons[(c-first).toNat]?.map (·.fields)).getD []) else TA c ds (i+1) (first+d.cons.length)
def Wk (ds:List Zf) (c:Int):Int:=(TA c ds 0 0).1
def ZX (ds:List Zf) (c:Int):LI:=(TA c ds 0 0).2
theorem Ij {c:Int}:∀{ds:List Zf} {i first:Nat},(TA c ds i first=(-1,[]) ∨
  ∃k d x,ds[k]? = some d/\(first+YQ (ds.take k):Int)<=c/\c<first+YQ (ds.take k)+d.cons.length/\d.cons[(c-(first+YQ (ds.take k))).toNat]? = some x/\TA c ds i first=((i:Int)+k+1,x.fields))
 | [],_,_=>.inl rfl
 | d::ds,i,first=>by
  rw [TA]
  split
  ·rename_i h
   have hlt:(c-first).toNat<d.cons.length:=by omega
   refine .inr ⟨0,d,d.cons[(c-first).toNat],rfl,by simp [YQ];omega,by simp [YQ];omega,?_,?_⟩
   ·simp [YQ]
   ·rw [Q1 hlt];simp
  ·rcases Ij (c:=c) (ds:=ds) (i:=i+1) (first:=first+d.cons.length) with h|⟨k,e,x,h1,h2,h3,h4,h5⟩
   ·exact .inl h
   ·refine .inr ⟨k+1,e,x,by simpa using h1,by simp [YQ];omega,by simp [YQ];omega,?_,?_⟩
    ·rw [<-h4];congr 3;simp [YQ];omega
    ·rw [h5];congr 1;omega
theorem Ik {ds:List Zf} {c:Int} (h:¬Wk ds c<1) :
  ∃k d x,ds[k]? = some d/\(YQ (ds.take k):Int)<=c/\d.cons[(c-YQ (ds.take k)).toNat]? = some x/\Wk ds c=(k:Int)+1/\ZX ds c=x.fields:=by
 rcases Ij (c:=c) (ds:=ds) (i:=0) (first:=0) with h1|⟨k,d,x,h1,h2,_,h4,h5⟩
 ·simp [Wk,h1] at h
 ·exact ⟨k,d,x,h1,by simpa using h2,by simpa using h4,by simp [Wk,h5],by simp [ZX,h5]⟩
theorem FK {ds:List Zf} {c:Int} (h:Wk ds c<1):ZX ds c=[]/\Wk ds c=-1:=by
 rcases Ij (c:=c) (ds:=ds) (i:=0) (first:=0) with h1|⟨k,d,x,h1,h2,_,h4,h5⟩
 ·simp [ZX,Wk,h1]
 ·simp [Wk,h5] at h;omega
def VN (first:Int):Nat->LI
 | 0=>[]
 | n+1=>first::VN (first+1) n
theorem S3 (first:Int) (n:Nat):VN first (n+1)=VN first n++[first+n]:=by
 induction n generalizing first with
 | zero=>simp [VN]
 | succ n ih=>rw [VN,ih (first+1),VN];simp;omega
@[simp] theorem S2 (first:Int) (n:Nat):(VN first n).length=n:=by
 induction n generalizing first with
 | zero=>rfl
 | succ n ih=>simp [VN,ih]
def ZV (ds:List Zf) (t:Int):LI:=
 if 1<=t/\t<=ds.length then VN (YQ (ds.take (t-1).toNat)) (((ds[(t-1).toNat]?).map (·.cons.length)).getD 0) else []
def KR (frm to_:Int):List Zf->Nat->Int
 | [],_=>-1
 | d::ds,i=>if d.cons.length=0/\d.frm=frm/\d.to_=to_ then (i:Int)+1 else KR frm to_ ds (i+1)
def Uz (ds:List Zf) (frm to_:Int):Int:=KR frm to_ ds 0
def XV (ds:List Zf) (t:Int):Bool:=decide (1<=t/\t<=ds.length)&&((ds[(t-1).toNat]?).map fun d=>decide (d.cons.length=0)).getD false
theorem GJ {ds:List Zf} {t:Int} {x:Zf} (h:1<=t/\t<=ds.length) (hx:ds[(t-1).toNat]? = some x):((x.cons.length:Int)==0)=XV ds t:=by
 rw [XV,hx,XK];simp [h]
theorem Lr {ds:List Zf} {t:Int} (h:¬(1<=t/\t<=ds.length)):false=XV ds t:=by
 rw [XV,XK];simp only [Bool.false_eq_true,Wa,decide_eq_true_eq,h,false_and]
def Wp (m:Nat) (xs:LI):Bool:=xs.all fun t=>decide (0<=t/\t<=m)
end Go.Abs
section
namespace Go.Abs
section
variable {h:List Res}
end
end Go.Abs
namespace Go.Abs
section
variable {P:Program} {ops:Array Oper} {k:Nat} {F:Fr} {h:List Res}
end
end Go.Abs
end
namespace Go.Abs
section
variable {P:Program} {n:Nat} {ops:Array Oper} {B:Fr->List Res->Prop} {k:Nat} {F:Fr} {h:List Res} {T:List (Nat × List Nat)} {fuel:Nat} {done:List Nat}
theorem Sh {K:Fr->List Res->Prop} {ls:List AV} {len sz:Nat} (hd:VK n (ZB ops k)=true) (ha:TY P ops F k=some (ls,len,sz)) (hlen:ls.length=len*sz)
  (hK:∀g,K (F.put (ZB ops k).dst (.val (.slice (some ⟨g,0,none⟩) len len))) (.row (.slice (some ⟨g,0,none⟩) len len) sz ls::h)):WJ P n (ZB ops k) F h K:=by
 unfold TY at ha
 generalize hoo:ZB ops k=q at ha hd hK
 obtain ⟨dst,op,type,pos,after,guard⟩:=q
 cases op<;>simp only at ha<;>try (cases ha)
 rename_i t ln parts
 split at ha
 case h_2=>cases ha
 rename_i e ht
 split at ha
 case h_2=>cases ha
 rename_i i hi
 split at ha
 case h_2=>cases ha
 rename_i hc
 simp only [Wa] at hc
 split at ha
 case h_2=>cases ha
 rename_i ls' hf
 simp only [Wn,Prod.mk.injEq] at ha
 obtain ⟨rfl,rfl,Xu⟩:=ha
 intro Q w G a hF hh
 obtain ⟨cs,h1,h2⟩:=Hf hF parts ht hi rfl hc.1 hc.2 hf
 have hr:(execOp a.eval { dst:=dst,op:=.buildSlice t ln parts,type:=type,pos:=pos,after:=after,guard:=guard }).run P w =
   .ok (.value (.slice (some ⟨w.heap.size,0,none⟩) ln ln)) (w.alloc (.cells cs e)):=by
  simp only [execOp]
  exact Vj h2
 unfold Oper.wp
 rw [hr]
 have hlc:=h1.length
 simp only [Je] at hlc
 obtain ⟨j1,j2⟩:=hh.alloc_rrow cs e (ls:=ls') (len:=ln) (cap:=ln) (k:=sz) (X5 _) (by rw [hlc];exact hlen) hlen (by rw [<-hlen,<-hlc];simpa [Vw] using h1)
 exact ⟨_,_,G,hK _,(hF.mono (j2.agree hh)).put (Te hd) .val,j1,j2⟩
theorem TH (es es':List AV) (he:es=es') (len sz:Nat) (hK:∀v,SI P n ops B (k+1) (F.put (ZB ops k).dst (.sl es' (some v))) (.tail v sz::h)) (hk:Xh n ops F k=true:=by kernel_rfl)
  (ha:TY P ops F k=some (Zh es,len,sz):=by kernel_rfl) (hlen:es.length=len:=by kernel_rfl) (hall:AF es sz=true:=by kernel_rfl):SI P n ops B k F h:=by
 subst he;exact iL es len sz hK hk ha hlen hall
theorem WQ (i:Nat) (js bs:List Nat) (es es':List AV) (he:es=es') (len sz:Nat) (hK:∀v,YW P n ops B (T.filter fun t=>!Vd ops i t.1) fuel (done++[i]) (F.put (ZB ops i).dst (.sl es' (some v))) (.tail v sz::h))
  (hk:Xh n ops F i=true:=by kernel_rfl) (ha:TY P ops F i=some (Zh es,len,sz):=by kernel_rfl) (hlen:es.length=len:=by kernel_rfl) (hall:AF es sz=true:=by kernel_rfl)
  (ho:Uo ops i T=bs:=by kernel_rfl) (hj:js.map (fun j=>(WP h)[j]?)=bs.map some:=by kernel_rfl):VI P n ops B T fuel done F h i:=by
 subst he;exact dL i js bs es len sz hK hk ha hlen hall ho hj
theorem iKN (ls:List AV) (len sz:Nat) (hK:∀g,SI P n ops B (k+1) (F.put (ZB ops k).dst (.val (.slice (some ⟨g,0,none⟩) len len))) (.row (.slice (some ⟨g,0,none⟩) len len) sz ls::h)) (hlen:ls.length=len*sz:=by rfl) (hk:Xh n ops F k=true:=by kernel_rfl)
  (ha:TY P ops F k=some (ls,len,sz):=by kernel_rfl):SI P n ops B k F h:=Qc hk (Sh (U5 hk).2.1 ha hlen hK)
theorem dKN (i:Nat) (js bs:List Nat) (ls:List AV) (len sz:Nat) (hK:∀g,YW P n ops B (T.filter fun t=>!Vd ops i t.1) fuel (done++[i]) (F.put (ZB ops i).dst (.val (.slice (some ⟨g,0,none⟩) len len))) (.row (.slice (some ⟨g,0,none⟩) len len) sz ls::h)) (hlen:ls.length=len*sz:=by rfl)
  (hk:Xh n ops F i=true:=by kernel_rfl) (ha:TY P ops F i=some (ls,len,sz):=by kernel_rfl) (ho:Uo ops i T=bs:=by kernel_rfl) (hj:js.map (fun j=>(WP h)[j]?)=bs.map some:=by kernel_rfl):VI P n ops B T fuel done F h i:=
 KY (h1:=[]) (h2:=h) [] js bs hk rfl ho hj (Sh (U5 hk).2.1 ha hlen hK)
end
theorem WA.frz {P:Program} {f:FuncId} {as1:List AV} {h0:List Res} {E:Type} {kk:Nat} {es:E->List AV} {hs:E->List Res} {Q:E->Prop} (H:WA P f as1 h0 (fun r h=>∃(e:E) (v:Hd),r=.h v/\h=rK v kk (Zh (es e))::hs e/\Q e)) (hes:∀e,∀y∈es e,y.leaves.length=kk) (hk:0<kk) :
  WA P f as1 h0 (fun r h=>∃(e:E) (v:Value),r=.sl (es e) (some v)/\h=.tail v kk::hs e/\Q e):=by
 intro w G vs hv hh
 refine (H w G vs hv hh).mono ?_
 rintro e w' ⟨u,r,h',G',he,⟨x,v,rfl,rfl,hq⟩,hr,hh',hx⟩
 obtain ⟨G2,h1,h2,h3⟩:=CC hh' (hes x) hk
 have hrv:=hr.val_inv
 subst hrv
 exact ⟨_,_,_,G2,he,⟨x,v.v,rfl,rfl,hq⟩,h3,h1,hx.trans h2⟩
theorem Gg {es:List AV} {sz k:Nat} {y:AV} (h:∀x∈es,x.leaves.length=sz) (hy:y.leaves.length=sz) (hk:k<es.length):(Zh es).take (k*sz)++y.leaves++(Zh es).drop (k*sz+y.leaves.length)=Zh (es.set k y):=by
 obtain ⟨x,hx⟩:=QN (xs:=es) (j:=k) hk
 have hxl:=h x (Y3 hx)
 have e1:es=es.take k++(x::es.drop (k+1)):=by rw [<-Y6 hx,T8]
 have e2:es.set k y=es.take k++(y::es.drop (k+1)):=by rw [Ft,Zc hk]
 have hl:(Zh (es.take k)).length=k*sz:=by rw [UZ (k:=sz) _ (fun z hz=>h z (Tu hz)),WT,Uy om]
 have e3:Zh es=Zh (es.take k)++(x.leaves++Zh (es.drop (k+1))):=by
  conv=>lhs;rw [e1,UL]
  simp [Zh]
 rw [e2,UL,e3,EU hl (by rw [hxl,hy])]
 simp [Zh]
theorem Z77 (ds:List Zf) (k:Nat) (d:Zf):YB (ds.set k d)=(YB ds).set k (AC d):=by simp [YB,List.map_set]
theorem Ck (xs:List Zf):(Zh (YB xs)).length=xs.length*3:=by rw [UZ (k:=3) _ (KZ xs)];simp
theorem Gd {ds:List Zf} {k:Nat} (d:Zf) (hk:k<ds.length):(Zh (YB ds)).take (k*3)++TW d++(Zh (YB ds)).drop (k*3+3)=Zh (YB (ds.set k d)):=by
 rw [Z77];exact Gg (y:=AC d) (KZ ds) rfl (by simpa using hk)
theorem IX (xs ys:List Zf):Zh (YB xs)++Zh (YB ys)=Zh (YB (xs++ys)):=by rw [Z75,UL]
section
variable {P:Program} {n:Nat} {ops:Array Oper} {B:Fr->List Res->Prop} {k:Nat} {F:Fr} {h:List Res}
theorem Gu (j m:Nat) {v:Hd} {kk:Nat} {ls:List AV} (hm:ls.length=m*kk) (h0:0<m) (H:∀g c',v=⟨some ⟨g,0,none⟩,m,c'⟩->SI P n ops B k F h) (hk:0<kk:=by omega) (hj:h[j]? = some (rK v kk ls):=by kernel_rfl):SI P n ops B k F h:=by
 intro Q w G a hF hh hq
 obtain ⟨g,c',e⟩:=SZ (hh.ok _ (Y3 hj)) hm hk h0
 exact H g c' e Q w G a hF hh hq
end
section
variable {P:Program} {n:Nat} {ops:Array Oper} {B:Fr->List Res->Prop} {k:Nat} {F:Fr} {h:List Res}
def Im (P:Program) (ops:Array Oper) (F:Fr) (k:Nat):Option (IntKind × Int):=
 match (ZB ops k).op with
 | .convert s d x=>match P.underlying s,P.underlying d,F.ev x with
  | some (.int _),some (.int q),.val (.int _ z)=>some (q,z)
  | _,_,_=>none
 | _=>none
theorem kCv (q:IntKind) (z z':Int) (e:q.wrap z=z') (hc:Im P ops F k=some (q,z):=by kernel_rfl):XA P (ZB ops k) F h [] (.val (.int q z')):=by
 unfold Im at hc
 generalize hoo:ZB ops k=o at hc
 obtain ⟨dst,op,type,pos,after,guard⟩:=o
 cases op<;>simp only at hc<;>try (cases hc)
 rename_i s d x
 split at hc
 ·rename_i q1 q2 q3 z2 h1 h2 h3
  cases hc
  intro n w G ac hF hh
  have v1:=hF.ev x
  rw [h3] at v1
  have v1:=v1.val_inv
  refine ⟨_,.val,fun w' _ _=>?_⟩
  simp only [execOp,v1]
  refine Vj ?_
  simp [convert,VG h1,VG h2,Conv.intToInt,e]
 ·cases hc
theorem N1 {z:Int} (h:0<=z/\z<=9223372036854775807):IntKind.i64.wrap z=z:=IntWalk.i64_in _ om
theorem Do (z:Int) (hz:0<=z/\z<=255) (hc:Im P ops F k=some (.i64,z):=by kernel_rfl):XA P (ZB ops k) F h [] (.i z):=kCv .i64 z z (N1 om) hc
def Bp (ops:Array Oper) (F:Fr) (k:Nat) (b:BinOp):Option (Int × Int):=
 match (ZB ops k).op with
 | .binOp c _ x y _=>if c==b then match F.ev x,F.ev y with
  | .val (.int .i64 z),.val (.int .i64 u)=>some (z,u)
  | _,_=>none else none
 | _=>none
theorem Lw (a b:Int) (hb:0<b) (ha:0<=a/\a<=9223372036854775807) (hc:Bp ops F k .quo=some (a,b):=by kernel_rfl):XA P (ZB ops k) F h [] (.i (a / b)):=by
 unfold Bp at hc
 generalize hoo:ZB ops k=o at hc
 obtain ⟨dst,op,type,pos,after,guard⟩:=o
 cases op<;>simp only at hc<;>try (cases hc)
 rename_i bop t x y yt
 cases bop<;>simp only [Zq,reduceCtorEq,if_false,if_true] at hc<;>try (cases hc)
 split at hc
 ·rename_i z yk h1 h2
  cases hc
  intro n' w G ac hF hh
  have v1:=hF.ev x
  have v2:=hF.ev y
  rw [h1] at v1
  rw [h2] at v2
  have v1:=v1.val_inv
  have v2:=v2.val_inv
  refine ⟨_,.val,fun w' _ _=>?_⟩
  simp only [execOp,v1,v2]
  refine Vj ?_
  have e1:a.tdiv b=a / b:=Int.tdiv_eq_ediv_of_nonneg ha.1
  have e2:IntKind.i64.wrap (a / b)=a / b:=N1 ⟨Int.ediv_nonneg ha.1 om,Int.le_trans (Int.ediv_le_self b ha.1) ha.2⟩
  have e3:b≠0:=by omega
  simp [eqGuard,binOp,Op.intDiv,e1,e2,e3]
 ·cases hc
theorem Ex (a b:Int) (hb:0<b) (ha:0<=a) (hc:Bp ops F k .rem=some (a,b):=by kernel_rfl):XA P (ZB ops k) F h [] (.i (a % b)):=by
 unfold Bp at hc
 generalize hoo:ZB ops k=o at hc
 obtain ⟨dst,op,type,pos,after,guard⟩:=o
 cases op<;>simp only at hc<;>try (cases hc)
 rename_i bop t x y yt
 cases bop<;>simp only [Zq,reduceCtorEq,if_false,if_true] at hc<;>try (cases hc)
 split at hc
 ·rename_i z yk h1 h2
  cases hc
  intro n' w G ac hF hh
  have v1:=hF.ev x
  have v2:=hF.ev y
  rw [h1] at v1
  rw [h2] at v2
  have v1:=v1.val_inv
  have v2:=v2.val_inv
  refine ⟨_,.val,fun w' _ _=>?_⟩
  simp only [execOp,v1,v2]
  refine Vj ?_
  have e1:a.tmod b=a % b:=Int.tmod_eq_emod_of_nonneg ha
  have e3:b≠0:=by omega
  simp [eqGuard,binOp,Op.intDiv,e1,e3]
 ·cases hc
theorem Cv (a b:Nat) (hb:0<b) (ha:a<=9223372036854775807) (hc:Bp ops F k .quo=some ((a:Int),(b:Int)):=by kernel_rfl):XA P (ZB ops k) F h [] (.i (a / b:Nat)):=by
 rw [Int.natCast_ediv];exact Lw a b om om hc
theorem GO (a b:Nat) (hb:0<b) (_ha:a<=9223372036854775807) (hc:Bp ops F k .rem=some ((a:Int),(b:Int)):=by kernel_rfl):XA P (ZB ops k) F h [] (.i (a % b:Nat)):=by
 rw [Int.natCast_emod];exact Ex a b om om hc
def Bb (a b:Int):Int:=IntKind.i64.wrap ((BitVec.ofInt 64 a ^^^ BitVec.ofInt 64 b).toNat:Int)
theorem HJ {a b:Int} (ha:0<=a/\a<4611686018427387904) (hb:0<=b/\b<4611686018427387904):0<=Bb a b/\Bb a b<4611686018427387904:=by
 obtain ⟨x,rfl⟩:=Int.eq_ofNat_of_zero_le ha.1
 obtain ⟨y,rfl⟩:=Int.eq_ofNat_of_zero_le hb.1
 have h1:(BitVec.ofInt 64 (x:Int) ^^^ BitVec.ofInt 64 (y:Int)).toNat=x ^^^ y:=by
  rw [BitVec.toNat_xor,BitVec.toNat_ofInt,BitVec.toNat_ofInt]
  have e1:((x:Int) % ((2 ^ 64:Nat):Int)).toNat=x:=by omega
  have e2:((y:Int) % ((2 ^ 64:Nat):Int)).toNat=y:=by omega
  rw [e1,e2]
 have h2:x ^^^ y<2 ^ 62:=Nat.xor_lt_two_pow om om
 rw [Bb,h1,N1 om]
 omega
theorem Rc (a b:Int) (hc:Bp ops F k .xor=some (a,b):=by kernel_rfl):XA P (ZB ops k) F h [] (.i (Bb a b)):=by
 unfold Bp at hc
 generalize hoo:ZB ops k=o at hc
 obtain ⟨dst,op,type,pos,after,guard⟩:=o
 cases op<;>simp only at hc<;>try (cases hc)
 rename_i bop t x y yt
 cases bop<;>simp only [Zq,reduceCtorEq,if_false,if_true] at hc<;>try (cases hc)
 split at hc
 ·rename_i z yk h1 h2
  cases hc
  intro n' w G ac hF hh
  have v1:=hF.ev x
  have v2:=hF.ev y
  rw [h1] at v1
  rw [h2] at v2
  have v1:=v1.val_inv
  have v2:=v2.val_inv
  refine ⟨_,.val,fun w' _ _=>?_⟩
  simp only [execOp,v1,v2]
  refine Vj ?_
  simp [eqGuard,binOp,Op.intBits,IntKind.bits]
  exact Yv (fun z:Nat=>IntKind.i64.wrap (z:Int)) (by rw [BitVec.toNat_xor,BitVec.toNat_ofInt,BitVec.toNat_ofInt];rfl)
 ·cases hc
end
end Go.Abs
section
namespace Go.Abs
inductive Z1 where
 | mk (op num:Int) (kids:List Z1)
namespace Z1
def op:Z1->Int|.mk a _ _=>a
def num:Z1->Int|.mk _ a _=>a
def kids:Z1->List Z1|.mk _ _ a=>a
end Z1
structure Func where
 params:LI
 result:Int
 body:Z1
structure Wg where
 decls:List Zf
 funcs:List Func
instance:Inhabited Z1:=⟨.mk 0 0 []⟩
mutual
def IB:Z1->AV
 | .mk op num kids=>.agg [.i op,.i num,.sl (Yu kids) none]
def Yu:List Z1->List AV
 | []=>[]
 | e::r=>IB e::Yu r
end
abbrev Y5 (e:Z1):AV:=.agg [.i e.op,.i e.num,.sl (Yu e.kids) none]
abbrev X3 (e:Z1):List AV:=[.i e.op,.i e.num,.sl (Yu e.kids) none]
abbrev XH (xs:List Z1):AV:=.sl (Yu xs) none
abbrev Kb (xs:List Z1) (v:Value):AV:=.sl (Yu xs) (some v)
abbrev DT (f:Func):AV:=.agg [Z4 f.params,.i f.result,.i f.body.op,.i f.body.num,XH f.body.kids]
abbrev GR (f:Func):List AV:=[Z4 f.params,.i f.result,.i f.body.op,.i f.body.num,XH f.body.kids]
def Xy (xs:List Func):List AV:=xs.map DT
abbrev H2 (xs:List Func):AV:=.sl (Xy xs) none
abbrev AE (p:Wg):AV:=.agg [ZP p.decls,H2 p.funcs]
abbrev LE (p:Wg):List AV:=[ZP p.decls,H2 p.funcs]
abbrev HU (z:Int):AV:=.val (.int .u8 z)
def Qo (xs:LI):List AV:=xs.map HU
abbrev Un (xs:LI):AV:=.sl (Qo xs) none
theorem Z78 (e:Z1):IB e=Y5 e:=by cases e;rw [IB];rfl
theorem XX:∀xs:List Z1,Yu xs=xs.map Y5
 | []=>by rw [Yu];rfl
 | s::ss=>by rw [Yu,XX ss,Z78];rfl
theorem D7 {xs:List Z1} {j:Nat} {x:Z1} (h:xs[j]? = some x):(Yu xs)[j]? = some (Y5 x):=by simp [XX,h]
theorem FV {xs:List Func} {j:Nat} {x:Func} (h:xs[j]? = some x):(Xy xs)[j]? = some (DT x):=by simp [Xy,h]
theorem D4 {xs:LI} {j:Nat} {x:Int} (h:xs[j]? = some x):(Qo xs)[j]? = some (HU x):=by simp [Qo,h]
@[simp] theorem IC (xs:List Z1):(Yu xs).length=xs.length:=by simp [XX]
@[simp] theorem D8 (xs:List Func):(Xy xs).length=xs.length:=by simp [Xy]
@[simp] theorem Jo (xs:LI):(Qo xs).length=xs.length:=by simp [Qo]
theorem Ah (xs ys:List Z1):Yu (xs++ys)=Yu xs++Yu ys:=by simp [XX]
theorem Z79 (xs ys:List Func):Xy (xs++ys)=Xy xs++Xy ys:=by simp [Xy]
theorem Iy (xs:LI) (n:Nat):(Qo xs).take n=Qo (xs.take n):=by simp [Qo]
theorem Ix (xs:LI) (n:Nat):(Qo xs).drop n=Qo (xs.drop n):=by simp [Qo]
theorem TD (xs:List Z1):∀y∈Yu xs,y.leaves.length=3:=by intro y hy;simp only [XX,XF] at hy;obtain ⟨x,_,rfl⟩:=hy;rfl
theorem FW (xs:List Func):∀y∈Xy xs,y.leaves.length=5:=by intro y hy;simp only [Xy,XF] at hy;obtain ⟨x,_,rfl⟩:=hy;rfl
theorem Z72 (xs:LI):∀y∈Qo xs,y.leaves.length=1:=by intro y hy;simp only [Qo,XF] at hy;obtain ⟨x,_,rfl⟩:=hy;rfl
theorem Ai (xs:List Z1):(Zh (Yu xs)).all AV.one=true:=Jp fun y hy=>by simp only [XX,XF] at hy;obtain ⟨x,_,rfl⟩:=hy;rfl
end Go.Abs
end
section
namespace Go.Abs
open Go.Proofs Go.Proofs.YtfjgjacklgaioaaGreat
section
variable {H:Type} {enc:TypeId × Value->H} {w:World}
def GA (w:World):Yc:=fun b _=>b<w.heap.size
abbrev Tr (enc:TypeId × Value->H) (w:World) (n:Nat) (t:TypeId) (cs:List Value) (x:DataW H × List MemPlace):Prop:=DataW.trod enc Tryz.prog w 0 (fun _=>true) true n t cs=some x
theorem RJ {w:World} {a:Addr} {v:Value} (h:w.cell? a=some v):a.block<w.heap.size/\a.spot=none:=by
 unfold World.cell? at h
 split at h
 ·rename_i c e fr hb
  split at h
  ·cases h
  ·rename_i hs
   exact ⟨(T6.1 hb).1,by simpa using hs⟩
 ·cases h
theorem NP {α:Type} {c:α->Nat}:∀{xs:List α} {ds:List (DataW H)},xs.length=ds.length->(∀(i:Nat) a d,xs[i]? = some a->ds[i]? = some d->c a+1<=Rows.uptoBulk d)->(xs.map fun a=>c a+1).sum<=Rows.uptoBulkAll ds
 | [],[],_,_=>X5 _
 | a::r,d::ds,hl,h=>by
  have h0:=h 0 a d rfl rfl
  have h1:=NP (c:=c) (xs:=r) (ds:=ds) (by simpa using hl) fun i a d ha hd=>h (i+1) a d (by simpa using ha) (by simpa using hd)
  rw [VQ,List.sum_cons,Rows.uptoBulkAll]
  omega
theorem SM {α:Type} {f:α->AV} {G:Yc} {k b:Nat} (hf:∀x,(f x).leaves.length=k):∀{xs:List α} {o:Nat},(∀(i:Nat) a,xs[i]? = some a->WB w G b (o+i*k) (f a).leaves)->Vb w G k b o (xs.map f)
 | [],_,_=>.nil
 | x::r,o,h=>by
  refine .cons (hf x) (by have:=h 0 x rfl;simpa using this) (SM hf fun i a ha=>?_)
  have:=h (i+1) a (by simpa using ha)
  rw [show o+(i+1)*k=o+k+i*k by rw [K3];omega] at this
  exact this
theorem Zfk {α:Type} [Inhabited α] {t e k:Nat} (ht:Tryz.prog.underlying t=some (.slice e)) (hk:Tryz.prog.cellsOf e=k) (h0:0<k) (f:α->AV) (hf:∀x,(f x).leaves.length=k) (c:α->Nat) (Q:α->Prop) {n:Nat} {cs:List Value} {x:DataW H × List MemPlace}
  (h:Tr enc w n t cs x) (el:∀m cs y,m<n->Tr enc w m e cs y->∃a:α,YV w (GA w) (f a).leaves cs/\c a+1<=Rows.uptoBulk y.1/\Q a) :
  ∃(v:Value) (xs:List α),cs=[v]/\RV w (GA w) (.sl (xs.map f) none) v/\(xs.map fun a=>c a+1).sum+1<=Rows.uptoBulk x.1/\∀a∈xs,Q a:=by
 rcases DataW.trod_slice ht h with ⟨rfl,rfl⟩|⟨a,len,cap,elems,rest,m,rfl,rfl,rfl,_,hlc,_,hlen,hel,_,_⟩
 ·exact ⟨_,[],rfl,.nil (by simp),by simp [Rows.uptoBulk],by simp⟩
 ·rw [hk] at hel
  have hone:∀i,i<len->∃z:α,∃cs' y,w.cells? 0 (a.add (i*k)) k=some cs'/\elems[i]? = some y/\YV w (GA w) (f z).leaves cs'/\c z+1<=Rows.uptoBulk y.1/\Q z:=by
   intro i hi
   have h1:=hel i hi
   rw [Q1 om] at h1
   obtain ⟨cs',h2,h3⟩:=Option.bind_eq_some_iff.1 h1
   obtain ⟨z,hz1,hz2,hz3⟩:=el m cs' _ om h3
   exact ⟨z,cs',_,h2,Q1 om,hz1,hz2,hz3⟩
  obtain ⟨V,hV⟩:=Go.Deep.choose_lt hone
  refine ⟨_,(List.range len).map V,rfl,?_,?_,?_⟩
  ·cases hl0:len with
   | zero=>exact .nil (by simp)
   | succ q=>
    have hsp:a.spot=none:=by
     obtain ⟨cs',y,g1,_⟩:=hV 0 om
     obtain ⟨_,g2,g3⟩:=World.cells?_some g1
     have g4:=g3 0 h0
     rw [Q1 om] at g4
     have g5:=(RJ g4).2
     simpa [Addr.add] using g5
    obtain ⟨b,o,sp⟩:=a
    simp only at hsp
    subst hsp
    rw [<-hl0]
    have hll:(((List.range len).map V).map f).length=len:=by simp
    have:=RV.sl (w:=w) (G:=GA w) (es:=((List.range len).map V).map f) (hv:=none) (b:=b) (o:=o) (k:=k) (cap:=cap) (by simp) (by rw [hll];exact hlc) (SM hf fun i z hz=>by
     have hi:i<len:=by have:=(Xs.1 hz).1;simpa using this
     have hz':V i=z:=by simpa [hi] using hz
     obtain ⟨cs',y,g1,_,g2,_⟩:=hV i hi
     rw [hz'] at g2
     obtain ⟨_,g3,g4⟩:=World.cells?_some g1
     refine WB.of_cells g2 fun j u hj=>?_
     have hjl:j<k:=by have:=(Xs.1 hj).1;omega
     have g5:=(g4 j hjl).trans hj
     rw [Addr.add_lit,Addr.add_lit] at g5
     exact ⟨g5,(RJ g5).1⟩)
    rw [hll] at this
    exact this
  ·have:=NP (c:=c) (xs:=(List.range len).map V) (ds:=elems.map (·.1)) (by simp [hlen]) fun i z d hz hd=>by
    have hi:i<len:=by have:=(Xs.1 hz).1;simpa using this
    have hz':V i=z:=by simpa [hi] using hz
    obtain ⟨cs',y,_,g1,_,g2,_⟩:=hV i hi
    rw [Tt,g1] at hd
    simp only [C2,Wn] at hd
    rw [<-hd,<-hz']
    exact g2
   simp only [Rows.uptoBulk]
   omega
  ·intro z hz
   obtain ⟨i,hi,rfl⟩:=XF.1 hz
   obtain ⟨_,_,_,_,_,_,g⟩:=hV i (List.mem_range.1 hi)
   exact g
theorem Zfi {n:Nat} {cs:List Value} {x:DataW H × List MemPlace} (h:Tr enc w n 5 cs x):∃z:Int,cs=[.int .u8 z]/\Rows.uptoBulk x.1=1/\0<=z/\z<=255:=by
 obtain ⟨z,rfl,rfl,hw⟩:=DataW.trod_int Tryz.underlying5 h
 refine ⟨z,rfl,rfl,?_⟩
 simpa [Lit.wf,IntKind.min,IntKind.max,IntKind.signed,IntKind.bits] using hw
theorem Zfj {n:Nat} {cs:List Value} {x:DataW H × List MemPlace} (h:Tr enc w n 22 cs x):∃(v:Value) (xs:LI),cs=[v]/\RV w (GA w) (Un xs) v/\∀z∈xs,0<=z/\z<=255:=by
 obtain ⟨v,xs,h1,h2,h3,h4⟩:=Zfk Tryz.underlying22 (k:=1) kr om (fun z:Int=>HU z) (fun _=>rfl) (fun _=>0) (fun z=>0<=z/\z<=255) h fun m cs y _ hy=>by
  obtain ⟨z,rfl,hb,hz⟩:=Zfi hy
  exact ⟨z,.cons .val .nil,Nat.le_of_eq hb.symm,hz⟩
 exact ⟨v,xs,h1,h2,h4⟩
end
end Go.Abs
end
namespace Go.Abs
structure Sg where
 params:LI
 result:Int
abbrev Na (f:Sg):AV:=.agg [.sl (Z8 f.params) none,.i f.result,.i 0,.i 0,.sl [] none]
def UC (fs:List Sg):List AV:=fs.map Na
theorem IJ {xs:List Sg} {j:Nat} {x:Sg} (h:xs[j]? = some x):(UC xs)[j]? = some (Na x):=by simp [UC,h]
@[simp] theorem Oy (xs:List Sg):(UC xs).length=xs.length:=by simp [UC]
theorem Ox (xs:List Sg):∀y∈UC xs,y.leaves.length=5:=by intro y hy;simp only [UC,XF] at hy;obtain ⟨x,_,rfl⟩:=hy;rfl
theorem Z7j (xs:List Sg):(Zh (UC xs)).all AV.one=true:=Jp fun y hy=>by simp only [UC,XF] at hy;obtain ⟨x,_,rfl⟩:=hy;rfl
mutual
def Z6.sz:Z6->Nat
 | .mk _ _ _ args kids=>1+args.length+Xl kids
def Z7.sz:Z7->Nat
 | .mk steps _=>1+Yj steps
def Yj:List Z6->Nat
 | []=>0
 | s::r=>s.sz+Yj r
def Xl:List Z7->Nat
 | []=>0
 | b::r=>b.sz+Xl r
end
theorem Z6.sz_pos (s:Z6):1<=s.sz:=by cases s;rw [Z6.sz];omega
theorem Z7.sz_pos (b:Z7):1<=b.sz:=by cases b;rw [Z7.sz];omega
theorem JD (l:List Z6):l.length<=Yj l:=by
 induction l with
 | nil=>simp
 | cons s r ih=>have:=s.sz_pos;simp only [YZ,Yj];omega
theorem NK (l:List Z7):l.length<=Xl l:=by
 induction l with
 | nil=>simp
 | cons s r ih=>have:=s.sz_pos;simp only [YZ,Xl];omega
theorem Z1j {l:List Z6} {k:Nat} {s:Z6} (h:l[k]? = some s):s.sz<=Yj l:=by
 induction l generalizing k with
 | nil=>simp at h
 | cons t r ih=>
  cases k with
  | zero=>simp at h;subst h;simp only [Yj];omega
  | succ k=>have:=ih (k:=k) (by simpa using h);simp only [Yj];omega
theorem NJ {l:List Z7} {k:Nat} {s:Z7} (h:l[k]? = some s):s.sz<=Xl l:=by
 induction l generalizing k with
 | nil=>simp at h
 | cons t r ih=>
  cases k with
  | zero=>simp at h;subst h;simp only [Xl];omega
  | succ k=>have:=ih (k:=k) (by simpa using h);simp only [Xl];omega
theorem Z6.sz_eq (s:Z6):s.sz=1+s.args.length+Xl s.kids:=by cases s;rw [Z6.sz];rfl
theorem Z7.sz_eq (b:Z7):b.sz=1+Yj b.steps:=by cases b;rw [Z7.sz];rfl
theorem A1 {b:Z7} {k:Nat} {s:Z6} (h:b.steps[k]? = some s):s.sz<b.sz:=by have:=Z1j h;have:=b.sz_eq;omega
theorem TK {s:Z6} {k:Nat} {b:Z7} (h:s.kids[k]? = some b):b.sz<s.sz:=by have:=NJ h;have:=s.sz_eq;omega
theorem K6 (s:Z6):s.args.length<s.sz:=by have:=s.sz_eq;omega
theorem TL (s:Z6):s.kids.length<s.sz:=by have:=s.sz_eq;have:=NK s.kids;omega
theorem To (b:Z7):b.steps.length<b.sz:=by have:=b.sz_eq;have:=JD b.steps;omega
structure KN (ds:List Zf):Prop where
 len:ds.length<=4194304
 cons:∀d∈ds,d.cons.length<=4194304
 fields:∀d∈ds,∀c∈d.cons,c.fields.length<=4194304
theorem KN.cons_at {ds:List Zf} (h:KN ds) {k:Nat} {d:Zf} (hd:ds[k]? = some d):d.cons.length<=4194304:=h.cons d (Y3 hd)
theorem KN.fields_at {ds:List Zf} (h:KN ds) {k j:Nat} {d:Zf} {c:Ye} (hd:ds[k]? = some d) (hc:d.cons[j]? = some c):c.fields.length<=4194304:=
 h.fields d (Y3 hd) c (Y3 hc)
def JS (m:Nat) (c:Ye):Bool:=decide (c.fields.length<=3)&&Wp m c.fields
def Km (d:Zf):List Zf->Bool
 | []=>false
 | e::r=>if e.cons.length=0/\e.frm=d.frm/\e.to_=d.to_ then true else Km d r
def Q4 (m:Nat):List Ye->Bool
 | []=>true
 | c::r=>if JS m c=true then Q4 m r else false
def UX (ds:List Zf) (d:Zf) (i:Nat):Bool:=
 if 0<d.cons.length then (if d.cons.length<=3/\d.frm=0/\d.to_=0 then Q4 ds.length d.cons else false)
 else if Km d (ds.take i)=true then false else decide (0<=d.frm/\d.frm<=ds.length)&&decide (0<=d.to_/\d.to_<=ds.length)
def Ce (ds:List Zf) (i:Nat):Bool:=(ds[i]?.map fun d=>UX ds d i).getD false
theorem E6 {ds:List Zf} {i:Nat} {d:Zf} (h:ds[i]? = some d):Ce ds i=UX ds d i:=by rw [Ce,h];rfl
def TC (ds:List Zf):List Zf->Nat->Bool
 | [],_=>true
 | _::r,i=>if Ce ds i=true then TC ds r (i+1) else false
def V0 (ds:List Zf):Bool:=decide (ds.length<=4)&&TC ds ds 0
theorem O3 {m:Nat} {cs:List Ye}:Q4 m cs=true↔∀c∈cs,JS m c=true:=by
 induction cs with
 | nil=>simp [Q4]
 | cons c r ih=>
  rw [Q4]
  split
  ·rename_i h;simp [ih,h]
  ·rename_i h;simp [h]
theorem Io {ds:List Zf}:∀{l:List Zf} {i:Nat},TC ds l i=true↔∀j<l.length,Ce ds (i+j)=true
 | [],i=>by simp [TC]
 | d::r,i=>by
  rw [TC]
  split
  ·rename_i h
   rw [Io (l:=r)]
   constructor
   ·intro hq j hj
    cases j with
    | zero=>exact h
    | succ j=>have:=hq j (by simpa using hj);rwa [show i+(j+1)=i+1+j by omega]
   ·intro hq j hj
    have:=hq (j+1) (by simpa using hj)
    rwa [show i+(j+1)=i+1+j by omega] at this
  ·rename_i h
   simp only [Bool.false_eq_true,false_iff]
   intro hq
   exact h (hq 0 (by simp))
theorem Zkd {ds:List Zf} (h:V0 ds=true):Wv ds:=by
 simp only [V0,Wa,decide_eq_true_eq] at h
 obtain ⟨h1,h2⟩:=h
 rw [Io] at h2
 have key:∀d∈ds,∃i,UX ds d i=true:=fun d hd=>by
  obtain ⟨i,hi⟩:=List.mem_iff_getElem?.1 hd
  have:=h2 i (Xs.1 hi).1
  rw [Vm,E6 hi] at this
  exact ⟨i,this⟩
 have hc:∀d∈ds,0<d.cons.length->d.cons.length<=3/\Q4 ds.length d.cons=true:=fun d hd hp=>by
  obtain ⟨i,hi⟩:=key d hd
  rw [UX,Zc hp] at hi
  split at hi
  ·rename_i h;exact ⟨h.1,hi⟩
  ·cases hi
 refine ⟨h1,fun d hd=>?_,fun d hd c hc'=>?_⟩
 ·by_cases hp:0<d.cons.length
  ·exact (hc d hd hp).1
  ·omega
 ·have:=O3.1 (hc d hd (List.length_pos_of_mem hc')).2 c hc'
  simp only [JS,Wa,decide_eq_true_eq] at this
  exact this.1
def J9 (m:Nat) (f:Sg):Bool:=decide (f.params.length<=3)&&(Wp m f.params&&decide (0<=f.result/\f.result<=m))
def Jz (m:Nat):List Sg->Bool
 | []=>true
 | f::r=>if J9 m f=true then Jz m r else false
def Gc:List Sg->Bool
 | []=>false
 | f::_=>decide (f.params.length=0)&&decide (f.result=0)
theorem Z84 {fs:List Sg} {x:Sg} (h:fs[0]? = some x):Gc fs=(decide (x.params.length=0)&&decide (x.result=0)):=by
 cases fs with
 | nil=>simp at h
 | cons f r=>simp at h;subst h;rfl
def Kf (ds:List Zf) (fs:List Sg):Bool:=
 V0 ds&&(decide (1<=fs.length/\fs.length<=4)&&(Jz ds.length fs&&Gc fs))
def Ka (ps:LI):LI->Option Int->Bool
 | [],_=>true
 | v::r,prev=>if (0<=v/\v<=(ps.length:Int)-1)/\ps[v.toNat]?≠some 0/\(∀p,prev=some p->p<v) then Ka ps r (some v) else false
theorem LL {ps r:LI} {v:Int} {prev:Option Int} (h:(0<=v/\v<=(ps.length:Int)-1)/\ps[v.toNat]?≠some 0/\(∀p,prev=some p->p<v)):Ka ps (v::r) prev=Ka ps r (some v):=by
 rw [Ka,Zc h]
theorem GY {ps r:LI} {v:Int} {prev:Option Int} (h:¬((0<=v/\v<=(ps.length:Int)-1)/\ps[v.toNat]?≠some 0/\(∀p,prev=some p->p<v))):Ka ps (v::r) prev=false:=by
 rw [Ka,Z5 h]
def JK (ps ls:LI):Bool:=Ka ps ls none
def QX:List Yh->Bool
 | []=>true
 | r::rs=>if JK r.params r.lent=true then QX rs else false
def Uf (r:Yh):Sg:=⟨r.params,r.result⟩
def VA (n:Zl):Bool:=decide (n.routines.length<=4)&&(Kf n.decls (n.routines.map Uf)&&QX n.routines)
end Go.Abs
section
namespace Go.Abs
def Xb {α:Type} (xs:List α) (i:Int):Option α:=if 0<=i/\i<=(xs.length:Int)-1 then xs[i.toNat]? else none
theorem Q3 {α:Type} {xs:List α} {i:Int} {x:α} (h:0<=i/\i<=(xs.length:Int)-1) (hx:xs[i.toNat]? = some x):Xb xs i=some x:=by rw [Xb,Zc h,hx]
theorem KS {α:Type} {xs:List α} {i:Int} (h:¬(0<=i/\i<=(xs.length:Int)-1)):Xb xs i=none:=by rw [Xb,Z5 h]
theorem KU {α:Type} {xs:List α} {i:Int} {x:α} (h:Xb xs i=some x):(0<=i/\i<=(xs.length:Int)-1)/\xs[i.toNat]? = some x:=by
 rw [Xb] at h
 split at h
 ·rename_i h1;exact ⟨h1,h⟩
 ·cases h
def Tp (vars:LI):LI->LI->Bool
 | [],[]=>true
 | a::as1,t::ts=>if Xb vars a=some t then Tp vars as1 ts else false
 | _,_=>false
def Wc (vars args types:LI):Bool:=Tp vars args types
theorem MR {vars:LI}:∀{args types:LI},args.length≠types.length->Tp vars args types=false
 | [],[],h=>absurd rfl h
 | [],_::_,_=>rfl
 | _::_,[],_=>rfl
 | a::as1,t::ts,h=>by
  rw [Tp]
  split
  ·exact MR (by simpa using h)
  ·rfl
theorem Zk4 {vars args types:LI} {k:Nat} {a t:Int} (ha:args[k]? = some a) (ht:types[k]? = some t) (h:Xb vars a=some t) :
  Tp vars (args.drop k) (types.drop k)=Tp vars (args.drop (k+1)) (types.drop (k+1)):=by
 rw [Y6 ha,Y6 ht,Tp,Zc h]
theorem Z2b {vars args types:LI} {k:Nat} {a t:Int} (ha:args[k]? = some a) (ht:types[k]? = some t) (h:Xb vars a≠some t) :
  Tp vars (args.drop k) (types.drop k)=false:=by
 rw [Y6 ha,Y6 ht,Tp,Z5 h]
theorem Zk2 {vars args types:LI} {k:Nat} (ha:args.length<=k) (ht:types.length<=k):Tp vars (args.drop k) (types.drop k)=true:=by
 rw [Xq ha,Xq ht];rfl
def VE (op:Int):Bool:=op==0||(op==6||(op==8||(op==9||op==10)))
def W5 (op:Int):Bool:=decide (0<=op/\op<=11)
def YF (op:Int):Bool:=decide (14<=op/\op<=17)
def Ua (vars:LI) (op into:Int):Bool:=
 if into=0 then true else if op=6 then ((Xb vars (into-1)).map fun t=>decide (0<t)).getD false else false
def Jl (ds:List Zf) (ps:LI) (res:Int):Int:=Uz ds (ps.getLast?.getD 0) res
def J7 (ds:List Zf) (vars:LI) (op:Int) (args:LI) (r:Yh):Int:=
 if op=9 then (if Wc vars args r.params=true then r.result else -1)
 else if r.params.length=0∨0<r.lent.length∨¬Wc vars args (r.params.take (r.params.length-1))=true then -1
 else Jl ds r.params r.result
def Ux (n:Zl) (vars:LI) (op num:Int) (args:LI):Int:=
 match Xb n.routines num with
 | none=>-1
 | some r=>J7 n.decls vars op args r
def Qn (ds:List Zf) (vars:LI) (op:Int) (args:LI):Int:=
 match args with
 | [a]=>match Xb vars a with
  | some t=>if t=0 then -1 else if (op≠14/\op≠15)/\XV ds t=true then -1 else 0
  | none=>-1
 | _=>-1
def Ki (ds:List Zf) (vars:LI) (args:LI):Int:=
 match args with
 | [a,b]=>match Xb vars a with
  | some t=>if XV ds t=true then
    (match ds[(t-1).toNat]? with
     | some d=>if Wc vars [b] [d.frm]=true then d.to_ else -1
     | none=>-1) else -1
  | none=>-1
 | _=>-1
def X7 (ds:List Zf) (op num:Int):List LI:=if op=7 then [[],[]] else (ZV ds num).map (ZX ds)
mutual
def ZZ (n:Zl) (vars:LI):Z6->Int
 | .mk op num into args kids=>
  if (num≠0/\¬VE op=true)∨¬Ua vars op into=true∨(0<kids.length/\op≠7/\op≠8) then -1
  else if op=0 then (if args.length=0/\(-999<=num/\num<=999) then 0 else -1)
  else if op=1∨op=2∨op=3∨op=4 then (if Wc vars args [0,0]=true then 0 else -1)
  else if op=5 then (if Wc vars args [0]=true then 0 else -1)
  else if op=6 then (if 0<Wk n.decls num/\Wc vars args (ZX n.decls num)=true then Wk n.decls num else -1)
  else if op=7 then (if Wc vars args [0]=true then (if (X7 n.decls op num).length=0∨kids.length≠(X7 n.decls op num).length then -1 else W2 n vars kids (X7 n.decls op num) true 0) else -1)
  else if op=8 then (if Wc vars args [num]=true then (if (X7 n.decls op num).length=0∨kids.length≠(X7 n.decls op num).length then -1 else W2 n vars kids (X7 n.decls op num) true 0) else -1)
  else if op=9∨op=10 then Ux n vars op num args
  else if op=11 then Ki n.decls vars args
  else if op=14∨op=15∨op=16∨op=17 then Qn n.decls vars op args
  else -1
def W2 (n:Zl) (vars:LI):List Z7->List LI->Bool->Int->Int
 | [],_,_,t=>t
 | b::bs,more,first,t=>
  match more with
  | []=>-1
  | m::ms=>if YR n (vars++m) b<0∨(first=false/\YR n (vars++m) b≠t) then -1 else W2 n vars bs ms false (YR n (vars++m) b)
def Xi (n:Zl):List Z6->LI->Option LI
 | [],vars=>some vars
 | s::r,vars=>if ZZ n vars s<0 then none else Xi n r (if W5 s.op=true then vars++[ZZ n vars s] else vars)
def YR (n:Zl) (vars:LI):Z7->Int
 | .mk steps result=>match Xi n steps vars with
  | none=>-1
  | some vs=>(Xb vs result).getD (-1)
end
def TV (n:Zl) (vars:LI) (op num:Int) (kids:List Z7):Int:=
 if (X7 n.decls op num).length=0∨kids.length≠(X7 n.decls op num).length then -1 else W2 n vars kids (X7 n.decls op num) true 0
mutual
def BA:Z6->Int->Int
 | .mk _ _ _ _ kids,left=>QW kids left
def WS:Z7->Int->Int
 | .mk steps _,left=>Qz steps left
def Qz:List Z6->Int->Int
 | [],left=>left
 | s::r,left=>if left<1 then -1 else if BA s (left-1)<0 then -1 else Qz r (BA s (left-1))
def QW:List Z7->Int->Int
 | [],left=>left
 | b::r,left=>if WS b left<0 then -1 else QW r (WS b left)
end
def UQ (b:Z7):Int:=if WS b 600<0 then -1 else 600-WS b 600
def QB (n:Zl):List Yh->Bool
 | []=>true
 | r::rs=>if ¬UQ r.body<0/\YR n r.params r.body=r.result then QB n rs else false
def V7 (n:Zl):Bool:=VA n&&QB n n.routines
theorem LK:(∀(s:Z6) (l:Int),0<=l->BA s l<=l)/\(∀(b:Z7) (l:Int),0<=l->WS b l<=l):=by
 have key:∀m:Nat,(∀s:Z6,s.sz<=m->∀l:Int,0<=l->BA s l<=l)/\(∀b:Z7,b.sz<=m->∀l:Int,0<=l->WS b l<=l):=by
  intro m
  induction m with
  | zero=>exact ⟨fun s h=>by have:=s.sz_pos;omega,fun s h=>by have:=s.sz_pos;omega⟩
  | succ m ih=>
   refine ⟨fun s hs l hl=>?_,fun b hb l hl=>?_⟩
   ·cases s with
    | mk op num into args kids=>
     rw [BA]
     have hk:Xl kids<=m:=by rw [Z6.sz] at hs;omega
     clear hs
     induction kids generalizing l with
     | nil=>rw [QW];exact Int.le_refl _
     | cons b r ihr=>
      rw [Xl] at hk
      have:=ih.2 b om l hl
      rw [QW]
      split
      ·omega
      ·have:=ihr (WS b l) om om;omega
   ·cases b with
    | mk steps res=>
     rw [WS]
     have hk:Yj steps<=m:=by rw [Z7.sz] at hb;omega
     clear hb
     induction steps generalizing l with
     | nil=>rw [Qz];exact Int.le_refl _
     | cons s r ihr=>
      rw [Yj] at hk
      rw [Qz]
      split
      ·omega
      ·have:=ih.1 s om (l-1) om
       split
       ·omega
       ·have:=ihr (BA s (l-1)) om om;omega
 exact ⟨fun s l hl=>(key s.sz).1 s (X5 _) l hl,fun b l hl=>(key b.sz).2 b (X5 _) l hl⟩
end Go.Abs
namespace Go.Abs
theorem Ziq {l:List Z6} {k:Nat} {s:Z6} (h:l[k]? = some s):k+s.sz<=Yj l:=by
 induction l generalizing k with
 | nil=>simp at h
 | cons t r ih=>
  cases k with
  | zero=>simp at h;subst h;simp only [Yj];omega
  | succ k=>have:=ih (k:=k) (by simpa using h);have:=t.sz_pos;simp only [Yj];omega
theorem Fb {b:Z7} {k:Nat} {s:Z6} (h:b.steps[k]? = some s):k+s.sz<b.sz:=by have:=Ziq h;have:=b.sz_eq;omega
structure X4 (n:Zl):Prop where
 decls:Wv n.decls
 len:n.routines.length<=4
 params:∀r∈n.routines,r.params.length<=3
 lent:∀r∈n.routines,r.lent.length<=4194304
theorem X4.params_at {n:Zl} (h:X4 n) {k:Nat} {r:Yh} (hr:n.routines[k]? = some r):r.params.length<=3:=h.params r (Y3 hr)
theorem X4.lent_at {n:Zl} (h:X4 n) {k:Nat} {r:Yh} (hr:n.routines[k]? = some r):r.lent.length<=4194304:=h.lent r (Y3 hr)
theorem Z47 {ds:List Zf} {num:Int} {k:Nat} {x:Int} (h:(ZV ds num)[k]? = some x):(X7 ds 8 num)[k]? = some (ZX ds x):=by
 rw [X7,Z5 om,Tt,h];rfl
end Go.Abs
namespace Go.Abs
theorem LX {ds:List Zf} (hd:Wv ds) (t:Int):(ZV ds t).length<=3:=by
 rw [ZV]
 split
 ·rename_i h
  obtain ⟨d,hd1⟩:=QN (xs:=ds) (j:=(t-1).toNat) om
  rw [hd1,S2]
  exact hd.cons_at hd1
 ·simp
theorem UA {ds:List Zf} (hd:Wv ds) (c:Int):(ZX ds c).length<=3:=by
 by_cases h:Wk ds c<1
 ·rw [(FK h).1];simp
 ·obtain ⟨k,d,x,h1,_,h3,_,h5⟩:=Ik h
  rw [h5];exact hd.fields_at h1 h3
theorem DX {ds:List Zf} (hd:Wv ds) {op num:Int} {k:Nat} {m:LI} (h:(X7 ds op num)[k]? = some m):m.length<=3:=by
 have hm:=Y3 h
 rw [X7] at hm
 split at hm
 ·simp at hm;subst hm;simp
 ·obtain ⟨c,_,rfl⟩:=XF.1 hm;exact UA hd c
theorem Jk {α:Type} {xs:List α} {x:α} (h:xs.length=1) (hx:xs[0]? = some x):xs=[x]:=by
 cases xs with
 | nil=>simp at h
 | cons a r=>
  cases r with
  | nil=>simp at hx;rw [hx]
  | cons b r=>simp at h
theorem D0 {ds:List Zf} {us args:LI} {op:Int} (h:args.length≠1):Qn ds us op args=-1:=by
 cases args with
 | nil=>rfl
 | cons a r=>
  cases r with
  | nil=>simp at h
  | cons b r=>rfl
theorem D1 {ds:List Zf} {us args:LI} {op a:Int} (h:args=[a]) (hi:¬(0<=a/\a<=(us.length:Int)-1)):Qn ds us op args=-1:=by
 subst h;rw [Qn];simp only [KS hi]
theorem CZ {ds:List Zf} {us args:LI} {op a t:Int} (h:args=[a]) (hi:0<=a/\a<=(us.length:Int)-1) (ht:us[a.toNat]? = some t) :
  Qn ds us op args=if t=0 then -1 else if (op≠14/\op≠15)/\XV ds t=true then -1 else 0:=by
 subst h;rw [Qn];simp only [Q3 hi ht]
theorem Zfu {n:Zl} {us args:LI} {op num:Int} {r:Yh} (hi:0<=num/\num<=(n.routines.length:Int)-1) (hr:n.routines[num.toNat]? = some r) :
  Ux n us op num args=J7 n.decls us op args r:=by
 rw [Ux];simp only [Q3 hi hr]
theorem Zfw {n:Zl} {us args:LI} {op num:Int} (hi:¬(0<=num/\num<=(n.routines.length:Int)-1)):Ux n us op num args=-1:=by
 rw [Ux];simp only [KS hi]
theorem Pq {xs:LI} {x:Int} (h:xs[xs.length-1]? = some x):xs.getLast?.getD 0=x:=by
 rw [List.getLast?_eq_getElem?,h];rfl
theorem Rq {n:Zl} {us:LI} {bs:List Z7} {ms:List LI} {b:Z7} {m:LI} {k:Nat} {t:Int} (hb:bs[k]? = some b) (hm:ms[k]? = some m)
  (h:¬(YR n (us++m) b<0∨(k:Int)>0/\YR n (us++m) b≠t)) :
  W2 n us (bs.drop k) (ms.drop k) (decide (k=0)) t=W2 n us (bs.drop (k+1)) (ms.drop (k+1)) (decide (k+1=0)) (YR n (us++m) b):=by
 rw [Y6 hb,Y6 hm,W2,Z5]
 ·simp
 ·rintro (q|⟨q1,q2⟩)
  ·exact h (.inl q)
  ·exact h (.inr ⟨by simp at q1;omega,q2⟩)
theorem Ro {n:Zl} {us:LI} {bs:List Z7} {ms:List LI} {b:Z7} {m:LI} {k:Nat} {t:Int} (hb:bs[k]? = some b) (hm:ms[k]? = some m)
  (h:YR n (us++m) b<0∨(k:Int)>0/\YR n (us++m) b≠t) :
  W2 n us (bs.drop k) (ms.drop k) (decide (k=0)) t=-1:=by
 rw [Y6 hb,Y6 hm,W2,Zc]
 rcases h with q|⟨q1,q2⟩
 ·exact .inl q
 ·exact .inr ⟨by simp;omega,q2⟩
theorem Rp {n:Zl} {us:LI} {bs:List Z7} {ms:List LI} {k:Nat} {f:Bool} {t:Int} (hb:bs.length<=k):W2 n us (bs.drop k) (ms.drop k) f t=t:=by
 rw [Xq hb,W2]
end Go.Abs
end
namespace Go.Abs
theorem A0 (n:Zl) (us:LI) (s:Z6):ZZ n us s =
  if (s.num≠0/\¬VE s.op=true)∨¬Ua us s.op s.into=true∨(0<s.kids.length/\s.op≠7/\s.op≠8) then -1
  else if s.op=0 then (if s.args.length=0/\(-999<=s.num/\s.num<=999) then 0 else -1)
  else if s.op=1∨s.op=2∨s.op=3∨s.op=4 then (if Wc us s.args [0,0]=true then 0 else -1)
  else if s.op=5 then (if Wc us s.args [0]=true then 0 else -1)
  else if s.op=6 then (if 0<Wk n.decls s.num/\Wc us s.args (ZX n.decls s.num)=true then Wk n.decls s.num else -1)
  else if s.op=7 then (if Wc us s.args [0]=true then TV n us s.op s.num s.kids else -1)
  else if s.op=8 then (if Wc us s.args [s.num]=true then TV n us s.op s.num s.kids else -1)
  else if s.op=9∨s.op=10 then Ux n us s.op s.num s.args
  else if s.op=11 then Ki n.decls us s.args
  else if s.op=14∨s.op=15∨s.op=16∨s.op=17 then Qn n.decls us s.op s.args
  else -1:=by
 cases s with
 | mk op num into args kids=>rw [ZZ];rfl
theorem C8 (n:Zl) (us:LI) (b:Z7):YR n us b=match Xi n b.steps us with
  | none=>-1
  | some vs=>(Xb vs b.result).getD (-1):=by
 cases b with
 | mk st r=>rw [YR];rfl
theorem Nr {α:Type} {xs:List α} {x:α} (h:xs.length=2) (hx:xs[0]? = some x):∃y,xs=[x,y]:=by
 match xs,h with
 | [a,b],_=>simp at hx;subst hx;exact ⟨b,rfl⟩
theorem T9 {ds:List Zf} {us args:LI} (h:args.length≠2):Ki ds us args=-1:=by
 match args,h with
 | [],_=>rfl
 | [_],_=>rfl
 | [_,_],h=>simp at h
 | _::_::_::_,_=>rfl
theorem Ta {ds:List Zf} {us args:LI} {a:Int} (hl:args.length=2) (h:args[0]? = some a) (hi:¬(0<=a/\a<=(us.length:Int)-1)):Ki ds us args=-1:=by
 obtain ⟨y,rfl⟩:=Nr hl h;rw [Ki];simp only [KS hi]
theorem UW {ds:List Zf} {us args:LI} {a t:Int} (hl:args.length=2) (h:args[0]? = some a) (hi:0<=a/\a<=(us.length:Int)-1) (ht:us[a.toNat]? = some t) :
  Ki ds us args=if XV ds t=true then
    (match ds[(t-1).toNat]? with
     | some d=>if Wc us (args.drop 1) [d.frm]=true then d.to_ else -1
     | none=>-1) else -1:=by
 obtain ⟨y,rfl⟩:=Nr hl h;rw [Ki];simp only [Q3 hi ht];rfl
theorem Z3x {ds:List Zf} {us args:LI} {a t:Int} {d:Zf} (hl:args.length=2) (h:args[0]? = some a) (hi:0<=a/\a<=(us.length:Int)-1) (ht:us[a.toNat]? = some t)
  (hA:XV ds t=true) (hd:ds[(t-1).toNat]? = some d):Ki ds us args=if Wc us (args.drop 1) [d.frm]=true then d.to_ else -1:=by
 rw [UW hl h hi ht,Zc hA];simp only [hd]
theorem Ls {ds:List Zf} {t:Int} (h:XV ds t=true):1<=t/\t<=ds.length:=by
 simp only [XV,Wa,decide_eq_true_eq] at h;exact h.1
theorem RB (b:Z7) (l:Int):WS b l=Qz b.steps l:=by cases b;rw [WS];rfl
theorem GX (s:Z6) (l:Int):BA s l=QW s.kids l:=by cases s;rw [BA];rfl
structure Vp (n:Zl):Prop where
 decls:KN n.decls
 len:n.routines.length<=4194304
 params:∀r∈n.routines,r.params.length<=4194304
 lent:∀r∈n.routines,r.lent.length<=4194304
 body:∀r∈n.routines,r.body.sz<=10000000
theorem Hn {m:Nat} {fs:List Sg} (h:Jz m fs=true):∀f∈fs,J9 m f=true:=by
 induction fs with
 | nil=>simp
 | cons f r ih=>
  rw [Jz] at h
  split at h
  ·rename_i h1
   intro g hg
   rcases YE.1 hg with rfl|hg
   ·exact h1
   ·exact ih h g hg
  ·cases h
theorem LU {n:Zl} (hz:Vp n) (h:VA n=true):X4 n:=by
 simp only [VA,Kf,Wa,decide_eq_true_eq] at h
 obtain ⟨h1,⟨h2,h3,h4,h5⟩,h6⟩:=h
 refine ⟨Zkd h2,h1,fun r hr=>?_,hz.lent⟩
 have:=Hn h4 (Uf r) (XF.2 ⟨r,hr,rfl⟩)
 simp only [J9,Wa,decide_eq_true_eq] at this
 exact this.1
def gI (xs:LI) (i:Int):Int:=xs[i.toNat]?.getD 0
theorem VM {xs:LI} {i:Int} {x:Int} (h:xs[i.toNat]? = some x):gI xs i=x:=by rw [gI,h];rfl
structure Zo where
 vars:LI
 own:LI
 par:LI
 con:LI
 fst:LI
 tok:LI
def Zo.grow (L:Zo) (t own par:Int):Zo:=⟨L.vars++[t],L.own++[own],L.par++[par],L.con++[-1],L.fst++[-1],L.tok++[-1]⟩
def U8 (L:Zo) (v:Int):Option Zo:=if gI L.own v<1 then none else some { L with own:=L.own.set v.toNat (gI L.own v-1) }
def UI (own par ln:LI):Nat->Int->Bool
 | 0,_=>false
 | k+1,v=>if gI own v<1/\¬v∈ln then (if gI par v<0 then false else UI own par ln k (gI par v)) else true
def XR (L:Zo) (ln:LI) (v:Int):Bool:=UI L.own L.par ln (v.toNat+1) v
def UU:LI->Int->LI->LI
 | own,_,[]=>own
 | own,p,f::r=>UU (if f≠0 then own.set p.toNat (gI own p+1) else own) (p+1) r
def Qe (ds:List Zf) (L:Zo) (op x:Int):Option Zo:=
 if gI L.con x<0∨(op=17/\0<=gI L.tok x) then none
 else match U8 L x with
  | none=>none
  | some L1=>some { L1 with
    own:=UU L1.own (gI L.fst x) (ZX ds (gI L.con x))
    tok:=if op=17 then L.tok.set x.toNat (ZX ds (gI L.con x)).length else L.tok }
def Tc (op:Int):Bool:=op==6||(op==9||(op==10||op==11))
def Jv (n:Zl) (op num:Int):LI:=if op=9 then ((n.routines[num.toNat]?).map (·.lent)).getD [] else []
def WG (n:Zl) (op num:Int) (i:Nat):Bool:=decide ((i:Int)∈Jv n op num)
def TB (n:Zl) (vars:LI) (op num a:Int) (i:Nat):Bool:=Tc op&&(gI vars a != 0&&!WG n op num i)
def T1 (n:Zl) (op num:Int):LI->Nat->Zo->Option Zo
 | [],_,L=>some L
 | a::r,i,L=>if TB n L.vars op num a i=true then (match U8 L a with
   | none=>none
   | some L1=>T1 n op num r (i+1) L1) else T1 n op num r (i+1) L
def Qa (n:Zl) (op num:Int) (ln:LI) (L:Zo):LI->Nat->Bool
 | [],_=>true
 | a::r,i=>if WG n op num i=true/\¬XR L ln a=true then false else Qa n op num ln L r (i+1)
def Js (L:Zo) (into:Int) (m:Nat):Option Zo:=
 if 0<into then (if gI L.tok (into-1)≠m then none else some { L with tok:=L.tok.set (into-1).toNat (-1) }) else some L
def UD (n:Zl) (ln:LI) (L:Zo) (op num into:Int) (args:LI):Option Zo:=
 match T1 n op num args 0 L with
 | none=>none
 | some L1=>if Qa n op num ln L1 args 0=true then Js L1 into args.length else none
def V8:LI->LI->Bool
 | o::os,t::ts=>if o≠0∨0<=t then false else V8 os ts
 | _,_=>true
def Zo.take (L:Zo) (m:Nat):Zo:=⟨L.vars.take m,L.own.take m,L.par.take m,L.con.take m,L.fst.take m,L.tok.take m⟩
def UB (L:Zo) (m:Nat):Option Zo:=if V8 (L.own.drop m) (L.tok.drop m)=true then some (L.take m) else none
def Jq (L:Zo) (par:Int):LI->Zo
 | []=>L
 | t::r=>Jq (L.grow t 0 par) par r
def KQ (ds:List Zf) (L:Zo) (x c:Int):Zo:=
 Jq { L with con:=L.con.set x.toNat c,fst:=L.fst.set x.toNat L.vars.length } x (ZX ds c)
def WF (ds:List Zf) (L:Zo) (op num:Int) (args:LI) (i:Nat):Zo:=
 if op=8 then KQ ds L (gI args 0) (gI (ZV ds num) i) else L
def KC (lent:LI):LI->Nat->Zo->Zo
 | [],_,L=>L
 | t::r,i,L=>KC lent r (i+1) (L.grow t (if t≠0/\¬(i:Int)∈lent then 1 else 0) (-1))
def U3 (r:Yh):Zo:=KC r.lent r.params 0 ⟨[],[],[],[],[],[]⟩
def Kn (L:Zo) (ln:LI) (v:Int):Option Zo:=if XR L ln v=true then some { L with own:=L.own.set v.toNat (gI L.own v+1) } else none
def UN (n:Zl) (ln:LI) (L:Zo) (op num into:Int) (args:LI) (ch:Option Zo):Option Zo:=
 if op=14 then Kn L ln (gI args 0)
 else if op=15 then U8 L (gI args 0)
 else if op=16∨op=17 then Qe n.decls L op (gI args 0)
 else if op=7∨op=8 then (if op=8/\¬XR L ln (gI args 0)=true then none else ch)
 else UD n ln L op num into args
def K7 (L:Zo) (op t:Int) (r:Option Zo):Option Zo:=
 match r with
 | none=>none
 | some L1=>if W5 op=true then some (L1.grow t (if t≠0 then 1 else 0) (-1)) else some L1
def B0 (L:Zo) (first:Option Zo) (rest:Zo->Bool):Option Zo:=
 match first with
 | none=>none
 | some one=>if rest one=true then some { L with own:=one.own,tok:=one.tok } else none
def EX (one:Zo) (two:Option Zo) (rest:Bool):Bool:=
 match two with
 | none=>false
 | some two=>if one.own=two.own/\one.tok=two.tok then rest else false
def JG (r:Option Zo) (f:Zo->Option Zo):Option Zo:=match r with|none=>none|some L=>f L
def Ud (m:Nat) (res:Int) (L:Zo):Option Zo:=JG (if gI L.vars res≠0 then U8 L res else some L) fun L2=>UB L2 m
mutual
def WI (n:Zl) (ln:LI) (L:Zo):Z6->Option Zo
 | .mk op num into args kids=>K7 L op (ZZ n L.vars (.mk op num into args kids)) (UN n ln L op num into args (U2 n ln L op num args kids))
def U2 (n:Zl) (ln:LI) (L:Zo) (op num:Int) (args:LI):List Z7->Option Zo
 | []=>none
 | b::bs=>B0 L (Wh n ln (WF n.decls L op num args 0) L.vars.length b) fun one=>Uu n ln L op num args one bs 1
def Uu (n:Zl) (ln:LI) (L:Zo) (op num:Int) (args:LI) (one:Zo):List Z7->Nat->Bool
 | [],_=>true
 | b::bs,i=>EX one (Wh n ln (WF n.decls L op num args i) L.vars.length b) (Uu n ln L op num args one bs (i+1))
def Xt (n:Zl) (ln:LI) (L:Zo):List Z6->Option Zo
 | []=>some L
 | s::r=>JG (WI n ln L s) fun L1=>Xt n ln L1 r
def Wh (n:Zl) (ln:LI) (L:Zo) (m:Nat):Z7->Option Zo
 | .mk steps result=>JG (Xt n ln L steps) (Ud m result)
end
theorem Ht (n:Zl) (ln:LI) (L:Zo) (s:Z6):WI n ln L s=K7 L s.op (ZZ n L.vars s) (UN n ln L s.op s.num s.into s.args (U2 n ln L s.op s.num s.args s.kids)):=by
 cases s with
 | mk op num into args kids=>rw [WI];rfl
theorem KV (n:Zl) (ln:LI) (L:Zo) (m:Nat) (b:Z7):Wh n ln L m b=JG (Xt n ln L b.steps) (Ud m b.result):=by
 cases b with
 | mk st r=>rw [Wh];rfl
def Tb (n:Zl) (r:Yh):Bool:=
 match Wh n r.lent (U3 r) r.params.length r.body with
 | none=>false
 | some L=>(UB L 0).isSome
def Qm (n:Zl):List Yh->Bool
 | []=>true
 | r::rs=>if Tb n r=true then Qm n rs else false
def UJ (n:Zl):Bool:=V7 n&&Qm n n.routines
structure WH (L:Zo):Prop where
 own:L.own.length=L.vars.length
 par:L.par.length=L.vars.length
 con:L.con.length=L.vars.length
 fst:L.fst.length=L.vars.length
 tok:L.tok.length=L.vars.length
structure X6 (ds:List Zf) (L:Zo) (q:Int):Prop where
 len:WH L
 down:∀j:Int,0<=j->j<L.vars.length->gI L.par j<j
 arm:∀x:Int,0<=x->x<L.vars.length->0<=gI L.con x->0<=gI L.fst x/\gI L.fst x+(ZX ds (gI L.con x)).length<=L.vars.length
 nn:∀x∈L.own,0<=x
 bd:∀x∈L.own,x<=q
end Go.Abs
section
namespace Go.Abs
end Go.Abs
namespace Go.Abs
theorem Zdh {n:Zl} {op num:Int} {r:Yh} (h:op=9) (hr:n.routines[num.toNat]? = some r):Jv n op num=r.lent:=by
 rw [Jv,Zc h,hr];rfl
end Go.Abs
namespace Go.Abs
theorem I0 {own par ln:LI} {N:Int} (hd:∀j:Int,0<=j->j<N->gI par j<j):∀(k:Nat) (v:Int),0<=v->v<N->v.toNat+1<=k->UI own par ln k v=UI own par ln (v.toNat+1) v:=by
 intro k
 induction k using Nat.strongRecOn with
 | ind k ih=>
  intro v h0 hN hk
  cases k with
  | zero=>omega
  | succ k=>
   rw [UI,UI]
   split
   ·split
    ·rfl
    ·have hdv:=hd v h0 hN
     rw [ih k om (gI par v) om om om]
     rw [ih v.toNat om (gI par v) om om om]
   ·rfl
theorem Nh {own par ln:LI} {N j x1 x2:Int} {r:Bool} (h1:gI own j=x1) (h2:gI par j=x2) (hj:0<=j/\j<N) (hx:x1<1/\¬j∈ln) (h0:¬x2<0) (hd:∀i:Int,0<=i->i<N->gI par i<i)
  (h:UI own par ln (j.toNat+1) j=r):UI own par ln (x2.toNat+1) x2=r:=by
 rw [UI,h1,h2,Zc hx,Z5 h0] at h
 have hdv:=hd j hj.1 hj.2
 rw [<-h,I0 hd j.toNat x2 om om om]
theorem Ng {own par ln:LI} {j x1 x2:Int} {r:Bool} (h1:gI own j=x1) (h2:gI par j=x2) (hx:x1<1/\¬j∈ln) (h0:x2<0) (h:UI own par ln (j.toNat+1) j=r):false=r:=by
 rw [UI,h1,h2,Zc hx,Zc h0] at h;exact h
theorem Ni {own par ln:LI} {j x1:Int} {r:Bool} (h1:gI own j=x1) (hx:¬(x1<1/\¬j∈ln)) (h:UI own par ln (j.toNat+1) j=r):true=r:=by
 rw [UI,h1,Z5 hx] at h;exact h
end Go.Abs
namespace Go.Abs
theorem KH {L L':Zo} {v:Int} (h:U8 L v=some L'):1<=gI L.own v/\L'.vars=L.vars/\L'.par=L.par/\L'.con=L.con/\L'.fst=L.fst/\L'.tok=L.tok/\L'.own=L.own.set v.toNat (gI L.own v-1):=by
 rw [U8] at h
 split at h
 ·cases h
 ·cases h;exact ⟨by omega,rfl,rfl,rfl,rfl,rfl,rfl⟩
theorem L9 {xs:LI} {v:Int} (h:gI xs v≠0):gI xs v∈xs:=by
 rw [gI] at h ⊢
 cases hx:xs[v.toNat]? with
 | none=>rw [hx] at h;exact absurd rfl h
 | some y=>exact Y3 hx
theorem Ky {xs:LI} {i:Nat} {a x:Int} (h:x∈xs.set i a):x∈xs∨x=a:=List.mem_or_eq_of_mem_set h
theorem X6.take {ds:List Zf} {L L':Zo} {q v:Int} (hk:X6 ds L q) (h:U8 L v=some L'):X6 ds L' q:=by
 obtain ⟨t1,t2,t3,t4,t5,t6,t7⟩:=KH h
 obtain ⟨f1,f2,f3,f4,f5⟩:=hk.len
 have hm:=L9 (xs:=L.own) (v:=v) om
 refine ⟨⟨by rw [t7,t2,T7];exact f1,by rw [t3,t2];exact f2,by rw [t4,t2];exact f3,by rw [t5,t2];exact f4,by rw [t6,t2];exact f5⟩,?_,?_,?_,?_⟩
 ·rw [t2,t3];exact hk.down
 ·rw [t2,t4,t5];exact hk.arm
 ·rw [t7];intro x hx
  rcases Ky hx with hx|rfl
  ·exact hk.nn x hx
  ·omega
 ·rw [t7];intro x hx
  rcases Ky hx with hx|rfl
  ·exact hk.bd x hx
  ·have:=hk.bd _ hm;omega
end Go.Abs
end
namespace Go.Abs
theorem MP {us:LI}:∀{args tys:LI},Tp us args tys=true->args.length=tys.length/\∀a∈args,0<=a/\a<us.length
 | [],[],_=>⟨rfl,by simp⟩
 | [],_::_,h=>by cases h
 | _::_,[],h=>by cases h
 | a::as1,t::ts,h=>by
  rw [Tp] at h
  split at h
  ·rename_i h1
   obtain ⟨q1,q2⟩:=MP h
   refine ⟨by simp [q1],fun x hx=>?_⟩
   rcases YE.1 hx with rfl|hx
   ·have:=(KU h1).1;omega
   ·exact q2 x hx
  ·cases h
theorem Rm {n:Zl} {us:LI}:∀{bs:List Z7} {ms:List LI} {f:Bool} {t:Int},0<=t->0<=W2 n us bs ms f t ->
  ∀(i:Nat) (b:Z7) (m:LI),bs[i]? = some b->ms[i]? = some m->0<=YR n (us++m) b
 | [],_,_,_,_,_,i,b,m,hb,_=>by simp at hb
 | b::bs,[],_,_,_,h,_,_,_,_,hm=>by simp at hm
 | b::bs,m::ms,f,t,ht,h,i,c,l,hc,hl=>by
  rw [W2] at h
  split at h
  ·omega
  ·rename_i hq
   have h0:0<=YR n (us++m) b:=by
    rcases Int.lt_or_le (YR n (us++m) b) 0 with q|q
    ·exact absurd (.inl q) hq
    ·exact q
   cases i with
   | zero=>simp at hc hl;subst hc hl;exact h0
   | succ i=>exact Rm h0 h i c l (by simpa using hc) (by simpa using hl)
structure AB (n:Zl) (us:LI) (s:Z6):Prop where
 args:∀a∈s.args,0<=a/\a<us.length
 one:(s.op=7∨s.op=8∨(14<=s.op/\s.op<=17))->∃a,s.args=[a]
 num:s.op=9->0<=s.num/\s.num<n.routines.length
 into:s.into≠0->1<=s.into/\s.into<=us.length
 kids:(s.op=7∨s.op=8)->s.kids.length=(X7 n.decls s.op s.num).length/\(X7 n.decls s.op s.num).length≠0 /\
  ∀(i:Nat) (b:Z7) (m:LI),s.kids[i]? = some b->(X7 n.decls s.op s.num)[i]? = some m->0<=YR n (us++m) b
theorem Zcv {n:Zl} {us:LI} {op num:Int} {kids:List Z7} (h:0<=TV n us op num kids) :
  kids.length=(X7 n.decls op num).length/\(X7 n.decls op num).length≠0/\∀(i:Nat) (b:Z7) (m:LI),kids[i]? = some b->(X7 n.decls op num)[i]? = some m->0<=YR n (us++m) b:=by
 rw [TV] at h
 split at h
 ·omega
 ·rename_i hq
  exact ⟨by omega,by omega,Rm (Int.le_refl 0) h⟩
theorem LN {xs:LI} (h:xs.length=1):∃a,xs=[a]:=by
 match xs,h with
 | [a],_=>exact ⟨a,rfl⟩
theorem B9 {n:Zl} {us:LI} {s:Z6} (h:0<=ZZ n us s):AB n us s:=by
 rw [A0] at h
 split at h
 ·omega
 rename_i h0
 have hinto:s.into≠0->1<=s.into/\s.into<=us.length:=by
  intro hi
  have hv:Ua us s.op s.into=true:=by
   cases q:Ua us s.op s.into with
   | true=>rfl
   | false=>exact absurd (.inr (.inl (by rw [q];simp))) h0
  rw [Ua,Z5 hi] at hv
  split at hv
  ·cases ha:Xb us (s.into-1) with
   | none=>rw [ha] at hv;cases hv
   | some t=>have:=(KU ha).1;omega
  ·cases hv
 have mk:(∀a∈s.args,0<=a/\a<us.length)->((s.op=7∨s.op=8∨(14<=s.op/\s.op<=17))->∃a,s.args=[a])->(s.op=9->0<=s.num/\s.num<n.routines.length) ->
   ((s.op=7∨s.op=8)->0<=TV n us s.op s.num s.kids)->AB n us s:=fun a b c d=>⟨a,b,c,hinto,fun q=>Zcv (d q)⟩
 have ty:∀{tys},Wc us s.args tys=true->s.args.length=tys.length/\∀a∈s.args,0<=a/\a<us.length:=fun q=>MP q
 split at h
 ·rename_i h1
  split at h
  ·rename_i h2
   exact mk (by rw [List.eq_nil_of_length_eq_zero h2.1];simp) om om om
  ·omega
 split at h
 ·split at h
  ·rename_i h1 h2;exact mk (ty h2).2 om om om
  ·omega
 split at h
 ·split at h
  ·rename_i h1 h2;exact mk (ty h2).2 om om om
  ·omega
 split at h
 ·split at h
  ·rename_i h1 h2;exact mk (ty h2.2).2 om om om
  ·omega
 split at h
 ·split at h
  ·rename_i h1 h2;exact mk (ty h2).2 (fun _=>LN (by simpa using (ty h2).1)) om (fun _=>h)
  ·omega
 split at h
 ·split at h
  ·rename_i h1 h2;exact mk (ty h2).2 (fun _=>LN (by simpa using (ty h2).1)) om (fun _=>h)
  ·omega
 split at h
 ·rename_i hop
  rw [Ux] at h
  cases hr:Xb n.routines s.num with
  | none=>rw [hr] at h;simp at h
  | some r=>
   rw [hr] at h
   simp only at h
   have hn:=(KU hr).1
   rw [J7] at h
   split at h
   ·split at h
    ·rename_i h2;exact mk (ty h2).2 om om om
    ·omega
   ·split at h
    ·omega
    ·rename_i h2
     have h3:Wc us s.args (r.params.take (r.params.length-1))=true:=by
      cases q:Wc us s.args (r.params.take (r.params.length-1)) with
      | true=>rfl
      | false=>exact absurd (.inr (.inr (by rw [q];simp))) h2
     exact mk (ty h3).2 om om om
 split at h
 ·rename_i hop
  rcases he:s.args with _|⟨a,_|⟨b,_|⟨c,r⟩⟩⟩
  ·rw [he,show Ki n.decls us []=-1 from rfl] at h;omega
  ·rw [he,show Ki n.decls us [a]=-1 from rfl] at h;omega
  ·rw [he,Ki] at h
   cases ha:Xb us a with
   | none=>rw [ha] at h;simp at h
   | some t=>
    rw [ha] at h
    simp only at h
    split at h
    ·cases hd:n.decls[(t-1).toNat]? with
     | none=>rw [hd] at h;simp at h
     | some d=>
      rw [hd] at h
      simp only at h
      split at h
      ·rename_i h3
       have h4:=(MP h3).2 b (by simp)
       have h5:=(KU ha).1
       refine mk (fun x hx=>?_) om om om
       rw [he] at hx
       rcases YE.1 hx with rfl|hx
       ·omega
       ·rw [XI.1 hx];exact h4
      ·omega
    ·omega
  ·rw [he,show Ki n.decls us (a::b::c::r)=-1 from rfl] at h;omega
 split at h
 ·rename_i hop
  rcases he:s.args with _|⟨a,_|⟨b,r⟩⟩
  ·rw [he,show Qn n.decls us s.op []=-1 from rfl] at h;omega
  ·rw [he,Qn] at h
   cases ha:Xb us a with
   | none=>rw [ha] at h;simp at h
   | some t=>
    have h5:=(KU ha).1
    refine mk (fun x hx=>?_) (fun _=>⟨a,he⟩) om om
    rw [he] at hx
    rw [XI.1 hx];omega
  ·rw [he,show Qn n.decls us s.op (a::b::r)=-1 from rfl] at h;omega
 ·omega
def QE (n:Zl) (us:LI) (s:Z6):LI:=if W5 s.op=true then us++[ZZ n us s] else us
theorem Ir {L L':Zo} {ln:LI} {v:Int} (h:Kn L ln v=some L'):L'.vars=L.vars/\L'.par=L.par/\L'.con=L.con/\L'.fst=L.fst/\L'.tok=L.tok/\L'.own=L.own.set v.toNat (gI L.own v+1):=by
 rw [Kn] at h
 split at h
 ·cases h;exact ⟨rfl,rfl,rfl,rfl,rfl,rfl⟩
 ·cases h
theorem HY:∀(fs:LI) (own:LI) (p:Int),(UU own p fs).length=own.length
 | [],own,p=>rfl
 | f::r,own,p=>by rw [UU,HY r];split<;>simp
theorem L7 {xs:LI} {q v:Int} (h:∀x∈xs,x<=q) (hq:0<=q):gI xs v<=q:=by
 by_cases h0:gI xs v=0
 ·omega
 ·exact h _ (L9 h0)
theorem Ej {xs:LI} {v:Int} (h:∀x∈xs,0<=x):0<=gI xs v:=by
 by_cases h0:gI xs v=0
 ·omega
 ·exact h _ (L9 h0)
theorem HZ:∀(fs:LI) (own:LI) (p:Int),(∀x∈own,0<=x)->∀x∈UU own p fs,0<=x
 | [],own,p,h=>h
 | f::r,own,p,h=>by
  rw [UU]
  refine HZ r _ _ fun x hx=>?_
  split at hx
  ·rcases Ky hx with hx|rfl
   ·exact h x hx
   ·have:=Ej (v:=p) h;omega
  ·exact h x hx
theorem HX:∀(fs:LI) (own:LI) (p q:Int),0<=q->(∀x∈own,x<=q)->∀x∈UU own p fs,x<=q+fs.length
 | [],own,p,q,hq,h=>by intro x hx;have:=h x hx;simp;omega
 | f::r,own,p,q,hq,h=>by
  intro x hx
  rw [UU] at hx
  have:=HX r _ _ (q+1) om (fun y hy=>by
   split at hy
   ·rcases Ky hy with hy|rfl
    ·have:=h y hy;omega
    ·have:=L7 (v:=p) h hq;omega
   ·have:=h y hy;omega) x hx
  simp only [YZ];omega
theorem M4 {ds:List Zf} {L L':Zo} {op v:Int} (h:Qe ds L op v=some L'):L'.vars=L.vars/\L'.par=L.par/\L'.con=L.con/\L'.fst=L.fst/\L'.tok.length=L.tok.length /\
  ∃L1,U8 L v=some L1/\L'.own=UU L1.own (gI L.fst v) (ZX ds (gI L.con v)):=by
 rw [Qe] at h
 split at h
 ·cases h
 ·cases ht:U8 L v with
  | none=>rw [ht] at h;cases h
  | some L1=>
   rw [ht] at h
   simp only at h
   obtain ⟨t1,t2,t3,t4,t5,t6,t7⟩:=KH ht
   cases h
   refine ⟨t2,t3,t4,t5,?_,L1,rfl,rfl⟩
   split
   ·rw [T7]
   ·rfl
theorem Gp {n:Zl} {op num:Int} {ds:List Zf} {q:Int}:∀{as1:LI} {i:Nat} {L L':Zo},X6 ds L q->T1 n op num as1 i L=some L'->X6 ds L' q/\L'.vars=L.vars/\L'.par=L.par/\L'.con=L.con/\L'.fst=L.fst/\L'.tok=L.tok
 | [],i,L,L',hk,h=>by rw [T1] at h;cases h;exact ⟨hk,rfl,rfl,rfl,rfl,rfl⟩
 | a::r,i,L,L',hk,h=>by
  rw [T1] at h
  split at h
  ·cases ht:U8 L a with
   | none=>rw [ht] at h;cases h
   | some L1=>
    rw [ht] at h
    obtain ⟨t1,t2,t3,t4,t5,t6,t7⟩:=KH ht
    obtain ⟨k1,k2,k3,k4,k5,k6⟩:=Gp (hk.take ht) h
    exact ⟨k1,k2.trans t2,k3.trans t3,k4.trans t4,k5.trans t5,k6.trans t6⟩
  ·exact Gp hk h
theorem X6.le {ds:List Zf} {L:Zo} {q q':Int} (h:X6 ds L q) (hq:q<=q'):X6 ds L q':=⟨h.len,h.down,h.arm,h.nn,fun x hx=>Int.le_trans (h.bd x hx) hq⟩
theorem X6.turn {ds:List Zf} {L L':Zo} {q q':Int} (hk:X6 ds L q) (h1:L'.vars=L.vars) (h2:L'.par=L.par) (h3:L'.con=L.con) (h4:L'.fst=L.fst) (h5:L'.tok.length=L.tok.length) (h6:L'.own.length=L.own.length)
  (h7:∀x∈L'.own,0<=x) (h8:∀x∈L'.own,x<=q'):X6 ds L' q':=by
 obtain ⟨f1,f2,f3,f4,f5⟩:=hk.len
 refine ⟨⟨by rw [h6,h1];exact f1,by rw [h2,h1];exact f2,by rw [h3,h1];exact f3,by rw [h4,h1];exact f4,by rw [h5,h1];exact f5⟩,?_,?_,h7,h8⟩
 ·rw [h1,h2];exact hk.down
 ·rw [h1,h3,h4];exact hk.arm
theorem An {xs ys:LI} {j:Int} (h:j.toNat<xs.length):gI (xs++ys) j=gI xs j:=by
 rw [gI,gI,CN h]
theorem L8 {xs:LI} {y:Int} {j:Int} (h:j.toNat=xs.length):gI (xs++[y]) j=y:=by
 rw [gI,h];simp
theorem X6.grow {ds:List Zf} {L:Zo} {q t o p:Int} (hk:X6 ds L q) (hp:p<L.vars.length) (ho:0<=o/\o<=q):X6 ds (L.grow t o p) q:=by
 obtain ⟨f1,f2,f3,f4,f5⟩:=hk.len
 refine ⟨⟨by simp [Zo.grow,f1],by simp [Zo.grow,f2],by simp [Zo.grow,f3],by simp [Zo.grow,f4],by simp [Zo.grow,f5]⟩,?_,?_,?_,?_⟩
 ·intro j hj hl
  simp only [Zo.grow,Ys,HP] at hl ⊢
  by_cases hlt:j<L.vars.length
  ·rw [An om];exact hk.down j hj hlt
  ·rw [L8 om];omega
 ·intro x hx hl
  simp only [Zo.grow,Ys,HP] at hl ⊢
  by_cases hlt:x<L.vars.length
  ·rw [An om,An om]
   intro hc
   have:=hk.arm x hx hlt hc
   exact ⟨this.1,by omega⟩
  ·rw [L8 om];omega
 ·intro x hx
  simp only [Zo.grow,Xj,XI] at hx
  rcases hx with hx|rfl
  ·exact hk.nn x hx
  ·exact ho.1
 ·intro x hx
  simp only [Zo.grow,Xj,XI] at hx
  rcases hx with hx|rfl
  ·exact hk.bd x hx
  ·exact ho.2
theorem La {xs:LI} {k:Nat} {a:Int} {j:Int} (h:xs.length<=j.toNat/\j.toNat<xs.length+k):gI (xs++List.replicate k a) j=a:=by
 rw [gI,Bd h.1,List.getElem?_replicate,Zc om];rfl
theorem Cm {xs:LI} {x j c:Int} (h:j.toNat=x.toNat) (hl:x.toNat<xs.length):gI (xs.set x.toNat c) j=c:=by
 rw [gI,h,List.getElem?_set_self hl];rfl
theorem Ek {xs:LI} {x j c:Int} (h:j.toNat≠x.toNat):gI (xs.set x.toNat c) j=gI xs j:=by
 rw [gI,gI,List.getElem?_set_ne (fun q=>h q.symm)]
theorem Em {p:Int}:∀(fs:LI) (L:Zo),Jq L p fs=⟨L.vars++fs,L.own++List.replicate fs.length 0,L.par++List.replicate fs.length p,L.con++List.replicate fs.length (-1),
  L.fst++List.replicate fs.length (-1),L.tok++List.replicate fs.length (-1)⟩
 | [],L=>by simp [Jq]
 | t::r,L=>by rw [Jq,Em r];simp [Zo.grow,N2]
theorem Z43 {ds:List Zf} {L:Zo} {q x c:Int} (hk:X6 ds L q) (hq:0<=q) (hx:0<=x/\x<L.vars.length):X6 ds (KQ ds L x c) q/\(KQ ds L x c).vars=L.vars++ZX ds c:=by
 obtain ⟨f1,f2,f3,f4,f5⟩:=hk.len
 rw [KQ,Em]
 refine ⟨⟨⟨by simp [f1],by simp [f2],by simp [f3],by simp [f4],by simp [f5]⟩,?_,?_,?_,?_⟩,rfl⟩
 ·intro j hj hl
  simp only [Ys] at hl ⊢
  by_cases hlt:j<L.vars.length
  ·rw [An om];exact hk.down j hj hlt
  ·rw [La om];omega
 ·intro y hy hl
  simp only [Ys] at hl ⊢
  by_cases hlt:y<L.vars.length
  ·rw [An (by simp;omega),An (by simp;omega)]
   by_cases he:y.toNat=x.toNat
   ·rw [Cm he om,Cm he om]
    intro _
    exact ⟨by omega,by simp⟩
   ·rw [Ek he,Ek he]
    intro hc
    have:=hk.arm y hy hlt hc
    exact ⟨this.1,by omega⟩
  ·rw [La (by simp;omega)];omega
 ·intro y hy
  simp only [Xj,List.mem_replicate] at hy
  rcases hy with hy|⟨_,rfl⟩
  ·exact hk.nn y hy
  ·exact Int.le_refl 0
 ·intro y hy
  simp only [Xj,List.mem_replicate] at hy
  rcases hy with hy|⟨_,rfl⟩
  ·exact hk.bd y hy
  ·exact hq
theorem Cw {n:Zl} {L:Zo} {q:Int} {s:Z6} {i:Nat} {m:LI} (hk:X6 n.decls L q) (hq:0<=q) (hf:AB n L.vars s) (hop:s.op=7∨s.op=8) (hm:(X7 n.decls s.op s.num)[i]? = some m) :
  X6 n.decls (WF n.decls L s.op s.num s.args i) q/\(WF n.decls L s.op s.num s.args i).vars=L.vars++m:=by
 rw [WF]
 split
 ·rename_i h8
  obtain ⟨a,ha⟩:=hf.one om
  have hb:=hf.args a (by rw [ha];simp)
  have hg:gI s.args 0=a:=by rw [ha];rfl
  rw [X7,Z5 om,Tt] at hm
  cases hc:(ZV n.decls s.num)[i]? with
  | none=>rw [hc] at hm;cases hm
  | some c=>
   rw [hc] at hm
   cases hm
   have hgc:gI (ZV n.decls s.num) (i:Int)=c:=by rw [gI];simp [hc]
   rw [hg,hgc]
   exact Z43 hk hq hb
 ·rename_i h8
  rw [X7,Zc om] at hm
  have:m=[]:=by
   match i,hm with
   | 0,hm=>simpa using hm.symm
   | 1,hm=>simpa using hm.symm
   | i+2,hm=>simp at hm
  subst this
  exact ⟨hk,by simp⟩
theorem Z21 {n:Zl}:∀{l:List Z6} {us vs:LI},Xi n l us=some vs->us.length<=vs.length
 | [],us,vs,h=>by rw [Xi] at h;cases h;exact X5 _
 | s::r,us,vs,h=>by
  rw [Xi] at h
  split at h
  ·cases h
  ·have:=Z21 h
   split at this
   ·simp only [Ys,HP] at this;omega
   ·exact this
theorem Ps {n:Zl} {ln:LI} {L L':Zo} {op num into q:Int} {args:LI} {ds:List Zf} (hk:X6 ds L q) (h:UD n ln L op num into args=some L'):X6 ds L' q/\L'.vars=L.vars:=by
 rw [UD] at h
 cases ht:T1 n op num args 0 L with
 | none=>rw [ht] at h;cases h
 | some L1=>
  rw [ht] at h
  simp only at h
  obtain ⟨k1,k2,k3,k4,k5,k6⟩:=Gp hk ht
  split at h
  ·rw [Js] at h
   split at h
   ·split at h
    ·cases h
    ·cases h
     exact ⟨k1.turn rfl rfl rfl rfl (by simp) rfl k1.nn k1.bd,k2⟩
   ·cases h;exact ⟨k1,k2⟩
  ·cases h
theorem Z69 {L L':Zo} {m:Nat} (h:UB L m=some L'):L'=L.take m/\V8 (L.own.drop m) (L.tok.drop m)=true:=by
 rw [UB] at h
 split at h
 ·rename_i hz;cases h;exact ⟨rfl,hz⟩
 ·cases h
theorem BR {r:Option Zo} {f:Zo->Option Zo} {L:Zo} (h:JG r f=some L):∃L1,r=some L1/\f L1=some L:=by
 cases r with
 | none=>cases h
 | some L1=>exact ⟨L1,rfl,h⟩
theorem LJ (n:Zl) (hn:X4 n) (ln:LI):∀m:Nat,
  (∀(s:Z6) (L L':Zo) (q:Int),s.sz<=m->X6 n.decls L q->0<=q->0<=ZZ n L.vars s->WI n ln L s=some L'->X6 n.decls L' (q+4*s.sz)/\L'.vars=QE n L.vars s) /\
  (∀(b:Z7) (L O:Zo) (q:Int) (k:Nat),b.sz<=m->X6 n.decls L q->0<=q->0<=YR n L.vars b->k<=L.vars.length->Wh n ln L k b=some O ->
   (O.own.length=k/\O.tok.length=k/\(∀x∈O.own,0<=x/\x<=q+4*b.sz))/\WH O/\O.vars.length=k):=by
 intro m
 induction m with
 | zero=>exact ⟨fun s _ _ _ h=>by have:=s.sz_pos;omega,fun s _ _ _ _ h=>by have:=s.sz_pos;omega⟩
 | succ m ih=>
  have hs:∀(s:Z6) (L L':Zo) (q:Int),s.sz<=m+1->X6 n.decls L q->0<=q->0<=ZZ n L.vars s->WI n ln L s=some L'->X6 n.decls L' (q+4*s.sz)/\L'.vars=QE n L.vars s:=by
   intro s L L' q Xu hk hq hty h
   have hp:=s.sz_pos
   have hf:=B9 hty
   obtain ⟨f1,f2,f3,f4,f5⟩:=hk.len
   rw [Ht] at h
   unfold K7 at h
   cases hpk:UN n ln L s.op s.num s.into s.args (U2 n ln L s.op s.num s.args s.kids) with
   | none=>rw [hpk] at h;cases h
   | some L1=>
    rw [hpk] at h
    simp only at h
    have key:X6 n.decls L1 (q+4*s.sz)/\L1.vars=L.vars:=by
     rw [UN] at hpk
     split at hpk
     ·obtain ⟨d1,d2,d3,d4,d5,d6⟩:=Ir hpk
      refine ⟨hk.turn d1 d2 d3 d4 (by rw [d5]) (by rw [d6,T7]) ?_ ?_,d1⟩
      ·rw [d6];intro x hx
       rcases Ky hx with hx|rfl
       ·exact hk.nn x hx
       ·have:=Ej (v:=gI s.args 0) hk.nn;omega
      ·rw [d6];intro x hx
       rcases Ky hx with hx|rfl
       ·have:=hk.bd x hx;omega
       ·have:=L7 (v:=gI s.args 0) hk.bd hq;omega
     split at hpk
     ·exact ⟨(hk.take hpk).le om,(KH hpk).2.1⟩
     split at hpk
     ·rename_i hop
      obtain ⟨d1,d2,d3,d4,d5,Lt,ht,d6⟩:=M4 hpk
      have hkt:=hk.take ht
      have h3:=UA hn.decls (gI L.con (gI s.args 0))
      refine ⟨hk.turn d1 d2 d3 d4 d5 ?_ ?_ ?_,d1⟩
      ·rw [d6,HY,(KH ht).2.2.2.2.2.2,T7]
      ·rw [d6];exact HZ _ _ _ hkt.nn
      ·rw [d6];intro x hx
       have:=HX _ _ _ q hq hkt.bd x hx;omega
     split at hpk
     ·rename_i hop
      split at hpk
      ·cases hpk
      ·cases hks:s.kids with
       | nil=>rw [hks,U2] at hpk;cases hpk
       | cons b bs=>
        rw [hks,U2] at hpk
        unfold B0 at hpk
        cases hb:Wh n ln (WF n.decls L s.op s.num s.args 0) L.vars.length b with
        | none=>rw [hb] at hpk;cases hpk
        | some one=>
         rw [hb] at hpk
         simp only at hpk
         split at hpk
         ·cases hpk
          obtain ⟨q1,q2,q3⟩:=hf.kids hop
          have hks0:s.kids[0]? = some b:=by rw [hks];rfl
          obtain ⟨a0,ha0⟩:=QN (xs:=X7 n.decls s.op s.num) (j:=0) om
          obtain ⟨k1,k2⟩:=Cw hk hq hf hop ha0
          have hbz:=TK hks0
          obtain ⟨⟨r1,r2,r3⟩,_⟩:=ih.2 b _ one q L.vars.length om k1 hq (by rw [k2];exact q3 0 b a0 hks0 ha0) (by rw [k2];simp) hb
          refine ⟨hk.turn rfl rfl rfl rfl (by simp only;omega) (by simp only;omega) (fun x hx=>(r3 x hx).1) (fun x hx=>?_),rfl⟩
          have:=(r3 x hx).2;omega
         ·cases hpk
     ·obtain ⟨k1,k2⟩:=Ps hk hpk
      exact ⟨k1.le om,k2⟩
    split at h
    ·rename_i hd
     cases h
     refine ⟨key.1.grow om ?_,by rw [QE,Zc hd];simp [Zo.grow,key.2]⟩
     split<;>omega
    ·rename_i hd
     cases h
     exact ⟨key.1,by rw [QE,Z5 hd];exact key.2⟩
  refine ⟨hs,?_⟩
  intro b L O q k Xu hk hq hty hkl h
  have hsteps:∀(l:List Z6) (L L':Zo) (q:Int) (vs:LI),Yj l<=m->X6 n.decls L q->0<=q->Xi n l L.vars=some vs->Xt n ln L l=some L'->X6 n.decls L' (q+4*Yj l)/\L'.vars=vs:=by
   intro l
   induction l with
   | nil=>intro L L' q vs _ hk _ h1 h2;rw [Xi] at h1;rw [Xt] at h2;cases h1;cases h2;exact ⟨by simpa [Yj] using hk,rfl⟩
   | cons s r ihr=>
    intro L L' q vs hz hk hq h1 h2
    rw [Yj] at hz
    rw [Xt] at h2
    obtain ⟨L1,e1,e2⟩:=BR h2
    rw [Xi] at h1
    split at h1
    ·cases h1
    ·rename_i h0
     obtain ⟨k1,k2⟩:=hs s L L1 q om hk hq om e1
     obtain ⟨k3,k4⟩:=ihr L1 L' (q+4*s.sz) vs om k1 om (by rw [k2];exact h1) e2
     exact ⟨k3.le (by rw [Yj];omega),k4⟩
  have hbz:=b.sz_eq
  rw [KV] at h
  obtain ⟨L1,e1,e2⟩:=BR h
  rw [C8] at hty
  cases hv:Xi n b.steps L.vars with
  | none=>rw [hv] at hty;simp at hty
  | some vs=>
   obtain ⟨k1,k2⟩:=hsteps b.steps L L1 q vs om hk hq hv e1
   have hlen:=Z21 hv
   rw [Ud] at e2
   obtain ⟨L2,e3,e4⟩:=BR e2
   have k3:X6 n.decls L2 (q+4*Yj b.steps)/\L2.vars=L1.vars:=by
    split at e3
    ·exact ⟨k1.take e3,(KH e3).2.1⟩
    ·cases e3;exact ⟨k1,rfl⟩
   obtain ⟨rfl,_⟩:=Z69 e4
   obtain ⟨g1,g2,g3,g4,g5⟩:=k3.1.len
   have hl2:L2.vars.length=vs.length:=by rw [k3.2,k2]
   refine ⟨⟨by simp [Zo.take];omega,by simp [Zo.take];omega,fun x hx=>?_⟩,⟨by simp [Zo.take];omega,by simp [Zo.take];omega,by simp [Zo.take];omega,by simp [Zo.take];omega,by simp [Zo.take];omega⟩,by simp [Zo.take];omega⟩
   have hx':x∈L2.own:=Tu hx
   have:=k3.1.nn x hx'
   have:=k3.1.bd x hx'
   omega
theorem Fa {n:Zl} (hn:X4 n) {ln:LI} {s:Z6} {L L':Zo} {q:Int} (hk:X6 n.decls L q) (hq:0<=q) (hty:0<=ZZ n L.vars s) (h:WI n ln L s=some L'):X6 n.decls L' (q+4*s.sz)/\L'.vars=QE n L.vars s:=
 (LJ n hn ln s.sz).1 s L L' q (X5 _) hk hq hty h
theorem NF {n:Zl} (hn:X4 n) {ln:LI} {b:Z7} {L O:Zo} {q:Int} {k:Nat} (hk:X6 n.decls L q) (hq:0<=q) (hty:0<=YR n L.vars b) (hkl:k<=L.vars.length) (h:Wh n ln L k b=some O) :
  O.own.length=k/\O.tok.length=k/\(∀x∈O.own,0<=x/\x<=q+4*b.sz):=
 ((LJ n hn ln b.sz).2 b L O q k (X5 _) hk hq hty hkl h).1
theorem BH {n:Zl} (hn:X4 n) {ln:LI} {s:Z6} {L L1:Zo} {q:Int} (hk:X6 n.decls L q) (hq:0<=q) (hf:AB n L.vars s)
  (hpk:UN n ln L s.op s.num s.into s.args (U2 n ln L s.op s.num s.args s.kids)=some L1):X6 n.decls L1 (q+4*s.sz)/\L1.vars=L.vars:=by
 have hp:=s.sz_pos
 obtain ⟨f1,f2,f3,f4,f5⟩:=hk.len
 rw [UN] at hpk
 split at hpk
 ·obtain ⟨d1,d2,d3,d4,d5,d6⟩:=Ir hpk
  refine ⟨hk.turn d1 d2 d3 d4 (by rw [d5]) (by rw [d6,T7]) ?_ ?_,d1⟩
  ·rw [d6];intro x hx
   rcases Ky hx with hx|rfl
   ·exact hk.nn x hx
   ·have:=Ej (v:=gI s.args 0) hk.nn;omega
  ·rw [d6];intro x hx
   rcases Ky hx with hx|rfl
   ·have:=hk.bd x hx;omega
   ·have:=L7 (v:=gI s.args 0) hk.bd hq;omega
 split at hpk
 ·exact ⟨(hk.take hpk).le om,(KH hpk).2.1⟩
 split at hpk
 ·rename_i hop
  obtain ⟨d1,d2,d3,d4,d5,Lt,ht,d6⟩:=M4 hpk
  have hkt:=hk.take ht
  have h3:=UA hn.decls (gI L.con (gI s.args 0))
  refine ⟨hk.turn d1 d2 d3 d4 d5 ?_ ?_ ?_,d1⟩
  ·rw [d6,HY,(KH ht).2.2.2.2.2.2,T7]
  ·rw [d6];exact HZ _ _ _ hkt.nn
  ·rw [d6];intro x hx
   have:=HX _ _ _ q hq hkt.bd x hx;omega
 split at hpk
 ·rename_i hop
  split at hpk
  ·cases hpk
  ·cases hks:s.kids with
   | nil=>rw [hks,U2] at hpk;cases hpk
   | cons b bs=>
    rw [hks,U2] at hpk
    unfold B0 at hpk
    cases hb:Wh n ln (WF n.decls L s.op s.num s.args 0) L.vars.length b with
    | none=>rw [hb] at hpk;cases hpk
    | some one=>
     rw [hb] at hpk
     simp only at hpk
     split at hpk
     ·cases hpk
      obtain ⟨q1,q2,q3⟩:=hf.kids hop
      have hks0:s.kids[0]? = some b:=by rw [hks];rfl
      obtain ⟨a0,ha0⟩:=QN (xs:=X7 n.decls s.op s.num) (j:=0) om
      obtain ⟨k1,k2⟩:=Cw hk hq hf hop ha0
      have hbz:=TK hks0
      obtain ⟨r1,r2,r3⟩:=NF hn k1 hq (by rw [k2];exact q3 0 b a0 hks0 ha0) (by rw [k2];simp) hb
      refine ⟨hk.turn rfl rfl rfl rfl (by simp only;omega) (by simp only;omega) (fun x hx=>(r3 x hx).1) (fun x hx=>?_),rfl⟩
      have:=(r3 x hx).2;omega
     ·cases hpk
 ·obtain ⟨k1,k2⟩:=Ps hk hpk
  exact ⟨k1.le om,k2⟩
end Go.Abs
section
namespace Go.Abs
theorem FA {ds:List Zf} {op num:Int} {i:Nat} {m:LI} (h8:op=8) (h:(X7 ds op num)[i]? = some m):∃c,(ZV ds num)[i]? = some c/\m=ZX ds c:=by
 rw [X7,Z5 om,Tt] at h
 cases hc:(ZV ds num)[i]? with
 | none=>rw [hc] at h;cases h
 | some c=>rw [hc] at h;cases h;exact ⟨c,rfl,rfl⟩
theorem Rd {ds:List Zf} {L:Zo} {op num x c:Int} {args:LI} {i:Nat} (h8:op=8) (hx:args[0]? = some x) (hc:(ZV ds num)[i]? = some c):WF ds L op num args i=KQ ds L x c:=by
 have h1:gI args 0=x:=by rw [gI];simp [hx]
 have h2:gI (ZV ds num) (i:Int)=c:=by rw [gI];simp [hc]
 rw [WF,Zc h8,h1,h2]
theorem Zco {ds:List Zf} {L:Zo} {op num:Int} {args:LI} {i:Nat} (h8:¬op=8):WF ds L op num args i=L:=by rw [WF,Z5 h8]
theorem Zct {n:Zl} {ln:LI} {L:Zo} {op num:Int} {args:LI} {kids:List Z7} {kb:Z7} (h:kids[0]? = some kb) :
  U2 n ln L op num args kids=B0 L (Wh n ln (WF n.decls L op num args 0) L.vars.length kb) fun one=>Uu n ln L op num args one (kids.drop 1) 1:=by
 cases kids with
 | nil=>simp at h
 | cons b bs=>simp at h;subst h;rw [U2];rfl
theorem Ey {n:Zl} {ln:LI} {L one:Zo} {op num:Int} {args:LI} {kids:List Z7} {kb:Z7} {k:Nat} (h:kids[k]? = some kb) :
  Uu n ln L op num args one (kids.drop k) k=EX one (Wh n ln (WF n.decls L op num args k) L.vars.length kb) (Uu n ln L op num args one (kids.drop (k+1)) (k+1)):=by
 rw [Y6 h,Uu]
def JQ (n:Zl) (ln:LI) (L:Zo) (s:Z6):Option Zo:=
 if s.op=8/\¬XR L ln (gI s.args 0)=true then none else U2 n ln L s.op s.num s.args s.kids
theorem Z5c {n:Zl} {ln:LI} {L:Zo} {s:Z6} (h8:s.op=8) (ha:¬XR L ln (gI s.args 0)=true):JQ n ln L s=none:=by rw [JQ,Zc ⟨h8,ha⟩]
theorem NU {n:Zl} {ln:LI} {L:Zo} {s:Z6} {kb:Z7} (h:¬(s.op=8/\¬XR L ln (gI s.args 0)=true)) (hk:s.kids[0]? = some kb) :
  JQ n ln L s=B0 L (Wh n ln (WF n.decls L s.op s.num s.args 0) L.vars.length kb) fun one=>Uu n ln L s.op s.num s.args one (s.kids.drop 1) 1:=by
 rw [JQ,Z5 h,Zct hk]
theorem JU {xs:LI} {x:Int} (h:xs[0]? = some x):gI xs 0=x:=by rw [gI];simp [h]
end Go.Abs
namespace Go.Abs
theorem WH.grow {L:Zo} {t o p:Int} (h:WH L):WH (L.grow t o p):=by
 obtain ⟨f1,f2,f3,f4,f5⟩:=h
 exact ⟨by simp [Zo.grow,f1],by simp [Zo.grow,f2],by simp [Zo.grow,f3],by simp [Zo.grow,f4],by simp [Zo.grow,f5]⟩
theorem WH.arm {L:Zo} {i j:Nat} {c d:Int} (h:WH L):WH ⟨L.vars,L.own,L.par,L.con.set i c,L.fst.set j d,L.tok⟩:=by
 obtain ⟨f1,f2,f3,f4,f5⟩:=h
 exact ⟨f1,f2,by simp [f3],by simp [f4],f5⟩
end Go.Abs
namespace Go.Abs
theorem Rk {n:Zl} (hn:X4 n) {ln:LI} {L O:Zo} {q:Int} {s:Z6} {i:Nat} {kb:Z7} {m:LI} (hk:X6 n.decls L q) (hq:0<=q) (hf:AB n L.vars s) (hop:s.op=7∨s.op=8)
  (_:s.kids[i]? = some kb) (harm:(X7 n.decls s.op s.num)[i]? = some m) (hbt:0<=YR n (L.vars++m) kb) (h:Wh n ln (WF n.decls L s.op s.num s.args i) L.vars.length kb=some O) :
  O.own.length=L.vars.length/\O.tok.length=L.vars.length:=by
 obtain ⟨k1,k2⟩:=Cw hk hq hf hop harm
 obtain ⟨r1,r2,_⟩:=NF hn k1 hq (by rw [k2];exact hbt) (by rw [k2];simp) h
 exact ⟨r1,r2⟩
theorem Z0a {one two:Zo} {r:Bool} (h:¬(¬one.own=two.own∨¬one.tok=two.tok)):EX one (some two) r=r:=Zc ⟨Wf.1 fun q=>h (.inl q),Wf.1 fun q=>h (.inr q)⟩
theorem Z09 {one two:Zo} {r:Bool} (h:¬one.own=two.own∨¬one.tok=two.tok):EX one (some two) r=false:=Z5 fun q=>h.elim (fun z=>z q.1) fun z=>z q.2
theorem RK {L one:Zo} {f:Zo->Bool} (h:f one=true):B0 L (some one) f=some ⟨L.vars,one.own,L.par,L.con,L.fst,one.tok⟩:=Zc h
theorem EB {L one:Zo} {f:Zo->Bool} (h:f one=false):B0 L (some one) f=none:=Z5 (by rw [h];simp)
end Go.Abs
namespace Go.Abs
section
variable {n:Zl} {ln:LI} {L:Zo} {s:Z6}
abbrev Qf (n:Zl) (ln:LI) (L:Zo) (s:Z6):Option Zo:=UN n ln L s.op s.num s.into s.args (U2 n ln L s.op s.num s.args s.kids)
theorem EL {x:Int} (h:s.op=14) (hx:gI s.args 0=x):Qf n ln L s=Kn L ln x:=hx▸Zc h
theorem EM {x:Int} (h:s.op=15) (hx:gI s.args 0=x):Qf n ln L s=U8 L x:=by rw [<-hx,Qf,UN,Z5 om,Zc h]
theorem H9 {x:Int} (h:s.op=16∨s.op=17) (hx:gI s.args 0=x):Qf n ln L s=Qe n.decls L s.op x:=by rw [<-hx,Qf,UN,Z5 om,Z5 om,Zc h]
theorem Ha (h:s.op=7∨s.op=8):Qf n ln L s=JQ n ln L s:=by rw [Qf,UN,Z5 om,Z5 om,Z5 om,Zc h,JQ]
theorem Sp (h1:¬s.op=14) (h2:¬s.op=15) (h3:¬(s.op=16∨s.op=17)) (h4:¬(s.op=7∨s.op=8)):Qf n ln L s=UD n ln L s.op s.num s.into s.args:=by
 rw [Qf,UN,Z5 h1,Z5 h2,Z5 h3,Z5 h4]
theorem Z6y {v:Int} (h:¬XR L ln v=true):Kn L ln v=none:=Z5 h
theorem Z6z {v x:Int} (h:¬¬XR L ln v=true) (hx:gI L.own v=x):Kn L ln v=some ⟨L.vars,L.own.set v.toNat (x+1),L.par,L.con,L.fst,L.tok⟩:=by rw [Kn,Zc (Wf.1 h),hx]
theorem U7 (n:Zl) (ln:LI) (L:Zo) (s:Z6):WI n ln L s=K7 L s.op (ZZ n L.vars s) (Qf n ln L s):=Ht n ln L s
theorem TF {X:Zo} {op t:Int} (h:W5 op=true/\t≠0):K7 L op t (some X)=some (X.grow t 1 (-1)):=by
 unfold K7;simp only [h.1,↓reduceIte];rw [Zc h.2]
theorem TG {X:Zo} {op t:Int} (h:¬(W5 op=true/\t≠0)) (h2:W5 op=true):K7 L op t (some X)=some (X.grow 0 0 (-1)):=by
 have ht:t=0:=Wf.1 fun q=>h ⟨h2,q⟩
 subst ht
 unfold K7;simp only [h2,↓reduceIte];rfl
theorem Th {X:Zo} {op t:Int} (h:¬W5 op=true):K7 L op t (some X)=some X:=by
 unfold K7;simp only [Z5 h]
end
end Go.Abs
namespace Go.Abs
theorem C9 {n:Zl} {us:LI} {b:Z7} (h:0<=YR n us b):∃vs t,Xi n b.steps us=some vs/\Xb vs b.result=some t/\0<=t:=by
 rw [C8] at h
 cases hv:Xi n b.steps us with
 | none=>rw [hv] at h;simp at h
 | some vs=>
  rw [hv] at h
  simp only at h
  cases ha:Xb vs b.result with
  | none=>rw [ha] at h;simp at h
  | some t=>rw [ha] at h;exact ⟨vs,t,rfl,ha,h⟩
theorem CH {n:Zl} {us vs:LI} {s:Z6} {r:List Z6} (h:Xi n (s::r) us=some vs):0<=ZZ n us s/\Xi n r (QE n us s)=some vs:=by
 rw [Xi] at h
 split at h
 ·cases h
 ·exact ⟨by omega,h⟩
theorem EY (n:Zl) (us:LI) (s:Z6):us.length<=(QE n us s).length/\(QE n us s).length<=us.length+s.sz:=by
 have:=s.sz_pos
 rw [QE];split
 ·simp only [Ys,HP];omega
 ·omega
end Go.Abs
namespace Go.Abs
theorem Z7p {X L:Zo} {m:Nat} {r x:Int} (hg:gI L.vars r=x) (h:x≠0) (ht:U8 L r=some X):Ud m r L=UB X m:=by rw [Ud,hg,Zc h,ht];rfl
theorem Z7o {L:Zo} {m:Nat} {r x:Int} (hg:gI L.vars r=x) (h:x≠0) (ht:U8 L r=none):Ud m r L=none:=by rw [Ud,hg,Zc h,ht];rfl
theorem Ec {L:Zo} {m:Nat} {r x:Int} (hg:gI L.vars r=x) (h:¬x≠0):Ud m r L=UB L m:=by rw [Ud,hg,Z5 h];rfl
end Go.Abs
namespace Go.Abs
theorem Sn {ds:List Zf} {lent:LI}:∀{ps:LI} {i:Nat} {L:Zo},X6 ds L 1->X6 ds (KC lent ps i L) 1/\(KC lent ps i L).vars=L.vars++ps
 | [],i,L,hk=>⟨hk,by simp [KC]⟩
 | t::r,i,L,hk=>by
  rw [KC]
  obtain ⟨k1,k2⟩:=Sn (lent:=lent) (ps:=r) (i:=i+1) (hk.grow (t:=t) (o:=if t≠0/\¬(i:Int)∈lent then 1 else 0) (p:=-1) om (by split<;>omega))
  exact ⟨k1,by rw [k2];simp [Zo.grow]⟩
theorem H3 (ds:List Zf) (r:Yh):X6 ds (U3 r) 1/\(U3 r).vars=r.params:=by
 have h:X6 ds (⟨[],[],[],[],[],[]⟩:Zo) 1:=⟨⟨rfl,rfl,rfl,rfl,rfl⟩,fun j h1 h2=>by simp at h2;omega,fun j h1 h2=>by simp at h2;omega,by simp,by simp⟩
 obtain ⟨k1,k2⟩:=Sn (lent:=r.lent) (ps:=r.params) (i:=0) h
 exact ⟨k1,by rw [U3,k2];rfl⟩
theorem Z67 {L:Zo} (h:UB L 0=none):(UB L 0).isSome=false:=by rw [h];rfl
theorem Z68 {L L':Zo} (h:UB L 0=some L'):(UB L 0).isSome=true:=by rw [h];rfl
theorem Z4t {n:Zl} (hn:X4 n) {ln:LI} {b:Z7} {L O:Zo} {q:Int} {k:Nat} (hk:X6 n.decls L q) (hq:0<=q) (hty:0<=YR n L.vars b) (hkl:k<=L.vars.length) (h:Wh n ln L k b=some O) :
  WH O/\O.vars.length=k:=
 ((LJ n hn ln b.sz).2 b L O q k (X5 _) hk hq hty hkl h).2
end Go.Abs
namespace Go.Abs
theorem Mm {n:Zl}:∀{l:List Yh},QB n l=true->∀r∈l,¬UQ r.body<0/\YR n r.params r.body=r.result
 | [],_,r,h=>by simp at h
 | a::l,h,r,hr=>by
  rw [QB] at h
  split at h
  ·rename_i h1
   rcases YE.1 hr with rfl|hr
   ·exact h1
   ·exact Mm h r hr
  ·cases h
theorem HD {n:Zl} (hz:Vp n) (h:V7 n=true):X4 n/\∀r∈n.routines,0<=YR n r.params r.body:=by
 simp only [V7,Wa] at h
 refine ⟨LU hz h.1,fun r hr=>?_⟩
 rw [(Mm h.2 r hr).2]
 have h1:=h.1
 simp only [VA,Kf,Wa] at h1
 have:=Hn h1.2.1.2.2.1 (Uf r) (XF.2 ⟨r,hr,rfl⟩)
 simp only [J9,Wa,decide_eq_true_eq,Uf] at this
 exact (of_decide_eq_true this.2.2).1
end Go.Abs
end
section
namespace Go.Abs
theorem IH {xs:LI} (h:Z8 xs=[]):xs=[]:=by cases xs with|nil=>rfl|cons x r=>cases h
theorem Z73 {xs:List Ye} (h:XT xs=[]):xs=[]:=by cases xs with|nil=>rfl|cons x r=>cases h
theorem Z76 {xs:List Zf} (h:YB xs=[]):xs=[]:=by cases xs with|nil=>rfl|cons x r=>cases h
def Ar (i:Int):LI->Nat->Int
 | [],_=>-1
 | x::r,k=>if i=x then (k:Int) else Ar i r (k+1)
def GF (xs:LI) (i:Int):Int:=Ar i xs 0
theorem PQ (i:Int):∀(xs:LI) (k:Nat),(0<=Ar i xs k↔i∈xs)/\-1<=Ar i xs k
 | [],k=>by simp [Ar]
 | x::r,k=>by
  rw [Ar]
  obtain ⟨h1,h2⟩:=PQ i r (k+1)
  split
  ·rename_i h;subst h;simp<;>omega
  ·rename_i h;simp [h1,h,h2]
theorem Zbx (xs:LI) (i:Int):decide (GF xs i>=0)=decide (i∈xs):=by
 rw [decide_eq_decide];exact (PQ i xs 0).1
end Go.Abs
namespace Go.Abs
theorem P3 (xss:List LI) (k:Nat):(xss.take k).flatten.length<=xss.flatten.length:=by
 conv=>rhs;rw [<-T8 k xss,List.flatten_append,Ys]
 omega
end Go.Abs
namespace Go.Abs
theorem L4 {xss:List LI} {k:Nat} {x:LI} (h:xss[k]? = some x):(xss.take (k+1)).flatten=(xss.take k).flatten++x:=by rw [V6 h,List.flatten_append];simp
theorem P2 {xss:List LI} {k:Nat} {x:LI} (h:xss[k]? = some x):(xss.take k).flatten.length+x.length<=xss.flatten.length:=by
 have:=P3 xss (k+1)
 rw [L4 h,Ys] at this
 exact this
end Go.Abs
end
section
namespace Go.Abs
theorem Z5r {c:Int} {ds:List Zf} {k:Nat} {d:Zf} {r:Int × LI} (h:ds[k]? = some d) (hn:¬(c-YQ (ds.take k)>=0/\c-YQ (ds.take k)<d.cons.length))
  (hr:TA c (ds.drop k) k (YQ (ds.take k))=r):TA c (ds.drop (k+1)) (k+1) (YQ (ds.take (k+1)))=r:=by
 rw [Y6 h,TA,Z5 om] at hr
 rw [V6 h,E4,<-hr];rfl
end Go.Abs
namespace Go.Abs
theorem Z5t {c:Int} {ds:List Zf} {k:Nat} {d:Zf} {x:Ye} (h:ds[k]? = some d) (hn:c-YQ (ds.take k)>=0/\c-YQ (ds.take k)<d.cons.length)
  (hx:d.cons[(c-YQ (ds.take k)).toNat]? = some x):TA c (ds.drop k) k (YQ (ds.take k))=((k:Int)+1,x.fields):=by
 rw [Y6 h,TA,Zc om,hx];rfl
def Bh (c:Int) (z:Nat) (v:Int):Prop:=v=c-z∨(c<0/\c-z < -9223372036854775808/\v=c-z+18446744073709551616)
theorem Z4a {c:Int} {z l:Nat} {v:Int} (h:Bh c z v) (hz:z<=100) (hl:l<=3) (hc:-9223372036854775808<=c/\c<=9223372036854775807):Bh c (z+l) (CM (v-l)):=by
 unfold Bh at *;rw [CM,IntKind.wrap_i64];omega
theorem Z5s {c v:Int} {ds:List Zf} {k:Nat} {d:Zf} {r:Int × LI} (h:ds[k]? = some d) (ha:Bh c (YQ (ds.take k)) v) (hn:¬(v>=0/\v<d.cons.length))
  (hr:TA c (ds.drop k) k (YQ (ds.take k))=r):TA c (ds.drop (k+1)) (k+1) (YQ (ds.take (k+1)))=r:=Z5r h (by unfold Bh at ha;omega) hr
theorem Z5u {c v:Int} {ds:List Zf} {k:Nat} {d:Zf} {x:Ye} (h:ds[k]? = some d) (ha:Bh c (YQ (ds.take k)) v) (hz:YQ (ds.take k)<=100) (hl:d.cons.length<=3) (hc:-9223372036854775808<=c)
  (hn:v>=0/\v<d.cons.length) (hx:d.cons[v.toNat]? = some x):TA c (ds.drop k) k (YQ (ds.take k))=((k:Int)+1,x.fields):=by
 have:v=c-(YQ (ds.take k):Int):=by unfold Bh at ha;omega
 subst this
 exact Z5t h hn hx
def VX (ds:List Zf) (t:Int):Zf:=if XV ds t=true then (ds[(t-1).toNat]?).getD ⟨0,0,[]⟩ else ⟨0,0,[]⟩
end Go.Abs
namespace Go.Abs
abbrev Og (ds:List Zf) (d:Zf):Prop:=
 (((¬(0<=d.frm/\d.frm<=ds.length))∨(¬(0<=d.to_/\d.to_<=ds.length)))∨((d.cons.length:Int)>3))∨(((d.cons.length:Int)>0)/\((d.frm≠0)∨(d.to_≠0)))
theorem Z6q {ds:List Zf} {d:Zf} {i:Nat} (h:Og ds d):UX ds d i=false:=by
 rw [UX]
 split
 ·rw [Z5];rintro ⟨h1,h2,h3⟩
  rcases h with ((h|h)|h)|h<;>omega
 ·split
  ·rfl
  ·rcases h with ((h|h)|h)|h
   ·rw [decide_eq_false h];rfl
   ·rw [decide_eq_false h,Bool.and_false]
   ·omega
   ·omega
theorem Z6r {ds:List Zf} {d:Zf} {i:Nat} (hl:0<d.cons.length) (h:Q4 ds.length d.cons=false):UX ds d i=false:=by
 rw [UX,Zc hl];split
 ·exact h
 ·rfl
theorem Z6s {ds:List Zf} {d:Zf} {i:Nat} (hl:d.cons.length=0) (h:Km d (ds.take i)=true):UX ds d i=false:=by
 rw [UX,Z5 om,Zc h]
theorem Z6t {ds:List Zf} {d:Zf} {i:Nat} (h1:¬Og ds d) (h2:Q4 ds.length d.cons=true) (h3:d.cons.length=0->Km d (ds.take i)=false):UX ds d i=true:=by
 rw [UX]
 have ha:0<=d.frm/\d.frm<=ds.length:=Wf.1 fun q=>h1 (.inl (.inl (.inl q)))
 have hb:0<=d.to_/\d.to_<=ds.length:=Wf.1 fun q=>h1 (.inl (.inl (.inr q)))
 have hc:¬(d.cons.length:Int)>3:=fun q=>h1 (.inl (.inr q))
 split
 ·rename_i hl
  have hd:¬(d.frm≠0∨d.to_≠0):=fun q=>h1 (.inr ⟨by omega,q⟩)
  rw [Zc ⟨by omega,by omega,by omega⟩];exact h2
 ·rw [Z5 (by rw [h3 om];simp),decide_eq_true ha,decide_eq_true hb];rfl
theorem MU {ds:List Zf} {k:Nat} {d:Zf} (h:ds[k]? = some d) (hA:UX ds d k=false) (c:TC ds (ds.drop k) k=TC ds ds 0):false=V0 ds:=by
 rw [V0,<-c,Y6 h,TC,E6 h,hA,Z5 (by simp),Bool.and_false]
theorem Zkf {ds:List Zf} {k:Nat} {d:Zf} {r:Bool} (h:ds[k]? = some d) (hA:UX ds d k=true) (c:TC ds (ds.drop k) k=r):TC ds (ds.drop (k+1)) (k+1)=r:=by
 rw [Y6 h,TC,E6 h,hA,Zc rfl] at c;exact c
theorem Zke {ds:List Zf} {k:Nat} (hl:ds.length<=4) (hk:ds.length<=k) (c:TC ds (ds.drop k) k=TC ds ds 0):true=V0 ds:=by
 rw [V0,<-c,Xq hk,decide_eq_true hl];rfl
theorem Z5v {m:Nat} {c:Ye} (h:((c.fields.length:Int)>3)∨(¬(Wp m c.fields=true))):JS m c=false:=by
 rw [JS]
 rcases h with h|h
 ·rw [decide_eq_false om];rfl
 ·rw [KL.2 h,Bool.and_false]
theorem Z5w {m:Nat} {c:Ye} (h:¬(((c.fields.length:Int)>3)∨(¬(Wp m c.fields=true)))):JS m c=true:=by
 rw [JS,Wf.1 fun q=>h (.inr q),decide_eq_true (by have:¬(c.fields.length:Int)>3:=fun q=>h (.inl q);omega)];rfl
end Go.Abs
end
section
namespace Go.Abs
structure Vq where
 pms:LI
 lnt:LI
 res:Int
abbrev Rx (f:Vq):List AV:=[Z4 f.pms,Z4 f.lnt,.i f.res]
abbrev Fw (f:Vq):AV:=.agg (Rx f)
def TE (fs:List Vq):List AV:=fs.map Fw
abbrev Du (xs:List Vq):AV:=.sl (TE xs) none
abbrev H5 (xs:List Vq) (v:Value):AV:=.sl (TE xs) (some v)
theorem Ch {xs:List Vq} {j:Nat} {x:Vq} (h:xs[j]? = some x):(TE xs)[j]? = some (Fw x):=by simp [TE,h]
@[simp] theorem Eb (xs:List Vq):(TE xs).length=xs.length:=by simp [TE]
theorem Ow (xs:List Vq):∀y∈TE xs,y.leaves.length=3:=by intro y hy;simp only [TE,XF] at hy;obtain ⟨x,_,rfl⟩:=hy;rfl
theorem Z7i (xs:List Vq):(Zh (TE xs)).all AV.one=true:=Jp fun y hy=>by simp only [TE,XF] at hy;obtain ⟨x,_,rfl⟩:=hy;rfl
def W9 (r:Yh):Vq:=⟨r.params,r.lent,r.result⟩
def At (m:Nat) (f:Vq):Bool:=J9 m ⟨f.pms,f.res⟩&&JK f.pms f.lnt
def Ja (m:Nat):List Vq->Bool
 | []=>true
 | f::r=>if At m f=true then Ja m r else false
def IW:List Vq->Bool
 | []=>false
 | f::_=>decide (f.pms.length=0)&&decide (f.res=0)
def JL (ds:List Zf) (fs:List Vq):Bool:=V0 ds&&(decide (1<=fs.length/\fs.length<=4)&&(IW fs&&Ja ds.length fs))
theorem OR {fs:List Vq} {x:Vq} (h:fs[0]? = some x):IW fs=(decide (x.pms.length=0)&&decide (x.res=0)):=by
 cases fs with
 | nil=>simp at h
 | cons f r=>simp at h;subst h;rfl
theorem Z0n (m:Nat):∀rs:List Yh,Ja m (rs.map W9)=(Jz m (rs.map Uf)&&QX rs)
 | []=>rfl
 | r::rs=>by
  simp only [VQ,Ja,Jz,QX,At,Z0n m rs]
  simp only [W9,Uf]
  by_cases h1:J9 m { params:=r.params,result:=r.result }=true<;>by_cases h2:JK r.params r.lent=true<;>simp [h1,h2]
theorem RW (n:Zl):VA n=(decide (n.routines.length<=4)&&JL n.decls (n.routines.map W9)):=by
 have hf:IW (n.routines.map W9)=Gc (n.routines.map Uf):=by
  cases n.routines with
  | nil=>rfl
  | cons r rs=>rfl
 rw [VA,JL,Kf,Z0n,hf]
 simp only [Q2]
 cases decide (n.routines.length<=4)<;>cases V0 n.decls<;>cases decide (1<=n.routines.length/\n.routines.length<=4)<;>cases Jz n.decls.length (n.routines.map Uf) <;>
  cases Gc (n.routines.map Uf)<;>cases QX n.routines<;>rfl
theorem Hl {rs:List Yh} {j:Nat} {x:Vq} (h:(rs.map W9)[j]? = some x):∃r,rs[j]? = some r/\x=W9 r:=by
 rw [Tt] at h
 cases hr:rs[j]? with
 | none=>rw [hr] at h;cases h
 | some r=>rw [hr] at h;cases h;exact ⟨r,rfl,rfl⟩
theorem RE {ps ls:LI} {j:Nat} {v:Int} {r:Bool} (h:ls[j]? = some v) (hg:(0<=v/\v<=(ps.length:Int)-1)/\ps[v.toNat]?≠some 0/\(∀p,(if j=0 then none else ls[j-1]?)=some p->p<v))
  (hr:Ka ps (ls.drop j) (if j=0 then none else ls[j-1]?)=r):Ka ps (ls.drop (j+1)) (if j+1=0 then none else ls[j+1-1]?)=r:=by
 rw [Y6 h,LL hg] at hr
 rw [Z5 om,show j+1-1=j from rfl,h];exact hr
theorem LM {ps ls:LI} {j:Nat} {v:Int} {r:Bool} (h:ls[j]? = some v) (hg:¬((0<=v/\v<=(ps.length:Int)-1)/\ps[v.toNat]?≠some 0/\(∀p,(if j=0 then none else ls[j-1]?)=some p->p<v)))
  (hr:Ka ps (ls.drop j) (if j=0 then none else ls[j-1]?)=r):r=false:=by
 rw [Y6 h,GY hg] at hr;exact hr.symm
theorem Hm {m:Nat} {fs:List Vq} {k:Nat} {f:Vq} {r:Bool} (h:fs[k]? = some f) (hb:At m f=false) (hr:Ja m (fs.drop k)=r):r=false:=by
 rw [Y6 h,Ja,hb,Z5 (by simp)] at hr;exact hr.symm
theorem Zgz {m:Nat} {fs:List Vq} {k:Nat} {f:Vq} {r:Bool} (h:fs[k]? = some f) (hb:At m f=true) (hr:Ja m (fs.drop k)=r):Ja m (fs.drop (k+1))=r:=by
 rw [Y6 h,Ja,Zc hb] at hr;exact hr
end Go.Abs
namespace Go.Abs
section
variable {ds:List Zf} {fs:List Vq} {x:Vq}
theorem Zkm (h:((¬(V0 ds=true))∨((fs.length:Int)<1))∨((fs.length:Int)>4)):false=JL ds fs:=by
 rw [JL]
 rcases h with (h|h)|h
 ·rw [KL.2 h];rfl
 ·rw [decide_eq_false (p:=1<=fs.length/\fs.length<=4) om];simp
 ·rw [decide_eq_false (p:=1<=fs.length/\fs.length<=4) om];simp
theorem Z2i (hx:fs[0]? = some x) (h:((x.pms.length:Int)>0)∨x.res≠0):false=JL ds fs:=by
 rw [JL,OR hx]
 rcases h with h|h
 ·rw [decide_eq_false (p:=x.pms.length=0) om];simp
 ·rw [decide_eq_false (p:=x.res=0) h];simp
theorem HF (h:Ja ds.length fs=false):false=JL ds fs:=by rw [JL,h];simp
theorem Zkn (h:¬(((¬(V0 ds=true))∨((fs.length:Int)<1))∨((fs.length:Int)>4))) (hx:fs[0]? = some x) (h1:¬((x.pms.length:Int)>0)) (h2:¬x.res≠0) (h3:Ja ds.length fs=true) :
  true=JL ds fs:=by
 have hv:V0 ds=true:=Wf.1 fun q=>h (.inl (.inl q))
 have ha:¬(fs.length:Int)<1:=fun q=>h (.inl (.inr q))
 have hb:¬(fs.length:Int)>4:=fun q=>h (.inr q)
 rw [JL,OR hx,hv,h3,decide_eq_true (p:=1<=fs.length/\fs.length<=4) om,decide_eq_true (p:=x.pms.length=0) om,decide_eq_true (p:=x.res=0) (Wf.1 h2)];rfl
abbrev Z0k (m:Nat) (x:Vq):Prop:=(((x.pms.length:Int)>3)∨(¬(Wp m x.pms=true)))∨(¬(0<=x.res/\x.res<=m))
theorem Zgd {m:Nat} (h:Z0k m x):At m x=false:=by
 rw [At,J9]
 rcases h with (h|h)|h
 ·rw [decide_eq_false (p:=x.pms.length<=3) om];simp
 ·rw [KL.2 h];simp
 ·rw [decide_eq_false h];simp
theorem Ms {m:Nat} (h:JK x.pms x.lnt=false):At m x=false:=by rw [At,h,Bool.and_false]
theorem Zge {m:Nat} (h:¬Z0k m x) (hl:JK x.pms x.lnt=true):At m x=true:=by
 have h1:¬(x.pms.length:Int)>3:=fun q=>h (.inl (.inl q))
 rw [At,J9,hl,decide_eq_true (p:=x.pms.length<=3) om,Wf.1 fun q=>h (.inl (.inr q)),decide_eq_true (Wf.1 fun q=>h (.inr q))];rfl
end
end Go.Abs
namespace Go.Abs
abbrev YN (n:Zl):AV:=Du (n.routines.map W9)
end Go.Abs
end
section
namespace Go.Abs
def Wq (us:LI):LI->Option LI
 | []=>some []
 | a::r=>match Xb us a with
  | none=>none
  | some t=>match Wq us r with
   | none=>none
   | some ts=>some (t::ts)
theorem MQ {us:LI}:∀{args ts:LI},Wq us args=some ts->∀tys,Wc us args tys=true↔ts=tys
 | [],ts,h,tys=>by
  rw [Wq] at h;cases h
  cases tys with
  | nil=>simp [Wc,Tp]
  | cons t r=>simp [Wc,Tp]
 | a::r,ts,h,tys=>by
  rw [Wq] at h
  cases ha:Xb us a with
  | none=>rw [ha] at h;cases h
  | some t=>
   rw [ha] at h
   cases hr:Wq us r with
   | none=>rw [hr] at h;cases h
   | some tr=>
    rw [hr] at h;cases h
    cases tys with
    | nil=>simp [Wc,Tp]
    | cons t2 r2=>
     rw [Wc,Tp,ha]
     have:=MQ hr r2
     rw [Wc] at this
     by_cases he:t=t2
     ·subst he;simp [this]
     ·rw [Z5 (fun q=>he (UT q))];simp [he]
theorem Nn {us:LI}:∀{args ts:LI},Wq us args=some ts->ts.length=args.length
 | [],ts,h=>by rw [Wq] at h;cases h;rfl
 | a::r,ts,h=>by
  rw [Wq] at h
  cases ha:Xb us a with
  | none=>rw [ha] at h;cases h
  | some t=>
   rw [ha] at h
   cases hr:Wq us r with
   | none=>rw [hr] at h;cases h
   | some tr=>rw [hr] at h;cases h;simp [Nn hr]
theorem Np {us:LI} {b t:Int}:∀{xs ts:LI},Wq us xs=some ts->Xb us b=some t->Wq us (xs++[b])=some (ts++[t])
 | [],ts,h,hb=>by rw [Wq] at h;cases h;simp [Wq,hb]
 | a::r,ts,h,hb=>by
  rw [Wq] at h
  cases ha:Xb us a with
  | none=>rw [ha] at h;cases h
  | some u=>
   rw [ha] at h
   cases hr:Wq us r with
   | none=>rw [hr] at h;cases h
   | some tr=>
    rw [hr] at h;cases h
    rw [Q0,Wq,ha,Np hr hb];rfl
def DW (n:Zl) (num:Int):LI->Option Int
 | [a,b]=>if XV n.decls a=true/\b=(VX n.decls a).frm/\num=0 then some (VX n.decls a).to_ else none
 | _=>none
def XQ (n:Zl) (op num:Int) (ts:LI):Option Int:=
 if op=0 then (if (-999<=num/\num<=999)/\ts.length=0 then some 0 else none)
 else if op=1∨op=2∨op=3∨op=4 then (if num=0/\ts=[0,0] then some 0 else none)
 else if op=5 then (if num=0/\ts=[0] then some 0 else none)
 else if op=11 then DW n num ts
 else if op=6 then (if 0<=Wk n.decls num/\ts=ZX n.decls num then some (Wk n.decls num) else none)
 else if op=9 then (match Xb n.routines num with
  | none=>none
  | some r=>if ts=r.params then some r.result else none)
 else if op=10 then (match Xb n.routines num with
  | none=>none
  | some r=>if r.params.length≠0/\0<=Jl n.decls r.params r.result/\ts=r.params.take (r.params.length-1) then some (Jl n.decls r.params r.result) else none)
 else none
theorem Fz {n:Zl} {num:Int} {ts:LI} (h:ts.length≠2):DW n num ts=none:=by
 match ts,h with
 | [],_=>rfl
 | [_],_=>rfl
 | [_,_],h=>simp at h
 | _::_::_::_,_=>rfl
structure KO (n:Zl):Prop where
 result:∀r∈n.routines,0<=r.result
 params:∀r∈n.routines,∀p∈r.params,0<=p
 decl:∀d∈n.decls,d.cons.length=0->0<=d.frm/\0<=d.to_
 fields:∀c,∀f∈ZX n.decls c,0<=f
abbrev PU (us:LI) (s:Z6):Prop:=s.into≠0/\(((s.op≠6∨s.into<1)∨s.into>us.length)∨gI us (s.into-1)=0)
theorem Zcf {us:LI} {op into:Int} (hnn:∀t∈us,0<=t) (h:¬(into≠0/\(((op≠6∨into<1)∨into>us.length)∨gI us (into-1)=0))):Ua us op into=true:=by
 rw [Ua]
 split
 ·rfl
 ·rename_i h0
  have h1:¬(((op≠6∨into<1)∨into>us.length)∨gI us (into-1)=0):=fun q=>h ⟨h0,q⟩
  have h2:op=6:=Wf.1 fun q=>h1 (.inl (.inl (.inl q)))
  have h3:¬into<1:=fun q=>h1 (.inl (.inl (.inr q)))
  have h4:¬into>us.length:=fun q=>h1 (.inl (.inr q))
  have h5:¬gI us (into-1)=0:=fun q=>h1 (.inr q)
  obtain ⟨t,ht⟩:=QN (xs:=us) (j:=(into-1).toNat) om
  rw [Zc h2,Q3 om ht]
  rw [VM ht] at h5
  have:=hnn t (Y3 ht)
  simp;omega
theorem Zce {us:LI} {op into:Int} (h:into≠0/\(((op≠6∨into<1)∨into>us.length)∨gI us (into-1)=0)):Ua us op into=false:=by
 obtain ⟨h0,h⟩:=h
 rw [Ua,Z5 h0]
 split
 ·rename_i h6
  cases ha:Xb us (into-1) with
  | none=>rfl
  | some t=>
   obtain ⟨a1,a2⟩:=KU ha
   rcases h with ((h|h)|h)|h
   ·exact absurd h6 h
   ·omega
   ·omega
   ·rw [VM a2] at h;subst h;rfl
 ·rfl
theorem Zjn {n:Zl} {us:LI} {s:Z6} (h:PU us s):ZZ n us s=-1:=by
 rw [A0,Zc (.inr (.inl (by rw [Zce h];simp)))]
end Go.Abs
namespace Go.Abs
theorem Zcg {α:Type} {c:Prop} [Decidable c] {v:α}:(if c then some v else none).isSome=decide c:=by split<;>simp_all
theorem Zh0 {n:Zl} (hty:KO n) {op num:Int} {ts:LI} {x:Int} (h:XQ n op num ts=some x):0<=x:=by
 unfold XQ at h
 split at h
 ·split at h<;>cases h;exact Int.le_refl 0
 split at h
 ·split at h<;>cases h;exact Int.le_refl 0
 split at h
 ·split at h<;>cases h;exact Int.le_refl 0
 split at h
 ·rcases ts with _|⟨a,_|⟨b,_|⟨c,r⟩⟩⟩
  ·cases h
  ·cases h
  ·rw [DW] at h
   split at h
   ·rename_i hq
    cases h
    rw [VX,Zc hq.1]
    have hA:=hq.1
    simp only [XV,Wa,decide_eq_true_eq] at hA
    cases hd:n.decls[(a-1).toNat]? with
    | none=>rw [hd] at hA;simp at hA
    | some d=>
     rw [hd] at hA
     exact (hty.decl d (Y3 hd) (by simpa using hA.2)).2
   ·cases h
  ·cases h
 split at h
 ·split at h
  ·rename_i hq;cases h;exact hq.1
  ·cases h
 split at h
 ·cases ha:Xb n.routines num with
  | none=>rw [ha] at h;cases h
  | some r=>
   rw [ha] at h
   simp only at h
   split at h
   ·cases h;exact hty.result r (Y3 (KU ha).2)
   ·cases h
 split at h
 ·cases ha:Xb n.routines num with
  | none=>rw [ha] at h;cases h
  | some r=>
   rw [ha] at h
   simp only at h
   split at h
   ·rename_i hq;cases h;exact hq.2.1
   ·cases h
 ·cases h
def JF (n:Zl) (us:LI) (s:Z6) (ts:LI):Int:=
 if YF s.op=true then (match ts with
  | [t]=>if t≠0/\s.num=0/\s.kids.length=0/\¬((s.op=16∨s.op=17)/\XV n.decls t=true) then 0 else -1
  | _=>-1)
 else if s.op=7 then (if ts=[0]/\s.num=0 then TV n us s.op s.num s.kids else -1)
 else if s.op=8 then (if ts=[s.num] then TV n us s.op s.num s.kids else -1)
 else if 0<s.kids.length∨(s.op=10/\0<(((Xb n.routines s.num).map (·.lent)).getD []).length) then -1
 else (XQ n s.op s.num ts).getD (-1)
theorem PX {p q:Prop} [Decidable p] [Decidable q] {a b:Int} (h:p↔q):ite p a b=ite q a b:=by
 by_cases hp:p
 ·rw [Zc hp,Zc (h.1 hp)]
 ·rw [Z5 hp,Z5 (fun z=>hp (h.2 z))]
theorem BP {n:Zl} {us:LI} {s:Z6} {ts:LI} (hnn:∀t∈us,0<=t) (hts:Wq us s.args=some ts) (hi:¬PU us s):ZZ n us s=JF n us s ts:=by
 have hv:=Zcf hnn hi
 have ht:=MQ hts
 have hl:=Nn hts
 have hfirst:((s.num≠0/\¬VE s.op=true)∨¬Ua us s.op s.into=true∨(0<s.kids.length/\s.op≠7/\s.op≠8))↔((s.num≠0/\¬VE s.op=true)∨(0<s.kids.length/\s.op≠7/\s.op≠8)):=by
  rw [hv];simp
 rw [A0,PX hfirst]
 unfold JF
 by_cases hc:YF s.op=true
 ·have hop:14<=s.op/\s.op<=17:=by simpa [YF] using hc
  have hnum:VE s.op=false:=by simp [VE];omega
  rw [Zc hc]
  by_cases hb:s.num≠0∨0<s.kids.length
  ·rw [Zc (by rcases hb with hb|hb;exact .inl ⟨hb,by rw [hnum];simp⟩;exact .inr ⟨hb,by omega,by omega⟩)]
   split
   ·rw [Z5];rintro ⟨h1,h2,h3,h4⟩;omega
   ·rfl
  ·rw [Z5 (by rintro (⟨h1,_⟩|⟨h1,_⟩)<;>exact hb (by first|exact .inl h1|exact .inr h1)),Z5 om,Z5 om,Z5 om,Z5 om,Z5 om,Z5 om,Z5 om,Z5 om,Zc om]
   have Zb:s.num=0:=Wf.1 fun q=>hb (.inl q)
   have ZA:s.kids.length=0:=by have:¬0<s.kids.length:=fun q=>hb (.inr q);omega
   rcases he:s.args with _|⟨a,_|⟨b,r⟩⟩
   ·rw [he] at hts;rw [Wq] at hts;cases hts;rfl
   ·rw [he] at hts
    rw [Wq] at hts
    cases ha:Xb us a with
    | none=>rw [ha] at hts;cases hts
    | some t=>
     rw [ha,Wq] at hts;cases hts
     rw [Qn,ha]
     simp only
     by_cases ht0:t=0
     ·rw [Zc ht0,Z5 (fun q=>q.1 ht0)]
     ·rw [Z5 ht0]
      by_cases hA:XV n.decls t=true
      ·by_cases h16:s.op=16∨s.op=17
       ·rw [Zc ⟨by omega,hA⟩,Z5 (fun q=>q.2.2.2 ⟨h16,hA⟩)]
       ·rw [Z5 (by rintro ⟨q,_⟩;omega),Zc ⟨ht0,Zb,ZA,fun q=>h16 q.1⟩]
      ·rw [Z5 (fun q=>hA q.2),Zc ⟨ht0,Zb,ZA,fun q=>hA q.2⟩]
   ·rw [he] at hl
    rw [show Qn n.decls us s.op (a::b::r)=-1 from rfl]
    match ts,hl with
    | [t],hl=>simp at hl
    | [],hl=>simp at hl
    | _::_::_,_=>rfl
 have hop:¬(14<=s.op/\s.op<=17):=by simpa [YF] using hc
 by_cases h7:s.op=7
 ·have hnum:VE s.op=false:=by simp [VE];omega
  conv=>rhs;rw [Z5 hc,Zc h7]
  by_cases hb:s.num=0
  ·rw [Z5 (fun q=>q.elim (fun z=>z.1 hb) fun z=>z.2.1 h7),Z5 om,Z5 om,Z5 om,Z5 om,Zc h7]
   by_cases hq:ts=[0]
   ·rw [Zc ((ht _).2 hq),Zc ⟨hq,hb⟩]
   ·rw [Z5 (fun q=>hq ((ht _).1 q)),Z5 (fun q=>hq q.1)]
  ·rw [Zc (.inl ⟨hb,by rw [hnum];simp⟩),Z5 (fun q=>hb q.2)]
 by_cases h8:s.op=8
 ·have hnum:VE s.op=true:=by simp [VE,h8]
  conv=>rhs;rw [Z5 hc,Z5 h7,Zc h8]
  rw [Z5 (fun q=>q.elim (fun z=>z.2 hnum) fun z=>z.2.2 h8),Z5 om,Z5 om,Z5 om,Z5 om,Z5 h7,Zc h8]
  by_cases hq:ts=[s.num]
  ·rw [Zc ((ht _).2 hq),Zc hq]
  ·rw [Z5 (fun q=>hq ((ht _).1 q)),Z5 hq]
 conv=>rhs;rw [Z5 hc,Z5 h7,Z5 h8]
 by_cases hk:0<s.kids.length
 ·rw [Zc (.inr ⟨hk,h7,h8⟩),Zc (.inl hk)]
 by_cases hlent:s.op=10/\0<(((Xb n.routines s.num).map (·.lent)).getD []).length
 ·conv=>rhs;rw [Zc (.inr hlent)]
  have hnum:VE s.op=true:=by simp [VE,hlent.1]
  have h10:=hlent.1
  rw [Z5 (fun q=>q.elim (fun z=>z.2 hnum) fun z=>hk z.1),Z5 om,Z5 om,Z5 om,Z5 om,Z5 h7,Z5 h8,Zc (.inr h10),Ux]
  cases ha:Xb n.routines s.num with
  | none=>rfl
  | some r=>
   have h2:=hlent.2
   rw [ha] at h2
   simp only [C2,Option.getD_some] at h2
   simp only
   rw [J7,Z5 om,Zc (.inr (.inl h2))]
 conv=>rhs;rw [Z5 (fun q=>Or.elim q hk hlent)]
 have sf:∀{X:Option Int},XQ n s.op s.num ts=X->ZZ n us s=X.getD (-1)->ZZ n us s=(XQ n s.op s.num ts).getD (-1):=fun a b=>by rw [a];exact b
 have hL:=A0 n us s
 rw [PX hfirst] at hL
 rw [<-hL]
 by_cases hnb:s.num≠0/\¬VE s.op=true
 ·have hnn2:¬(s.op=0∨(s.op=6∨(s.op=8∨(s.op=9∨s.op=10)))):=fun q=>hnb.2 (by simpa [VE] using q)
  refine sf (X:=none) ?_ (by rw [hL,Zc (.inl hnb)];rfl)
  unfold XQ
  rw [Z5 om]
  split
  ·rw [Z5 (fun q=>hnb.1 q.1)]
  split
  ·rw [Z5 (fun q=>hnb.1 q.1)]
  split
  ·by_cases hl2:ts.length=2
   ·match ts,hl2 with
    | [a,b],_=>exact Z5 fun q=>hnb.1 q.2.2
   ·exact Fz hl2
  rw [Z5 om,Z5 om,Z5 om]
 rw [Z5 (fun q=>q.elim hnb fun z=>hk z.1)] at hL
 have hnumf:¬(s.op=0∨(s.op=6∨(s.op=8∨(s.op=9∨s.op=10))))->s.num=0:=fun q=>Wf.1 fun z=>hnb ⟨z,fun y=>q (by simpa [VE] using y)⟩
 by_cases h0:s.op=0
 ·rw [Zc h0] at hL
  by_cases hq:s.args.length=0/\(-999<=s.num/\s.num<=999)
  ·exact sf (by unfold XQ;rw [Zc h0,Zc ⟨hq.2,by omega⟩]) (by rw [hL,Zc hq];rfl)
  ·exact sf (by unfold XQ;rw [Zc h0,Z5 (fun q=>hq ⟨by omega,q.1⟩)]) (by rw [hL,Z5 hq];rfl)
 rw [Z5 h0] at hL
 by_cases h1:s.op=1∨s.op=2∨s.op=3∨s.op=4
 ·rw [Zc h1] at hL
  by_cases hq:ts=[0,0]
  ·exact sf (by unfold XQ;rw [Z5 h0,Zc h1,Zc ⟨hnumf om,hq⟩]) (by rw [hL,Zc ((ht _).2 hq)];rfl)
  ·exact sf (by unfold XQ;rw [Z5 h0,Zc h1,Z5 (fun q=>hq q.2)]) (by rw [hL,Z5 (fun q=>hq ((ht _).1 q))];rfl)
 rw [Z5 h1] at hL
 by_cases h5:s.op=5
 ·rw [Zc h5] at hL
  by_cases hq:ts=[0]
  ·exact sf (by unfold XQ;rw [Z5 h0,Z5 h1,Zc h5,Zc ⟨hnumf om,hq⟩]) (by rw [hL,Zc ((ht _).2 hq)];rfl)
  ·exact sf (by unfold XQ;rw [Z5 h0,Z5 h1,Zc h5,Z5 (fun q=>hq q.2)]) (by rw [hL,Z5 (fun q=>hq ((ht _).1 q))];rfl)
 rw [Z5 h5] at hL
 by_cases h6:s.op=6
 ·rw [Zc h6] at hL
  have hct:0<Wk n.decls s.num↔0<=Wk n.decls s.num:=by
   rcases Int.lt_or_le (Wk n.decls s.num) 1 with q|q
   ·have:=(FK q).2;omega
   ·omega
  by_cases hq:0<=Wk n.decls s.num/\ts=ZX n.decls s.num
  ·exact sf (by unfold XQ;rw [Z5 h0,Z5 h1,Z5 h5,Z5 om,Zc h6,Zc hq]) (by rw [hL,Zc ⟨hct.2 hq.1,(ht _).2 hq.2⟩];rfl)
  ·exact sf (by unfold XQ;rw [Z5 h0,Z5 h1,Z5 h5,Z5 om,Zc h6,Z5 hq]) (by rw [hL,Z5 (fun q=>hq ⟨hct.1 q.1,(ht _).1 q.2⟩)];rfl)
 rw [Z5 h6,Z5 h7,Z5 h8] at hL
 by_cases h9:s.op=9
 ·rw [Zc (.inl h9),Ux] at hL
  cases ha:Xb n.routines s.num with
  | none=>exact sf (by unfold XQ;rw [Z5 h0,Z5 h1,Z5 h5,Z5 om,Z5 h6,Zc h9,ha]) (by rw [hL,ha];rfl)
  | some r=>
   rw [ha] at hL
   simp only at hL
   rw [J7,Zc h9] at hL
   have hF:∀{X:Option Int},(if ts=r.params then some r.result else none)=X->XQ n s.op s.num ts=X:=fun q=>by
    unfold XQ;rw [Z5 h0,Z5 h1,Z5 h5,Z5 om,Z5 h6,Zc h9,ha];exact q
   by_cases hq:ts=r.params
   ·exact sf (hF (Zc hq)) (by rw [hL,Zc ((ht _).2 hq)];rfl)
   ·exact sf (hF (Z5 hq)) (by rw [hL,Z5 (fun q=>hq ((ht _).1 q))];rfl)
 by_cases h10:s.op=10
 ·rw [Zc (.inr h10),Ux] at hL
  cases ha:Xb n.routines s.num with
  | none=>exact sf (by unfold XQ;rw [Z5 h0,Z5 h1,Z5 h5,Z5 om,Z5 h6,Z5 h9,Zc h10,ha]) (by rw [hL,ha];rfl)
  | some r=>
   rw [ha] at hL hlent
   simp only [C2,Option.getD_some] at hL hlent
   rw [J7,Z5 h9] at hL
   have hF:∀{X:Option Int},(if r.params.length≠0/\0<=Jl n.decls r.params r.result/\ts=r.params.take (r.params.length-1) then some (Jl n.decls r.params r.result) else none)=X->XQ n s.op s.num ts=X:=fun q=>by
    unfold XQ;rw [Z5 h0,Z5 h1,Z5 h5,Z5 om,Z5 h6,Z5 h9,Zc h10,ha];exact q
   by_cases hp:r.params.length=0
   ·exact sf (hF (Z5 fun q=>q.1 hp)) (by rw [hL,Zc (.inl hp)];rfl)
   by_cases hq:ts=r.params.take (r.params.length-1)
   ·rw [Z5 (fun z=>z.elim hp fun z=>z.elim (fun z=>hlent ⟨h10,z⟩) fun z=>z ((ht _).2 hq))] at hL
    by_cases har:0<=Jl n.decls r.params r.result
    ·exact sf (hF (Zc ⟨hp,har,hq⟩)) hL
    ·refine sf (hF (Z5 fun q=>har q.2.1)) ?_
     have key:∀(l:List Zf) (i:Nat) (f t:Int),¬0<=KR f t l i->KR f t l i=-1:=by
      intro l
      induction l with
      | nil=>intro i f t _;rfl
      | cons d r ih=>
       intro i f t hn
       rw [KR] at hn ⊢
       split
       ·rename_i hh;rw [Zc hh] at hn;omega
       ·rename_i hh;rw [Z5 hh] at hn;exact ih _ _ _ hn
     exact hL.trans (key _ _ _ _ har)
   ·exact sf (hF (Z5 fun q=>hq q.2.2)) (by rw [hL,Zc (.inr (.inr fun q=>hq ((ht _).1 q)))];rfl)
 rw [Z5 om] at hL
 by_cases h11:s.op=11
 ·rw [Zc h11] at hL
  have hn0:=hnumf om
  have hF:∀{X:Option Int},DW n s.num ts=X->XQ n s.op s.num ts=X:=fun q=>by
   unfold XQ;rw [Z5 h0,Z5 h1,Z5 h5,Zc h11];exact q
  rcases he:s.args with _|⟨a,_|⟨b,_|⟨c,r⟩⟩⟩
  ·rw [he] at hts hL;rw [Wq] at hts;cases hts;exact sf (hF rfl) hL
  ·rw [he] at hl hL
   exact sf (hF (Fz (by simp at hl;omega))) hL
  ·rw [he] at hts hL
   rw [Wq] at hts
   cases ha:Xb us a with
   | none=>rw [ha] at hts;cases hts
   | some t=>
    rw [ha,Wq] at hts
    cases hb:Xb us b with
    | none=>rw [hb] at hts;cases hts
    | some t2=>
     rw [hb,Wq] at hts;cases hts
     rw [Ki,ha] at hL
     simp only at hL
     by_cases hA:XV n.decls t=true
     ·rw [Zc hA] at hL
      have hA2:=hA
      simp only [XV,Wa,decide_eq_true_eq] at hA2
      cases hd:n.decls[(t-1).toNat]? with
      | none=>rw [hd] at hA2;simp at hA2
      | some d=>
       rw [hd] at hL
       simp only at hL
       have hD:VX n.decls t=d:=by rw [VX,Zc hA,hd];rfl
       have h2:=MQ (us:=us) (args:=[b]) (ts:=[t2]) (by rw [Wq,hb,Wq]) [d.frm]
       by_cases hq:t2=d.frm
       ·exact sf (hF (Zc ⟨hA,by rw [hD];exact hq,hn0⟩)) (by rw [hL,Zc (h2.2 (by rw [hq])),hD];rfl)
       ·exact sf (hF (Z5 fun q=>hq (by rw [hD] at q;exact q.2.1))) (by rw [hL,Z5 (fun q=>hq (by simpa using h2.1 q))];rfl)
     ·exact sf (hF (Z5 fun q=>hA q.1)) (by rw [hL,Z5 hA];rfl)
  ·rw [he] at hl hL
   exact sf (hF (Fz (by simp at hl;omega))) hL
 rw [Z5 h11,Z5 om] at hL
 exact sf (X:=none) (by unfold XQ;rw [Z5 h0,Z5 h1,Z5 h5,Z5 h11,Z5 h6,Z5 h9,Z5 h10]) hL
end Go.Abs
namespace Go.Abs
theorem LV:∀(n:Nat) (f:Int) (k:Nat) (x:Int),(VN f n)[k]? = some x->x=f+k/\k<n
 | 0,f,k,x,h=>by simp [VN] at h
 | n+1,f,k,x,h=>by
  rw [VN] at h
  cases k with
  | zero=>simp at h;subst h;exact ⟨by omega,by omega⟩
  | succ k=>have:=LV n (f+1) k x (by simpa using h);exact ⟨by omega,by omega⟩
theorem O2 {ds:List Zf} (hd:Wv ds) {t:Int} {k:Nat} {x:Int} (h:(ZV ds t)[k]? = some x):0<=x/\x<=100:=by
 rw [ZV] at h
 split at h
 ·rename_i ht
  obtain ⟨d,hd1⟩:=QN (xs:=ds) (j:=(t-1).toNat) om
  rw [hd1] at h
  have:=LV _ _ _ _ h
  have h3:=hd.cons_at hd1
  have h4:=(hd.take (t-1).toNat).sum
  simp only [C2,Option.getD_some] at this
  omega
 ·simp at h
end Go.Abs
namespace Go.Abs
section
variable {S:Option Int} {c:Prop} [Decidable c] {v:Int} {b:Bool}
theorem BI (h:S=if c then some v else none) (hb:b=true↔c):b=S.isSome:=by rw [h,Zcg,XK,hb,decide_eq_true_iff]
theorem BJ (h:S=if c then some v else none):∀x,S=some x->v=x:=by
 intro x hx;rw [h] at hx;split at hx
 ·exact UT hx
 ·cases hx
theorem EZ (h:S=none):false=S.isSome:=by rw [h];rfl
theorem F3 (h:S=none):∀x,S=some x->v=x:=by intro x hx;rw [h] at hx;cases hx
end
section
variable {n:Zl} {op num:Int} {ts:LI}
theorem sf0 (h:op=0):XQ n op num ts=if (-999<=num/\num<=999)/\ts.length=0 then some 0 else none:=by unfold XQ;rw [Zc h]
theorem sf1 (h:op=1∨op=2∨op=3∨op=4):XQ n op num ts=if num=0/\ts=[0,0] then some 0 else none:=by unfold XQ;rw [Z5 om,Zc h]
theorem sf5 (h:op=5):XQ n op num ts=if num=0/\ts=[0] then some 0 else none:=by unfold XQ;rw [Z5 om,Z5 om,Zc h]
theorem Z0j (h:op=11):XQ n op num ts=DW n num ts:=by unfold XQ;rw [Z5 om,Z5 om,Z5 om,Zc h]
theorem Zgw (h:op=11) (hl:(ts.length:Int)≠2):XQ n op num ts=none:=(Z0j h).trans (Fz om)
theorem Mx (h:op=11) {a b:Int} (hl:¬(ts.length:Int)≠2) (ha:ts[0]? = some a) (hb:ts[1]? = some b) :
  XQ n op num ts=if XV n.decls a=true/\b=(VX n.decls a).frm/\num=0 then some (VX n.decls a).to_ else none:=by
 rw [Z0j h]
 match ts,hl,ha,hb with
 | [x,y],_,ha,hb=>simp at ha hb;subst ha;subst hb;rfl
 | [],hl,_,_=>simp at hl
 | [_],hl,_,_=>simp at hl
 | _::_::_::_,hl,_,_=>simp at hl;omega
theorem Zgv (h:op=11) {a:Int} (hl:¬(ts.length:Int)≠2) (ha:ts[0]? = some a) (hn:¬XV n.decls a=true):XQ n op num ts=none:=by
 obtain ⟨b,hb⟩:=QN (xs:=ts) (j:=1) om
 rw [Mx h hl ha hb,Z5 fun q=>hn q.1]
theorem sf6 (h:op=6):XQ n op num ts=if 0<=Wk n.decls num/\ts=ZX n.decls num then some (Wk n.decls num) else none:=by
 unfold XQ;rw [Z5 om,Z5 om,Z5 om,Z5 om,Zc h]
theorem Zgx (h:op=9∨op=10) (hr:num<0∨num>=(((n.routines.map W9).length:Nat):Int)):XQ n op num ts=none:=by
 have ha:Xb n.routines num=none:=KS (by simp at hr;omega)
 unfold XQ
 rw [Z5 om,Z5 om,Z5 om,Z5 om,Z5 om]
 rcases h with h|h
 ·rw [Zc h,ha]
 ·rw [Z5 om,Zc h,ha]
theorem sf9 (h:op=9) {x:Vq} (hr:¬(num<0∨num>=(((n.routines.map W9).length:Nat):Int))) (hx:(n.routines.map W9)[num.toNat]? = some x) :
  XQ n op num ts=if ts=x.pms then some x.res else none:=by
 obtain ⟨r,h1,rfl⟩:=Hl hx
 have ha:Xb n.routines num=some r:=Q3 (by simp at hr;omega) h1
 unfold XQ
 rw [Z5 om,Z5 om,Z5 om,Z5 om,Z5 om,Zc h,ha];rfl
theorem Zgu (h:op=10) {x:Vq} (hr:¬(num<0∨num>=(((n.routines.map W9).length:Nat):Int))) (hx:(n.routines.map W9)[num.toNat]? = some x) (hp:(x.pms.length:Int)-1<0) :
  XQ n op num ts=none:=by
 obtain ⟨r,h1,rfl⟩:=Hl hx
 have ha:Xb n.routines num=some r:=Q3 (by simp at hr;omega) h1
 have hp':r.params.length=0:=by simp only [W9] at hp;omega
 unfold XQ
 rw [Z5 om,Z5 om,Z5 om,Z5 om,Z5 om,Z5 om,Zc h,ha]
 exact Z5 fun q=>q.1 hp'
theorem Zgt (h:op=10) {x:Vq} {l:Int} (hr:¬(num<0∨num>=(((n.routines.map W9).length:Nat):Int))) (hx:(n.routines.map W9)[num.toNat]? = some x) (hp:¬(x.pms.length:Int)-1<0)
  (hl:x.pms[((x.pms.length:Int)-1).toNat]? = some l) :
  XQ n op num ts=if 0<=Uz n.decls l x.res/\ts=x.pms.take ((x.pms.length:Int)-1).toNat then some (Uz n.decls l x.res) else none:=by
 obtain ⟨r,h1,rfl⟩:=Hl hx
 have ha:Xb n.routines num=some r:=Q3 (by simp at hr;omega) h1
 simp only [W9] at hp hl ⊢
 have hq:((r.params.length:Int)-1).toNat=r.params.length-1:=by omega
 have ht:r.params.take ((r.params.length:Int)-1).toNat=r.params.take (r.params.length-1):=Yv (fun k=>r.params.take k) hq
 have hl':r.params[r.params.length-1]? = some l:=by rw [<-hl];exact Yv (fun k=>r.params[k]?) hq.symm
 have hlast:Jl n.decls r.params r.result=Uz n.decls l r.result:=by rw [Jl,Pq hl']
 unfold XQ
 rw [Z5 om,Z5 om,Z5 om,Z5 om,Z5 om,Z5 om,Zc h,ha]
 simp only [hlast]
 by_cases hc:0<=Uz n.decls l r.result/\ts=r.params.take (r.params.length-1)
 ·rw [Zc ⟨by omega,hc⟩]
  exact (Zc ⟨hc.1,hc.2.trans ht.symm⟩).symm
 ·rw [Z5 fun q=>hc q.2]
  exact (Z5 (fun q=>hc ⟨q.1,q.2.trans ht⟩)).symm
theorem sfd (h0:¬op=0) (h1:¬(op=1∨op=2∨op=3∨op=4)) (h5:¬op=5) (h11:¬op=11) (h6:¬op=6) (h9:¬(op=9∨op=10)):XQ n op num ts=none:=by
 unfold XQ;rw [Z5 h0,Z5 h1,Z5 h5,Z5 h11,Z5 h6,Z5 om,Z5 om]
end
end Go.Abs
end
namespace Go.Abs
mutual
def Z6.rng:Z6->Prop
 | .mk _ num _ _ kids=>(-9223372036854775808<=num/\num<=9223372036854775807)/\Kj kids
def Z7.rng:Z7->Prop
 | .mk steps _=>TO steps
def TO:List Z6->Prop
 | []=>True
 | s::r=>s.rng/\TO r
def Kj:List Z7->Prop
 | []=>True
 | b::r=>b.rng/\Kj r
end
theorem Z6.rng_eq (s:Z6):s.rng=((-9223372036854775808<=s.num/\s.num<=9223372036854775807)/\Kj s.kids):=by cases s;rw [Z6.rng];rfl
theorem Z7.rng_eq (b:Z7):b.rng=TO b.steps:=by cases b;rw [Z7.rng];rfl
theorem MJ:∀{xs:List Z6} {k:Nat} {s:Z6},TO xs->xs[k]? = some s->s.rng
 | [],k,s,_,h=>by simp at h
 | x::r,0,s,hr,h=>by rw [TO] at hr;simp at h;subst h;exact hr.1
 | x::r,k+1,s,hr,h=>by rw [TO] at hr;exact MJ (k:=k) hr.2 (by simpa using h)
theorem FF:∀{xs:List Z7} {k:Nat} {b:Z7},Kj xs->xs[k]? = some b->b.rng
 | [],k,s,_,h=>by simp at h
 | x::r,0,s,hr,h=>by rw [Kj] at hr;simp at h;subst h;exact hr.1
 | x::r,k+1,s,hr,h=>by rw [Kj] at hr;exact FF (k:=k) hr.2 (by simpa using h)
theorem MS {us:LI}:∀{args:LI},Wq us args=none->∀tys,Wc us args tys=false
 | [],h,tys=>by rw [Wq] at h;cases h
 | a::r,h,tys=>by
  cases tys with
  | nil=>simp [Wc,Tp]
  | cons t ts=>
   rw [Wq] at h
   rw [Wc,Tp]
   cases ha:Xb us a with
   | none=>simp
   | some u=>
    rw [ha] at h
    cases hr:Wq us r with
    | none=>
     have:=MS hr ts
     rw [Wc] at this
     by_cases he:u=t
     ·subst he;simpa using this
     ·rw [Z5 (fun q=>he (UT q))]
    | some tr=>rw [hr] at h;cases h
theorem Zjm {n:Zl} {us:LI} {s:Z6} (h:Wq us s.args=none):ZZ n us s=-1:=by
 have ht:=MS h
 rw [A0]
 split
 ·rfl
 split
 ·rw [Z5];rintro ⟨q,_⟩
  have:s.args=[]:=List.length_eq_zero_iff.1 q
  rw [this,Wq] at h;cases h
 split
 ·rw [Z5 (by rw [ht];simp)]
 split
 ·rw [Z5 (by rw [ht];simp)]
 split
 ·rw [Z5 (by rw [ht];simp)]
 split
 ·rw [Z5 (by rw [ht];simp)]
 split
 ·rw [Z5 (by rw [ht];simp)]
 split
 ·rw [Ux]
  cases Xb n.routines s.num with
  | none=>rfl
  | some r=>
   simp only
   rw [J7]
   split
   ·rw [Z5 (by rw [ht];simp)]
   ·rw [Zc (.inr (.inr (by rw [ht];simp)))]
 split
 ·match hA:s.args with
  | []=>rfl
  | [_]=>rfl
  | [a,b]=>
   rw [Ki]
   rw [hA,Wq] at h
   cases ha:Xb us a with
   | none=>rfl
   | some t=>
    rw [ha] at h
    simp only at h ⊢
    split
    ·cases n.decls[(t-1).toNat]? with
     | none=>rfl
     | some d=>
      simp only
      rw [Z5]
      cases hb:Wq us [b] with
      | none=>rw [MS hb];simp
      | some tr=>rw [hb] at h;cases h
    ·rfl
  | _::_::_::_=>rfl
 split
 ·match hA:s.args with
  | []=>rfl
  | [a]=>
   rw [Qn]
   rw [hA,Wq] at h
   cases ha:Xb us a with
   | none=>rfl
   | some t=>rw [ha,Wq] at h;cases h
  | _::_::_=>rfl
 ·rfl
theorem Nm {us:LI} {a:Int}:∀{xs:LI} {k:Nat},xs[k]? = some a->Xb us a=none->Wq us xs=none
 | [],k,h,_=>by simp at h
 | x::r,0,h,ha=>by simp at h;subst h;rw [Wq,ha]
 | x::r,k+1,h,ha=>by
  have:=Nm (xs:=r) (k:=k) (by simpa using h) ha
  rw [Wq]
  cases Xb us x with
  | none=>rfl
  | some t=>simp only [this]
theorem Zcw {n:Zl} {us:LI} {ks:List Z7} {ms:List LI} (h:0<ks.length) (t:Int) :
  W2 n us (ks.drop 0) (ms.drop 0) (decide (0=0)) t=W2 n us ks ms true 0:=by
 cases ks with
 | nil=>simp at h
 | cons b bs=>
  cases ms with
  | nil=>rw [KM,KM,W2,W2]
  | cons m r=>
   simp only [KM,decide_true]
   rw [W2,W2];simp
theorem NM {b:Z7}:∀{ks:List Z7} {k:Nat},ks[k]? = some b->b.sz<=Xl ks
 | [],k,h=>by simp at h
 | x::r,0,h=>by simp at h;subst h;rw [Xl];omega
 | x::r,k+1,h=>by have:=NM (ks:=r) (k:=k) (by simpa using h);rw [Xl];omega
theorem Fg (us m:LI):[us,m].flatten=us++m:=by simp
theorem P8 {xs:LI} {i:Int} (h:i.toNat<xs.length):xs[i.toNat]? = some (gI xs i):=by rw [gI,Q1 h];rfl
theorem Gh {xs:LI} (h:0<xs.length):xs[0]? = some (gI xs 0):=P8 (i:=0) h
def UH (n:Zl) (num:Int):Vq:=((n.routines.map W9)[num.toNat]?).getD ⟨[],[],0⟩
theorem Z0l {n:Zl} {i:Int} (h:i.toNat<(n.routines.map W9).length):(n.routines.map W9)[i.toNat]? = some (UH n i):=by rw [UH,Q1 h];rfl
theorem EC {us m:LI} (h1:∀t∈us,0<=t) (h2:∀t∈m,0<=t):∀t∈us++m,0<=t:=fun t h=>(Xj.1 h).elim (h1 t) (h2 t)
theorem Bo {us:LI} {args ts:LI} {k:Nat} (h:Wq us (args.take k)=some ts) (hk:args.length<=k):Wq us args=some ts:=by
 rw [Vw hk] at h;exact h
theorem Z3y {us:LI} {args ts:LI} {k:Nat} {a t:Int} (h:Wq us (args.take k)=some ts) (ha:args[k]? = some a) (ht:Xb us a=some t):Wq us (args.take (k+1))=some (ts++[t]):=by
 rw [V6 ha];exact Np h ht
theorem S8 {ts:LI} (h:(ts.length:Int)=1):ts=[gI ts 0]:=by
 match ts,h with
 | [a],_=>rfl
section
variable {n:Zl} {us ts:LI} {s:Z6}
theorem AX {p1 p2 p3 p4 p5:Prop}:(p1/\(p2∨(p3∨(p4∨p5))))↔(p1/\(((p2∨p3)∨p4)∨p5)):=by simp only [or_assoc]
def FJ (n:Zl) (s:Z6) (ts:LI):Int:=match ts with
  | [t]=>if t≠0/\s.num=0/\s.kids.length=0/\¬((s.op=16∨s.op=17)/\XV n.decls t=true) then 0 else -1
  | _=>-1
theorem BO:JF n us s ts =
 if YF s.op=true then FJ n s ts
 else if s.op=7 then (if ts=[0]/\s.num=0 then TV n us s.op s.num s.kids else -1)
 else if s.op=8 then (if ts=[s.num] then TV n us s.op s.num s.kids else -1)
 else if 0<s.kids.length∨(s.op=10/\0<(((Xb n.routines s.num).map (·.lent)).getD []).length) then -1
 else (XQ n s.op s.num ts).getD (-1):=by unfold JF FJ;rfl
theorem NX (h:(ts.length:Int)=1):FJ n s ts=if gI ts 0≠0/\s.num=0/\s.kids.length=0/\¬((s.op=16∨s.op=17)/\XV n.decls (gI ts 0)=true) then 0 else -1:=by
 match ts,h with
 | [a],_=>rfl
theorem Z5j (h:(ts.length:Int)≠1):FJ n s ts=-1:=by
 match ts,h with
 | [],_=>rfl
 | [a],h=>exact absurd rfl h
 | _::_::_,_=>rfl
theorem Ziw (hS:ZZ n us s=JF n us s ts) (hc:YF s.op=true)
  (h:((((ts.length:Int)=1/\gI ts 0≠0)/\s.num=0)/\(s.kids.length:Int)=0)/\(s.op=16∨s.op=17)) :
  (!XV n.decls (gI ts 0))=decide (0<=ZZ n us s):=by
 obtain ⟨⟨⟨⟨h1,h2⟩,h3⟩,h4⟩,h5⟩:=h
 have h4':s.kids.length=0:=by omega
 rw [hS,BO,Zc hc,NX h1]
 cases hA:XV n.decls (gI ts 0)
 ·rw [Zc ⟨h2,h3,h4',by simp⟩];rfl
 ·rw [Z5 (fun q=>q.2.2.2 ⟨h5,rfl⟩)];rfl
theorem Zix (hS:ZZ n us s=JF n us s ts) (hc:YF s.op=true)
  (h:¬(((((ts.length:Int)=1/\gI ts 0≠0)/\s.num=0)/\(s.kids.length:Int)=0)/\(s.op=16∨s.op=17))) :
  ((((((ts.length:Int)==1)&&(gI ts 0 != 0))&&(s.num==0))&&((s.kids.length:Int)==0)))=decide (0<=ZZ n us s):=by
 rw [hS,BO,Zc hc]
 by_cases h1:(ts.length:Int)=1
 ·rw [NX h1]
  by_cases h2:(gI ts 0≠0/\s.num=0)/\(s.kids.length:Int)=0
  ·obtain ⟨⟨h2,h3⟩,h4⟩:=h2
   have h4':s.kids.length=0:=by omega
   rw [Zc ⟨h2,h3,h4',fun q=>h ⟨⟨⟨⟨h1,h2⟩,h3⟩,h4⟩,q.1⟩⟩,Zq.2 h1,Y4.2 h2,Zq.2 h3,Zq.2 h4];rfl
  ·rw [Z5 (fun q=>h2 ⟨⟨q.1,q.2.1⟩,by have:=q.2.2.1;omega⟩)]
   show _=false
   rw [KL];intro q
   obtain ⟨⟨⟨_,q1⟩,q2⟩,q3⟩:=(YJ (YJ (YJ Zq Y4) Zq) Zq).1 q
   exact h2 ⟨⟨q1,q2⟩,q3⟩
 ·rw [Z5j h1]
  show _=false
  rw [KL];intro q
  obtain ⟨⟨⟨q1,_⟩,_⟩,_⟩:=(YJ (YJ (YJ Zq Y4) Zq) Zq).1 q
  exact h1 q1
theorem Zis (hS:ZZ n us s=JF n us s ts) (hc:¬YF s.op=true) (h7:s.op=7)
  (h:(((ts.length:Int)≠1∨gI ts 0≠0)∨s.num≠0)∨(s.kids.length:Int)≠2):ZZ n us s=-1:=by
 rw [hS,BO,Z5 hc,Zc h7]
 split
 ·rename_i q
  obtain ⟨q1,q2⟩:=q
  rw [q1] at h
  rw [TV,Zc]
  right
  rw [X7,Zc h7]
  have:gI [0] 0=0:=rfl
  simp [this] at h
  show s.kids.length≠2
  omega
 ·rfl
theorem Zit (hS:ZZ n us s=JF n us s ts) (hc:¬YF s.op=true) (h7:s.op=7)
  (h:¬((((ts.length:Int)≠1∨gI ts 0≠0)∨s.num≠0)∨(s.kids.length:Int)≠2)):ZZ n us s=W2 n us s.kids (List.replicate 2 []) true 0:=by
 have h1:(ts.length:Int)=1:=Wf.1 fun q=>h (.inl (.inl (.inl q)))
 have h2:gI ts 0=0:=Wf.1 fun q=>h (.inl (.inl (.inr q)))
 have h3:s.num=0:=Wf.1 fun q=>h (.inl (.inr q))
 have h4:(s.kids.length:Int)=2:=Wf.1 fun q=>h (.inr q)
 rw [hS,BO,Z5 hc,Zc h7,Zc ⟨by rw [S8 h1,h2],h3⟩,TV,Z5]
 ·rw [X7,Zc h7];rfl
 ·rw [X7,Zc h7];simp;omega
theorem Ziu (hS:ZZ n us s=JF n us s ts) (hc:¬YF s.op=true) (h7:¬s.op=7) (h8:s.op=8)
  (h:(ts.length:Int)≠1∨(gI ts 0≠s.num∨(((((ZV n.decls s.num).map (ZX n.decls)).length:Nat):Int)=0∨(s.kids.length:Int)≠((((ZV n.decls s.num).map (ZX n.decls)).length:Nat):Int)))):ZZ n us s=-1:=by
 rw [hS,BO,Z5 hc,Z5 h7,Zc h8]
 split
 ·rename_i q
  have hg:gI ts 0=s.num:=by rw [q];rfl
  have hl:(ts.length:Int)=1:=by rw [q];rfl
  rw [TV,Zc]
  rw [X7,Z5 h7]
  omega
 ·rfl
theorem Ziv (hS:ZZ n us s=JF n us s ts) (hc:¬YF s.op=true) (h7:¬s.op=7) (h8:s.op=8)
  (h:¬((ts.length:Int)≠1∨(gI ts 0≠s.num∨(((((ZV n.decls s.num).map (ZX n.decls)).length:Nat):Int)=0∨(s.kids.length:Int)≠((((ZV n.decls s.num).map (ZX n.decls)).length:Nat):Int))))) :
  ZZ n us s=W2 n us s.kids ((ZV n.decls s.num).map (ZX n.decls)) true 0:=by
 have h1:(ts.length:Int)=1:=Wf.1 fun q=>h (.inl q)
 have h2:gI ts 0=s.num:=Wf.1 fun q=>h (.inr (.inl q))
 rw [hS,BO,Z5 hc,Z5 h7,Zc h8,Zc (by rw [S8 h1,h2]),TV,Z5]
 ·rw [X7,Z5 h7]
 ·rw [X7,Z5 h7];omega
theorem Zdl {n:Zl} {num:Int}:(((Xb n.routines num).map (·.lent)).getD []).length=if 0<=num/\num<(((n.routines.map W9).length:Nat):Int) then (UH n num).lnt.length else 0:=by
 split
 ·rename_i h
  rw [Q2] at h
  obtain ⟨r,hr⟩:=QN (xs:=n.routines) (j:=num.toNat) om
  rw [Q3 om hr,UH,Tt,hr];rfl
 ·rename_i h
  rw [Q2] at h
  rw [KS om];rfl
theorem Z1p:(0<s.kids.length∨(s.op=10/\0<(((Xb n.routines s.num).map (·.lent)).getD []).length)) ↔
  ((s.kids.length:Int)>0∨(s.op=10/\(s.num>=0/\(s.num<(((n.routines.map W9).length:Nat):Int)/\((((UH n s.num).lnt).length:Nat):Int)>0)))):=by
 rw [Zdl]
 by_cases hq:0<=s.num/\s.num<(((n.routines.map W9).length:Nat):Int)
 ·rw [Zc hq];omega
 ·rw [Z5 hq];omega
theorem stB (hS:ZZ n us s=JF n us s ts) (hc:¬YF s.op=true) (h7:¬s.op=7) (h8:¬s.op=8)
  (h:((s.kids.length:Int)>0∨(s.op=10/\(s.num>=0/\(s.num<(((n.routines.map W9).length:Nat):Int)/\((((UH n s.num).lnt).length:Nat):Int)>0))))):ZZ n us s=-1:=by
 rw [hS,BO,Z5 hc,Z5 h7,Z5 h8,Zc (Z1p.2 h)]
theorem stS (hS:ZZ n us s=JF n us s ts) (hc:¬YF s.op=true) (h7:¬s.op=7) (h8:¬s.op=8)
  (h:¬((s.kids.length:Int)>0∨(s.op=10/\(s.num>=0/\(s.num<(((n.routines.map W9).length:Nat):Int)/\((((UH n s.num).lnt).length:Nat):Int)>0))))):ZZ n us s=(XQ n s.op s.num ts).getD (-1):=by
 rw [hS,BO,Z5 hc,Z5 h7,Z5 h8,Z5 (fun q=>h (Z1p.1 q))]
theorem Ziy (hty:KO n) (h:ZZ n us s=(XQ n s.op s.num ts).getD (-1)):(XQ n s.op s.num ts).isSome=decide (0<=ZZ n us s):=by
 rw [h]
 cases hs:XQ n s.op s.num ts with
 | none=>rfl
 | some x=>have:=Zh0 hty hs;simp [this]
theorem Ziz {t:Int} (h:ZZ n us s=(XQ n s.op s.num ts).getD (-1)) (hp:∀x,XQ n s.op s.num ts=some x->t=x):¬YF s.op=true->0<=ZZ n us s->t=ZZ n us s:=by
 intro _ h0
 rw [h] at h0 ⊢
 cases hs:XQ n s.op s.num ts with
 | none=>rw [hs] at h0;exact absurd h0 (by decide)
 | some x=>exact hp x hs
end
theorem Zjk {n:Zl} {us:LI} {s:Z6} (h:0<=ZZ n us s):(0<=s.op/\s.op<=11)∨(14<=s.op/\s.op<=17):=by
 rw [A0] at h
 by_cases hq:(0<=s.op/\s.op<=11)∨(14<=s.op/\s.op<=17)
 ·exact hq
 ·exfalso
  split at h
  ·omega
  rw [Z5 om,Z5 om,Z5 om,Z5 om,Z5 om,Z5 om,Z5 om,Z5 om,Z5 om] at h
  omega
theorem E7 {n:Zl} {us:LI} {s:Z6} (h:0<=ZZ n us s):W5 s.op=!YF s.op:=by
 have:=Zjk h
 rw [W5,YF,XK];simp;omega
theorem Zjp {n:Zl} {xs:List Z6} {vs:LI} {k:Nat} {s:Z6} {t:Int} {r:Option LI} (hs:xs[k]? = some s) (h:0<=ZZ n vs s) (ht:¬YF s.op=true->0<=ZZ n vs s->t=ZZ n vs s)
  (hr:Xi n (xs.drop k) vs=r):Xi n (xs.drop (k+1)) (if YF s.op=true then vs else vs++[t])=r:=by
 rw [Y6 hs,Xi,Z5 om] at hr
 rw [<-hr,E7 h]
 by_cases hc:YF s.op=true
 ·rw [Zc hc,hc];rfl
 ·rw [Z5 hc,Zc (by simpa using hc),ht hc h]
theorem Zjq {n:Zl} {xs:List Z6} {vs:LI} {k:Nat} {s:Z6} {r:Option LI} (hs:xs[k]? = some s) (h:¬0<=ZZ n vs s) (hr:Xi n (xs.drop k) vs=r):r=none:=by
 rw [Y6 hs,Xi,Zc om] at hr;exact hr.symm
theorem Ze3 {c:Prop} [Decidable c] {vs:LI} {t:Int} (h:∀x∈vs,0<=x) (ht:¬c->0<=t):∀x∈(if c then vs else vs++[t]),0<=x:=by
 split
 ·exact h
 ·rename_i hc
  exact EC h (fun x hx=>by rw [XI.1 hx];exact ht hc)
theorem Nj {m:Nat} {xs:LI} (h:Wp m xs=true):∀x∈xs,0<=x/\x<=m:=by
 rw [Wp,A5] at h
 exact fun x hx=>of_decide_eq_true (h x hx)
theorem RX {n:Zl} (h:VA n=true):KO n:=by
 simp only [VA,Kf,Wa,decide_eq_true_eq] at h
 obtain ⟨h1,⟨h2,h3,h4,h5⟩,h6⟩:=h
 have hs:∀r∈n.routines,Wp n.decls.length r.params=true/\0<=r.result:=fun r hr=>by
  have:=Hn h4 (Uf r) (XF.2 ⟨r,hr,rfl⟩)
  simp only [J9,Wa,decide_eq_true_eq] at this
  exact ⟨this.2.1,this.2.2.1⟩
 simp only [V0,Wa,decide_eq_true_eq] at h2
 obtain ⟨h2a,h2b⟩:=h2
 rw [Io] at h2b
 have key:∀(i:Nat) (d:Zf),n.decls[i]? = some d->UX n.decls d i=true:=fun i d hi=>by
  have:=h2b i (Xs.1 hi).1
  rwa [Vm,E6 hi] at this
 refine ⟨fun r hr=>(hs r hr).2,fun r hr p hp=>(Nj (hs r hr).1 p hp).1,fun d hd h0=>?_,fun c f hf=>?_⟩
 ·obtain ⟨i,hi⟩:=List.mem_iff_getElem?.1 hd
  have:=key i d hi
  rw [UX,Z5 om] at this
  split at this
  ·cases this
  ·simp only [Wa,decide_eq_true_eq] at this;omega
 ·by_cases hc:Wk n.decls c<1
  ·rw [(FK hc).1] at hf;cases hf
  ·obtain ⟨k,d,x,q1,q2,q3,q4,q5⟩:=Ik hc
   rw [q5] at hf
   have:=key k d q1
   have hp:0<d.cons.length:=by have:=(Xs.1 q3).1;omega
   rw [UX,Zc hp] at this
   split at this
   ·have:=O3.1 this x (Y3 q3)
    simp only [JS,Wa] at this
    exact (Nj this.2 f hf).1
   ·cases this
structure NTu (n:Zl):Prop where
 result:∀r∈n.routines,r.result<=(n.decls.length:Int)
 decl:∀d∈n.decls,d.cons.length=0->d.to_<=(n.decls.length:Int)
 fields:∀c,∀f∈ZX n.decls c,f<=(n.decls.length:Int)
section
variable {n:Zl} (hu:NTu n)
include hu
end
end Go.Abs
section
namespace Go.Abs
structure X2 where
 mat:Int
 fst:Int
 fds:LI
 chg:Bool
abbrev Rs (a:X2):List AV:=[.i a.mat,.i a.fst,Z4 a.fds,.b a.chg]
abbrev N6 (a:X2):AV:=.agg (Rs a)
def WM (xs:List X2):List AV:=xs.map N6
abbrev Xf (xs:List X2):AV:=.sl (WM xs) none
abbrev LY (xs:List X2) (v:Value):AV:=.sl (WM xs) (some v)
theorem Ok {xs:List X2} {j:Nat} {x:X2} (h:xs[j]? = some x):(WM xs)[j]? = some (N6 x):=by simp [WM,h]
@[simp] theorem Ol (xs:List X2):(WM xs).length=xs.length:=by simp [WM]
theorem Oj (xs ys:List X2):WM (xs++ys)=WM xs++WM ys:=by simp [WM]
theorem D3 (xs:List X2):∀y∈WM xs,y.leaves.length=4:=by intro y hy;simp only [WM,XF] at hy;obtain ⟨x,_,rfl⟩:=hy;rfl
theorem Is (xs:List X2):(Zh (WM xs)).all AV.one=true:=Jp fun y hy=>by simp only [WM,XF] at hy;obtain ⟨x,_,rfl⟩:=hy;rfl
theorem Z70 {xs:List X2} (h:WM xs=[]):xs=[]:=by cases xs with|nil=>rfl|cons x r=>cases h
abbrev Vo:=Zo
def XC:LI->Int->LI
 | [],_=>[]
 | t::r,p=>if t≠0 then p::XC r (p+1) else XC r (p+1)
theorem Zal {xs:LI} {k:Nat} {t p:Int} {acc r:LI} (h:xs[k]? = some t) (ha:acc++XC (xs.drop k) (p+k)=r) :
  (if t≠0 then acc++[p+k] else acc)++XC (xs.drop (k+1)) (p+((k+1:Nat):Int))=r:=by
 rw [Y6 h,XC] at ha
 rw [show p+((k+1:Nat):Int)=p+k+1 by omega]
 split
 ·rename_i q;rw [Zc q] at ha;rw [UR];exact ha
 ·rename_i q;rw [Z5 q] at ha;exact ha
theorem Zak {xs:LI} {k:Nat} {p:Int} {acc r:LI} (h:xs.length<=k) (ha:acc++XC (xs.drop k) (p+k)=r):acc=r:=by
 rw [Xq h,XC,Jf] at ha;exact ha
theorem Er:∀(xs:LI) (p:Int) (own:LI),UU own p xs=(XC xs p).foldl (fun o f=>o.set f.toNat (gI o f+1)) own
 | [],_,_=>rfl
 | t::r,p,own=>by
  rw [UU,XC]
  split
  ·rw [List.foldl_cons];exact Er r _ _
  ·exact Er r _ _
theorem Bw:∀{xs:LI} {p f:Int},f∈XC xs p->p<=f/\f<p+xs.length
 | [],_,_,h=>by simp [XC] at h
 | t::r,p,f,h=>by
  rw [XC] at h
  split at h
  ·rcases YE.1 h with rfl|h
   ·simp only [YZ];omega
   ·have:=Bw h;simp only [YZ];omega
  ·have:=Bw h;simp only [YZ];omega
theorem Lk:∀(xs:LI) (p:Int),(XC xs p).length<=xs.length
 | [],_=>by simp [XC]
 | t::r,p=>by
  have:=Lk r (p+1)
  rw [XC];split<;>simp<;>omega
def UM:List X2->Int->Option X2
 | [],_=>none
 | a::r,v=>match UM r v with
  | some x=>some x
  | none=>if a.mat=v then some a else none
theorem S7 {a:X2}:∀{as1:List X2} {v:Int},UM (as1++[a]) v=if a.mat=v then some a else UM as1 v
 | [],v=>rfl
 | x::r,v=>by
  rw [Q0,UM,S7]
  by_cases h:a.mat=v
  ·rw [Zc h,Zc h]
  ·rw [Z5 h,Z5 h];rfl
theorem EH {v:Int}:∀{as1:List X2},(∀a∈as1,a.mat≠v)->UM as1 v=none
 | [],_=>rfl
 | x::r,h=>by rw [UM,EH (fun a ha=>h a (Xo _ ha))];exact Z5 (h x (Xc ..))
theorem S6 {v:Int} {a:X2}:∀{as1:List X2},UM as1 v=some a->a∈as1/\a.mat=v
 | [],h=>by cases h
 | x::r,h=>by
  rw [UM] at h
  cases hr:UM r v with
  | some y=>rw [hr] at h;cases h;have:=S6 hr;exact ⟨Xo _ this.1,this.2⟩
  | none=>
   rw [hr] at h
   simp only at h
   split at h
   ·cases h;exact ⟨Xc ..,by assumption⟩
   ·cases h
structure V1 (ds:List Zf) (L:Zo) (as1:List X2):Prop where
 rng:∀a∈as1,0<=a.mat/\a.mat<a.fst/\a.fst+a.fds.length<=L.vars.length
 par:∀a∈as1,∀v:Int,a.fst<=v->v<a.fst+a.fds.length->gI L.par v=a.mat
 non:∀v:Int,0<=v->v<L.vars.length->0<=gI L.par v->∃a∈as1,a.fst<=v/\v<a.fst+a.fds.length
 off:∀v:Int,0<=v->v<L.vars.length->match UM as1 v with
  | none=>gI L.con v<0
  | some a=>0<=gI L.con v/\a.fst=gI L.fst v/\a.fds=ZX ds (gI L.con v)
theorem V1.same {ds:List Zf} {L M:Zo} {as1:List X2} (h:V1 ds L as1) (h1:M.vars.length=L.vars.length) (h2:M.par=L.par) (h3:M.con=L.con) (h4:M.fst=L.fst):V1 ds M as1:=by
 refine ⟨?_,?_,?_,?_⟩
 ·rw [h1];exact h.rng
 ·rw [h2];exact h.par
 ·rw [h1,h2];exact h.non
 ·rw [h1,h3,h4];exact h.off
theorem V1.grow {ds:List Zf} {L:Zo} {as1:List X2} {t o:Int} (h:V1 ds L as1) (hl:WH L):V1 ds (L.grow t o (-1)) as1:=by
 obtain ⟨e1,e2,e3,e4,e5⟩:=hl
 have key:∀{xs:LI} {y v:Int},xs.length=L.vars.length->0<=v->v<L.vars.length->gI (xs++[y]) v=gI xs v:=fun hx h0 h1=>An om
 have kend:∀{xs:LI} {y v:Int},xs.length=L.vars.length->v=(L.vars.length:Int)->gI (xs++[y]) v=y:=fun hx h1=>L8 om
 have hlen:(L.grow t o (-1)).vars.length=L.vars.length+1:=by simp [Zo.grow]
 refine ⟨fun a ha=>?_,fun a ha v h1 h2=>?_,fun v h0 h1 h2=>?_,fun v h0 h1=>?_⟩
 ·have:=h.rng a ha;omega
 ·have:=h.rng a ha
  show gI (L.par++[-1]) v=a.mat
  rw [key e2 om om];exact h.par a ha v h1 h2
 ·have h2':0<=gI (L.par++[-1]) v:=h2
  by_cases hv:v<L.vars.length
  ·rw [key e2 h0 hv] at h2';exact h.non v h0 hv h2'
  ·rw [kend e2 om] at h2';omega
 ·show match UM as1 v with
   | none=>gI (L.con++[-1]) v<0
   | some a=>0<=gI (L.con++[-1]) v/\a.fst=gI (L.fst++[-1]) v/\a.fds=ZX ds (gI (L.con++[-1]) v)
  by_cases hv:v<L.vars.length
  ·rw [key e3 h0 hv,key e4 h0 hv];exact h.off v h0 hv
  ·rw [EH (fun a ha=>by have:=h.rng a ha;omega)]
   show gI (L.con++[-1]) v<0
   rw [kend e3 om];omega
theorem V1.arm {ds:List Zf} {L:Zo} {as1:List X2} {x c:Int} (h:V1 ds L as1) (hl:WH L) (hx:0<=x/\x<L.vars.length) (hc:0<=c) :
  V1 ds (KQ ds L x c) (as1++[⟨x,(L.vars.length:Nat),ZX ds c,false⟩]):=by
 obtain ⟨e1,e2,e3,e4,e5⟩:=hl
 rw [KQ,Em]
 have hnew:∀{xs:LI} {y v:Int},xs.length=L.vars.length->(L.vars.length:Int)<=v->v<L.vars.length+(ZX ds c).length->gI (xs++List.replicate (ZX ds c).length y) v=y:=fun hx h0 h1=>La om
 have Kv:∀{xs:LI} {y v:Int},xs.length=L.vars.length->0<=v->v<L.vars.length->gI (xs++List.replicate (ZX ds c).length y) v=gI xs v:=fun hx h0 h1=>An om
 refine ⟨fun a ha=>?_,fun a ha v h1 h2=>?_,fun v h0 h1 h2=>?_,fun v h0 h1=>?_⟩
 ·simp only [Ys]
  rcases Xj.1 ha with ha|ha
  ·have:=h.rng a ha;omega
  ·rw [XI.1 ha]
   show 0<=x/\x<(L.vars.length:Nat)/\(L.vars.length:Int)+((ZX ds c).length:Nat)<=_
   omega
 ·show gI (L.par++List.replicate _ x) v=a.mat
  rcases Xj.1 ha with ha|ha
  ·have:=h.rng a ha
   rw [Kv e2 om om];exact h.par a ha v h1 h2
  ·rw [XI.1 ha] at h1 h2 ⊢
   exact hnew e2 h1 h2
 ·simp only [Ys] at h1
  have h2':0<=gI (L.par++List.replicate (ZX ds c).length x) v:=h2
  by_cases hv:v<L.vars.length
  ·rw [Kv e2 h0 hv] at h2'
   obtain ⟨a,ha,q⟩:=h.non v h0 hv h2'
   exact ⟨a,List.mem_append_left _ ha,q⟩
  ·exact ⟨_,List.mem_append_right _ (XI.2 rfl),by show (L.vars.length:Int)<=v;omega,by show v<(L.vars.length:Int)+(ZX ds c).length;omega⟩
 ·simp only [Ys] at h1
  show match UM (as1++[⟨x,(L.vars.length:Nat),ZX ds c,false⟩]) v with
   | none=>gI (L.con.set x.toNat c++List.replicate (ZX ds c).length (-1)) v<0
   | some a=>0<=gI (L.con.set x.toNat c++List.replicate (ZX ds c).length (-1)) v/\a.fst=gI (L.fst.set x.toNat L.vars.length++List.replicate (ZX ds c).length (-1)) v /\
     a.fds=ZX ds (gI (L.con.set x.toNat c++List.replicate (ZX ds c).length (-1)) v)
  rw [S7]
  by_cases hv:v<L.vars.length
  ·rw [Kv (by simp [e3]) h0 hv,Kv (by simp [e4]) h0 hv]
   by_cases he:x=v
   ·rw [Zc he]
    show 0<=gI (L.con.set x.toNat c) v/\(L.vars.length:Int)=gI (L.fst.set x.toNat L.vars.length) v/\ZX ds c=ZX ds (gI (L.con.set x.toNat c) v)
    rw [Cm om om,Cm om om]
    exact ⟨hc,rfl,rfl⟩
   ·rw [Z5 he,Ek om,Ek om];exact h.off v h0 hv
  ·rw [hnew (by simp [e3]) om om]
   rw [Z5 (by show ¬x=v;omega),EH (fun a ha=>by have:=h.rng a ha;omega)]
   show (-1:Int)<0
   omega
theorem Z3f {L:Zo} {ln:LI} {v:Int} {p:Int} (hv:0<=v/\v<L.vars.length) (hd:∀i:Int,0<=i->i<L.vars.length->gI L.par i<i) (h:¬(gI L.own v>0∨v∈ln)) (hp:gI L.par v=p) (h0:0<=p):XR L ln v=XR L ln p:=
 (Nh (N:=L.vars.length) rfl hp hv ⟨by omega,fun q=>h (.inr q)⟩ om hd rfl).symm
theorem Z3e {L:Zo} {ln:LI} {v:Int} (h:¬(gI L.own v>0∨v∈ln)) (hp:gI L.par v<0):XR L ln v=false:=
 (Ng rfl rfl ⟨by omega,fun q=>h (.inr q)⟩ hp rfl).symm
theorem Z3g {L:Zo} {ln:LI} {v:Int} (h:gI L.own v>0∨v∈ln):XR L ln v=true:=
 (Ni rfl (fun q=>h.elim (fun z=>by omega) q.2) rfl).symm
end Go.Abs
namespace Go.Abs
def XS (L:Zo) (v:Int):Zo:={ L with own:=L.own.set v.toNat (gI L.own v-1) }
theorem Ba {L:Zo} {v:Int}:U8 L v=if 1<=gI L.own v then some (XS L v) else none:=by
 rw [U8]
 by_cases h:gI L.own v<1
 ·rw [Zc h,Z5 om]
 ·rw [Z5 h,Zc om];rfl
end Go.Abs
namespace Go.Abs
def Wi (L:Zo) (r:Int):Zo:=if gI L.vars r≠0 then XS L r else L
theorem OF {L:Zo} {m:Nat} {r:Int} (ho:gI L.vars r≠0->1<=gI L.own r) (hz:V8 ((Wi L r).own.drop m) ((Wi L r).tok.drop m)=true):Ud m r L=some ((Wi L r).take m):=by
 rw [Ud]
 by_cases h:gI L.vars r≠0
 ·rw [Zc h,Ba,Zc (ho h)]
  have e:Wi L r=XS L r:=Zc h
  rw [e] at hz ⊢
  exact Zc hz
 ·rw [Z5 h]
  have e:Wi L r=L:=Z5 h
  rw [e] at hz ⊢
  exact Zc hz
theorem Z7n {L:Zo} {m:Nat} {r:Int} (h:gI L.vars r≠0) (ho:¬1<=gI L.own r):Ud m r L=none:=by
 rw [Ud,Zc h,Ba,Z5 ho];rfl
theorem G0 {L:Zo} {m:Nat} {r:Int} (hz:V8 ((Wi L r).own.drop m) ((Wi L r).tok.drop m)=false):Ud m r L=none:=by
 rw [Ud]
 by_cases h:gI L.vars r≠0
 ·rw [Zc h,Ba]
  have e:Wi L r=XS L r:=Zc h
  rw [e] at hz
  split
  ·exact Z5 (by rw [hz];simp)
  ·rfl
 ·rw [Z5 h]
  have e:Wi L r=L:=Z5 h
  rw [e] at hz
  exact Z5 (by rw [hz];simp)
theorem HK {os ts:LI} {k:Nat} {o t:Int} {r:Bool} (h1:os[k]? = some o) (h2:ts[k]? = some t) (h:o≠0∨0<=t) (hr:V8 (os.drop k) (ts.drop k)=r):r=false:=by
 rw [Y6 h1,Y6 h2,V8,Zc h] at hr;exact hr.symm
theorem HL {os ts:LI} {k:Nat} {o t:Int} {r:Bool} (h1:os[k]? = some o) (h2:ts[k]? = some t) (h:¬(o≠0∨0<=t)) (hr:V8 (os.drop k) (ts.drop k)=r):V8 (os.drop (k+1)) (ts.drop (k+1))=r:=by
 rw [Y6 h1,Y6 h2,V8,Z5 h] at hr;exact hr
theorem Z2x {os ts:LI} {k:Nat} {r:Bool} (h1:os.length<=k) (hr:V8 (os.drop k) (ts.drop k)=r):r=true:=by
 rw [Xq h1] at hr;rw [<-hr];simp [V8]
end Go.Abs
namespace Go.Abs
def CW (o:LI) (fs:LI):LI:=fs.foldl (fun o f=>o.set f.toNat (gI o f+1)) o
theorem Z4y {p:Int} {xs own:LI}:CW own (XC xs p)=UU own p xs:=(Er xs p own).symm
theorem Z4z {fs o r:LI} {k:Nat} {f x:Int} (h:fs[k]? = some f) (hx:gI o f=x) (hr:CW o (fs.drop k)=r):CW (o.set f.toNat (x+1)) (fs.drop (k+1))=r:=by
 rw [Y6 h,CW,List.foldl_cons,hx] at hr;exact hr
theorem NQ {fs o r:LI} {k:Nat} (h:fs.length<=k) (hr:CW o (fs.drop k)=r):o=r:=by
 rw [Xq h] at hr;exact hr
def Kl (n:Zl) (ln:LI) (L:Zo) (op v:Int):Option Zo:=if op=14 then Kn L ln v else if op=15 then U8 L v else Qe n.decls L op v
section
variable {n:Zl} {ln:LI} {L:Zo} {op v:Int} {am:List X2} {a:X2}
theorem Z5l (h:op=14) (ha:¬XR L ln v=true):Kl n ln L op v=none:=by rw [Kl,Zc h,Kn,Z5 ha]
theorem Z5m (h:op=14) (ha:XR L ln v=true) {x:Int} (hx:gI L.own v=x):Kl n ln L op v=some { L with own:=L.own.set v.toNat (x+1) }:=by rw [Kl,Zc h,Kn,Zc ha,hx]
theorem Z5p (h:op=15) (ht:1<=gI L.own v):Kl n ln L op v=some (XS L v):=by rw [Kl,Z5 om,Zc h,Ba,Zc ht]
theorem Z5o (h:op=15) (ht:¬1<=gI L.own v):Kl n ln L op v=none:=by rw [Kl,Z5 om,Zc h,Ba,Z5 ht]
theorem O0 (h1:¬op=14) (h2:¬op=15):Kl n ln L op v=Qe n.decls L op v:=by rw [Kl,Z5 h1,Z5 h2]
theorem Zeq {ds:List Zf} (har:V1 ds L am) (hv:0<=v/\v<L.vars.length) (ho:UM am v=none):Qe ds L op v=none:=by
 have:=har.off v hv.1 hv.2
 rw [ho] at this
 rw [Qe,Zc (.inl this)]
theorem Zep {ds:List Zf} (har:V1 ds L am) (hv:0<=v/\v<L.vars.length) (ho:UM am v=some a) {xt:Int} (hxt:gI L.tok v=xt):Qe ds L op v=if ¬1<=gI L.own v∨(op=17/\xt>=0) then none else
  some { XS L v with own:=UU (XS L v).own a.fst a.fds,tok:=if op=17 then L.tok.set v.toNat a.fds.length else L.tok }:=by
 have:=har.off v hv.1 hv.2
 rw [ho] at this
 obtain ⟨h1,h2,h3⟩:=this
 have hcon:¬gI L.con v<0:=by omega
 rw [Qe,Ba,hxt,<-h2,<-h3]
 by_cases ht:1<=gI L.own v
 ·rw [Zc ht]
  by_cases h17:op=17/\xt>=0
  ·have c1:gI L.con v<0∨(op=17/\0<=xt):=.inr h17
   have c2:¬1<=gI L.own v∨(op=17/\xt>=0):=.inr h17
   rw [Zc c1,Zc c2]
  ·have c1:¬(gI L.con v<0∨(op=17/\0<=xt)):=fun q=>q.elim hcon h17
   have c2:¬(¬1<=gI L.own v∨(op=17/\xt>=0)):=fun q=>q.elim (fun z=>z ht) h17
   rw [Z5 c1,Z5 c2]
 ·rw [Z5 ht]
  have c2:¬1<=gI L.own v∨(op=17/\xt>=0):=.inl ht
  rw [Zc c2]
  split<;>rfl
end
end Go.Abs
namespace Go.Abs
theorem Z6p {ds:List Zf} {L:Zo} {q v:Int} (hk:X6 ds L q) (h1:1<=gI L.own v) (hv:0<=v/\v<L.vars.length):∀y∈(XS L v).own,0<=y/\y<=q:=by
 intro y hy
 rcases Ky hy with hy|rfl
 ·exact ⟨hk.nn y hy,hk.bd y hy⟩
 ·obtain ⟨x,hx⟩:=QN (xs:=L.own) (j:=v.toNat) (by have:=hk.len.own;omega)
  have hg:=VM hx
  have:=hk.bd x (Y3 hx)
  omega
end Go.Abs
end
section
namespace Go.Abs
def V5 (n:Zl) (us:LI) (op num:Int):LI->Nat->LI
 | [],_=>[]
 | a::r,i=>if TB n us op num a i=true then (i:Int)::V5 n us op num r (i+1) else V5 n us op num r (i+1)
section
variable {n:Zl} {us:LI} {op num:Int}
theorem Zf6 {args acc r:LI} {k:Nat} {a:Int} (h:args[k]? = some a) (hc:TB n us op num a k=true) (hr:acc++V5 n us op num (args.drop k) k=r) :
  (acc++[(k:Int)])++V5 n us op num (args.drop (k+1)) (k+1)=r:=by
 rw [Y6 h,V5,Zc hc] at hr;rw [UR];exact hr
theorem Ss {args acc r:LI} {k:Nat} {a:Int} (h:args[k]? = some a) (hc:¬TB n us op num a k=true) (hr:acc++V5 n us op num (args.drop k) k=r) :
  acc++V5 n us op num (args.drop (k+1)) (k+1)=r:=by
 rw [Y6 h,V5,Z5 hc] at hr;exact hr
theorem Zf5 {args acc r:LI} {k:Nat} (h:args.length<=k) (hr:acc++V5 n us op num (args.drop k) k=r):acc=r:=by
 rw [Xq h,V5,Jf] at hr;exact hr
theorem M9 (h:¬Tc op=true):∀(args:LI) (i:Nat),V5 n us op num args i=[]
 | [],_=>rfl
 | a::r,i=>by
  have hb:Tc op=false:=by simpa using h
  rw [V5,Z5 (by rw [TB,hb];simp)];exact M9 h r (i+1)
theorem M8:∀{args:LI} {i:Nat} {p:Int},p∈V5 n us op num args i->(i:Int)<=p/\p<i+args.length
 | [],_,_,h=>by simp [V5] at h
 | a::r,i,p,h=>by
  rw [V5] at h
  simp only [YZ]
  split at h
  ·rcases YE.1 h with rfl|h
   ·omega
   ·have:=M8 h;omega
  ·have:=M8 h;omega
theorem Sr:∀(args:LI) (i:Nat),(V5 n us op num args i).length<=args.length
 | [],_=>by simp [V5]
 | a::r,i=>by
  have:=Sr r (i+1)
  rw [V5];split<;>simp<;>omega
theorem RG (h:¬Tc op=true) (i:Nat):¬WG n op num i=true:=by
 have:op≠9:=fun q=>h (by rw [q];rfl)
 rw [WG,Jv,Z5 this];simp
def Bj (n:Zl) (op num:Int) (args:LI) (k:Nat) (ls:LI):Prop:=∀x,x∈ls↔∃i,i<k/\args[i]? = some x/\WG n op num i=true
theorem RD {args ls:LI} {k:Nat} (h:Bj n op num args k ls) (hl:¬WG n op num k=true):Bj n op num args (k+1) ls:=by
 intro x;rw [h x]
 constructor
 ·rintro ⟨i,q1,q2⟩;exact ⟨i,by omega,q2⟩
 ·rintro ⟨i,q1,q2,q3⟩
  rcases JN i k with q|q
  ·exact ⟨i,q,q2,q3⟩
  ·have:i=k:=by omega
   subst this;exact absurd q3 hl
theorem Zdd {args ls ls2:LI} {k:Nat} {a:Int} (ha:args[k]? = some a) (h:Bj n op num args k ls) (hl:WG n op num k=true) (h2:∀x,x∈ls2↔x∈ls∨x=a):Bj n op num args (k+1) ls2:=by
 intro x;rw [h2 x,h x]
 constructor
 ·rintro (⟨i,q1,q2⟩|rfl)
  ·exact ⟨i,by omega,q2⟩
  ·exact ⟨k,by omega,ha,hl⟩
 ·rintro ⟨i,q1,q2,q3⟩
  rcases JN i k with q|q
  ·exact .inl ⟨i,q,q2,q3⟩
  ·have:i=k:=by omega
   subst this;rw [ha] at q2;exact .inr (UT q2).symm
theorem Zdf {args:LI}:Bj n op num args 0 []:=by intro x;simp
theorem Zde {args ls:LI} {k:Nat} (h:Bj n op num args k ls) (hk:args.length<=k):∀x,x∈ls↔∃i,args[i]? = some x/\WG n op num i=true:=by
 intro x;rw [h x]
 constructor
 ·rintro ⟨i,_,q⟩;exact ⟨i,q⟩
 ·rintro ⟨i,q⟩;exact ⟨i,by have:=(Xs.1 q.1).1;omega,q⟩
end
def KI (args:LI):LI->Zo->Option Zo
 | [],L=>some L
 | k::r,L=>match U8 L (gI args k) with
  | none=>none
  | some L1=>KI args r L1
theorem Fe {n:Zl} {op num:Int} {all:LI}:∀{args:LI} {i:Nat} {L:Zo},all.drop i=args->T1 n op num args i L=KI all (V5 n L.vars op num args i) L
 | [],i,L,_=>rfl
 | a::r,i,L,h=>by
  have hr:all.drop (i+1)=r:=by rw [<-List.drop_drop,h];rfl
  have ha:gI all (i:Int)=a:=by
   have:(all.drop i)[0]? = some a:=by rw [h];rfl
   rw [CO] at this
   exact VM (by simpa using this)
  rw [T1,V5]
  split
  ·rw [KI,ha]
   cases ht:U8 L a with
   | none=>rfl
   | some L1=>
    simp only
    rw [Fe hr,(KH ht).2.1]
  ·exact Fe hr
theorem Zju {args ps:LI} {k:Nat} {L:Zo} {p x:Int} {r:Option Zo} (h:ps[k]? = some p) (hx:gI args p=x) (ht:1<=gI L.own x) (hr:KI args (ps.drop k) L=r):KI args (ps.drop (k+1)) (XS L x)=r:=by
 rw [Y6 h,KI,hx,Ba,Zc ht] at hr;exact hr
theorem Zjv {args ps:LI} {k:Nat} {L:Zo} {p x:Int} {r:Option Zo} (h:ps[k]? = some p) (hx:gI args p=x) (ht:¬1<=gI L.own x) (hr:KI args (ps.drop k) L=r):r=none:=by
 rw [Y6 h,KI,hx,Ba,Z5 ht] at hr;exact hr.symm
theorem Zjt {args ps:LI} {k:Nat} {L:Zo} {r:Option Zo} (h:ps.length<=k) (hr:KI args (ps.drop k) L=r):r=some L:=by
 rw [Xq h,KI] at hr;exact hr.symm
theorem Gn {n:Zl} {op num:Int} {ln:LI} {L:Zo} {all:LI}:∀{args:LI} {i:Nat},all.drop i=args ->
  (Qa n op num ln L args i=true↔∀j x,i<=j->all[j]? = some x->WG n op num j=true->XR L ln x=true)
 | [],i,h=>by
  simp only [Qa,true_iff]
  intro j x hj hx _
  have:=(Xs.1 hx).1
  have hl:=Yv List.length h
  simp at hl;omega
 | a::r,i,h=>by
  have hr:all.drop (i+1)=r:=by rw [<-List.drop_drop,h];rfl
  have ha:all[i]? = some a:=by
   have:(all.drop i)[0]? = some a:=by rw [h];rfl
   rw [CO] at this;simpa using this
  rw [Qa]
  split
  ·rename_i q
   simp only [Bool.false_eq_true,false_iff]
   exact fun z=>q.2 (z i a (X5 _) ha q.1)
  ·rename_i q
   rw [Gn hr]
   constructor
   ·intro z j x hj hx hl
    rcases JN i j with hij|hij
    ·exact z j x hij hx hl
    ·have:j=i:=by omega
     subst this;rw [ha] at hx;cases hx
     exact Wf.1 fun y=>q ⟨hl,y⟩
   ·exact fun z j x hj=>z j x om
theorem Pt {n:Zl} {ln:LI} {L L1:Zo} {op num into:Int} {args ls:LI} (h1:KI args (V5 n L.vars op num args 0) L=some L1) (hl:∀x,x∈ls↔∃i,args[i]? = some x/\WG n op num i=true) :
  ((∀x∈ls,XR L1 ln x=true)->UD n ln L op num into args=Js L1 into args.length)/\((∃x∈ls,¬XR L1 ln x=true)->UD n ln L op num into args=none):=by
 rw [UD,Fe (all:=args) (args:=args) (i:=0) rfl,h1]
 simp only
 constructor
 ·intro h
  rw [Zc ((Gn (all:=args) (args:=args) (i:=0) rfl).2 fun j x _ hx hj=>h x ((hl x).2 ⟨j,hx,hj⟩))]
 ·rintro ⟨x,hx,hd⟩
  rw [Z5]
  intro z
  obtain ⟨j,q1,q2⟩:=(hl x).1 hx
  exact hd ((Gn (all:=args) (args:=args) (i:=0) rfl).1 z j x (A8 _) q1 q2)
theorem Zad {n:Zl} {ln:LI} {L:Zo} {op num into:Int} {args:LI} (h1:KI args (V5 n L.vars op num args 0) L=none):UD n ln L op num into args=none:=by
 rw [UD,Fe (all:=args) (args:=args) (i:=0) rfl,h1]
end Go.Abs
namespace Go.Abs
theorem Zgy {n:Zl} (hn:X4 n) (num:Int):(UH n num).lnt.length<=4194304:=by
 rw [UH,Tt]
 cases h:n.routines[num.toNat]? with
 | none=>simp
 | some r=>exact hn.lent r (Y3 h)
theorem Zdc {n:Zl} {op num:Int} {k:Nat}:WG n op num k=true↔(op=9/\(k:Int)∈(UH n num).lnt):=by
 rw [WG,Jv,decide_eq_true_iff]
 by_cases h:op=9
 ·rw [Zc h,UH,Tt]
  cases n.routines[num.toNat]? with
  | none=>simp
  | some r=>simp [h,W9]
 ·rw [Z5 h];simp [h]
end Go.Abs
namespace Go.Abs
theorem clS {xs:LI} {p:LI->Prop}:DP fun r h=>∃(vp vl:Value) (ls:LI),r=.tup [ZQ xs vp,ZQ ls vl]/\h=[.tail vp 1,.tail vl 1]/\p ls:=by
 rintro _ _ ⟨vp,vl,ls,rfl,rfl,_⟩
 refine ⟨.tup fun y hy=>?_,by simp [DQ]⟩
 simp only [YE,List.not_mem_nil,or_false] at hy
 rcases hy with rfl|rfl
 ·exact .own (k:=1) (HE _) (by simp)
 ·exact .own (k:=1) (HE _) (by simp)
end Go.Abs
end
section
namespace Go.Abs
section
variable {n:Zl} {ln:LI}
theorem Zae {L L':Zo} {op num into q:Int} {args:LI} {ds:List Zf} (hk:X6 ds L q) (h:UD n ln L op num into args=some L'):L'.vars=L.vars/\L'.par=L.par/\L'.con=L.con/\L'.fst=L.fst:=by
 rw [UD] at h
 cases ht:T1 n op num args 0 L with
 | none=>rw [ht] at h;cases h
 | some L1=>
  rw [ht] at h
  obtain ⟨_,h1,h2,h3,h4,_⟩:=Gp hk ht
  simp only at h
  split at h
  ·rw [Js] at h
   split at h
   ·split at h
    ·cases h
    ·cases h;exact ⟨h1,h2,h3,h4⟩
   ·cases h;exact ⟨h1,h2,h3,h4⟩
  ·cases h
theorem Zf3 {L L1:Zo} {s:Z6} {q:Int} {ds:List Zf} (hk:X6 ds L q) (h:UN n ln L s.op s.num s.into s.args (U2 n ln L s.op s.num s.args s.kids)=some L1):L1.vars=L.vars/\L1.par=L.par/\L1.con=L.con/\L1.fst=L.fst:=by
 rw [UN] at h
 split at h
 ·obtain ⟨h1,h2,h3,h4,_⟩:=Ir h;exact ⟨h1,h2,h3,h4⟩
 split at h
 ·obtain ⟨_,h1,h2,h3,h4,_⟩:=KH h;exact ⟨h1,h2,h3,h4⟩
 split at h
 ·obtain ⟨h1,h2,h3,h4,_⟩:=M4 h;exact ⟨h1,h2,h3,h4⟩
 split at h
 ·split at h
  ·cases h
  ·cases hks:s.kids with
   | nil=>rw [hks,U2] at h;cases h
   | cons b bs=>
    rw [hks,U2] at h
    unfold B0 at h
    cases hb:Wh n ln (WF n.decls L s.op s.num s.args 0) L.vars.length b with
    | none=>rw [hb] at h;cases h
    | some one=>
     rw [hb] at h
     simp only at h
     split at h
     ·cases h;exact ⟨rfl,rfl,rfl,rfl⟩
     ·cases h
 ·exact Zae hk h
theorem Z1w (hn:X4 n) {s:Z6} {L L':Zo} {q:Int} {am:List X2} (hk:X6 n.decls L q) (hq:0<=q) (hty:0<=ZZ n L.vars s) (h:WI n ln L s=some L') (ha:V1 n.decls L am):V1 n.decls L' am:=by
 rw [Ht] at h
 cases hp:UN n ln L s.op s.num s.into s.args (U2 n ln L s.op s.num s.args s.kids) with
 | none=>rw [hp] at h;cases h
 | some L1=>
  rw [hp] at h
  obtain ⟨h1,h2,h3,h4⟩:=Zf3 hk hp
  have hk1:=(BH hn hk hq (B9 hty) hp).1
  have ha1:V1 n.decls L1 am:=ha.same (by rw [h1]) h2 h3 h4
  rw [K7] at h
  split at h
  ·cases h;exact ha1.grow hk1.len
  ·cases h;exact ha1
theorem Hv (hn:X4 n) {am:List X2}:∀{xs:List Z6} {L L':Zo} {q:Int} {vs:LI},X6 n.decls L q->0<=q->V1 n.decls L am->Xi n xs L.vars=some vs->Xt n ln L xs=some L' ->
  X6 n.decls L' (q+4*Yj xs)/\L'.vars=vs/\V1 n.decls L' am
 | [],L,L',q,vs,hk,hq,ha,ht,h=>by
  rw [Xt] at h;rw [Xi] at ht;cases h;cases ht
  exact ⟨by simpa [Yj] using hk,rfl,ha⟩
 | s::r,L,L',q,vs,hk,hq,ha,ht,h=>by
  rw [Xt] at h
  cases hs:WI n ln L s with
  | none=>rw [hs] at h;cases h
  | some L1=>
   rw [hs] at h
   obtain ⟨g1,g2⟩:=CH ht
   obtain ⟨k1,k2⟩:=Fa hn hk hq g1 hs
   have:=Hv hn (xs:=r) k1 (by have:=s.sz_pos;omega) (Z1w hn hk hq g1 hs ha) (by rw [k2];exact g2) h
   refine ⟨?_,this.2⟩
   rw [show q+4*Yj (s::r)=q+4*s.sz+4*Yj r by rw [Yj];omega]
   exact this.1
end
end Go.Abs
namespace Go.Abs
def C5 (n:Zl):Prop:=∀r∈n.routines,∀i:Nat,(i:Int)∈r.lent->∃t,r.params[i]? = some t/\t≠0
theorem RC {ps:LI}:∀{ls:LI} {prev:Option Int},Ka ps ls prev=true->∀v∈ls,(0<=v/\v<=(ps.length:Int)-1)/\ps[v.toNat]?≠some 0
 | [],_,_,v,h=>by cases h
 | x::r,prev,h,v,hv=>by
  rw [Ka] at h
  split at h
  ·rename_i q
   rcases YE.1 hv with rfl|hv
   ·exact ⟨q.1,q.2.1⟩
   ·exact RC h v hv
  ·cases h
theorem RH:∀{rs:List Yh},QX rs=true->∀r∈rs,JK r.params r.lent=true
 | [],_,r,h=>by cases h
 | x::rs,h,r,hr=>by
  rw [QX] at h
  split at h
  ·rcases YE.1 hr with rfl|hr
   ·assumption
   ·exact RH h r hr
  ·cases h
theorem Ze5 {n:Zl} (h:VA n=true):C5 n:=by
 simp only [VA,Kf,Wa,decide_eq_true_eq] at h
 obtain ⟨_,_,h6⟩:=h
 intro r hr i hi
 obtain ⟨h1,h2⟩:=RC (RH h6 r hr) i hi
 obtain ⟨t,ht⟩:=QN (xs:=r.params) (j:=i) om
 refine ⟨t,ht,fun q=>h2 ?_⟩
 rw [VC,ht,q]
theorem Fh {us:LI}:∀{args tys:LI} {i:Nat} {a t:Int},Tp us args tys=true->args[i]? = some a->tys[i]? = some t->Xb us a=some t
 | [],_,i,a,t,_,h,_=>by simp at h
 | x::r,[],i,a,t,_,_,h=>by simp at h
 | x::r,y::ys,i,a,t,h,ha,ht=>by
  rw [Tp] at h
  split at h
  ·rename_i hq
   cases i with
   | zero=>simp at ha ht;subst ha;subst ht;exact hq
   | succ i=>exact Fh h (by simpa using ha) (by simpa using ht)
  ·cases h
theorem Zdg {n:Zl} (hl:C5 n) {us:LI} {s:Z6} (h:0<=ZZ n us s):∀(i:Nat) (a:Int),s.args[i]? = some a->WG n s.op s.num i=true->gI us a≠0:=by
 intro i a ha hla
 rw [WG,Jv,decide_eq_true_iff] at hla
 by_cases h9:s.op=9
 ·rw [Zc h9] at hla
  have hn:=(B9 h).num h9
  obtain ⟨r,hr⟩:=QN (xs:=n.routines) (j:=s.num.toNat) om
  rw [hr] at hla
  obtain ⟨t,ht,h0⟩:=hl r (Y3 hr) i hla
  rw [A0] at h
  split at h
  ·omega
  rw [Z5 om,Z5 om,Z5 om,Z5 om,Z5 om,Z5 om,Zc (.inl h9),Ux,Q3 om hr] at h
  simp only [J7] at h
  rw [Zc h9] at h
  split at h
  ·rename_i hty
   rw [Wc] at hty
   have hq:Xb us a=some t:=by
    first
    | exact Fh hty ha ht
    | exact Fh (Bool.and_eq_true_iff.1 hty).2 ha ht
    | exact Fh (Bool.and_eq_true_iff.1 hty).1 ha ht
   rw [VM (KU hq).2];exact h0
  ·omega
 ·rw [Z5 h9] at hla;cases hla
end Go.Abs
namespace Go.Abs
theorem Zgp {n:Zl} {us:LI} {s:Z6} (h:∀t∈us,0<=t) (h0:0<=ZZ n us s):∀t∈QE n us s,0<=t:=by
 rw [QE];split
 ·exact EC h fun t ht=>by rw [XI.1 ht];exact h0
 ·exact h
end Go.Abs
namespace Go.Abs
theorem Ih {c:Bool} {ok:Int->Prop}:DP fun r h=>∃t:Int,r=.tup [.i t,.b c]/\h=[]/\ok t:=by
 rintro _ _ ⟨t,rfl,rfl,_⟩
 refine ⟨.tup fun y hy=>?_,by simp⟩
 simp only [YE,List.not_mem_nil,or_false] at hy
 rcases hy with rfl|rfl<;>exact .val
section
variable {n:Zl} {ln:LI} {L:Zo} {s:Z6}
theorem OQ {op t:Int} {r:Option Zo} (h:¬W5 op=true):K7 L op t r=r:=by
 cases r with
 | none=>rfl
 | some X=>exact Z5 h
theorem Z1y {x:Int} (hc:YF s.op=true) (hx:gI s.args 0=x):WI n ln L s=Kl n ln L s.op x:=by
 have hop:14<=s.op/\s.op<=17:=by simpa [YF] using hc
 have hd:¬W5 s.op=true:=by rw [W5];simp;omega
 rw [U7,OQ hd,Kl]
 by_cases h14:s.op=14
 ·rw [Zc h14];exact EL h14 hx
 rw [Z5 h14]
 by_cases h15:s.op=15
 ·rw [Zc h15];exact EM h15 hx
 rw [Z5 h15]
 exact H9 om hx
theorem MM {L1:Zo} {t:Int} (hP:Qf n ln L s=some L1) (h0:0<=ZZ n L.vars s) (hnc:¬YF s.op=true) (ht:t=ZZ n L.vars s):WI n ln L s=some (L1.grow t (min t 1) (-1)):=by
 have hd:W5 s.op=true:=by rw [E7 h0];simpa using hnc
 rw [U7,hP]
 show (if W5 s.op=true then _ else _)=_
 rw [Zc hd,ht,show (if ZZ n L.vars s≠0 then (1:Int) else 0)=min (ZZ n L.vars s) 1 by split<;>omega]
theorem Z1z (hP:Qf n ln L s=none):WI n ln L s=none:=by rw [U7,hP];rfl
theorem M7 (h1:¬YF s.op=true) (h2:¬(s.op=7∨s.op=8)):Qf n ln L s=UD n ln L s.op s.num s.into s.args:=by
 have hop:¬(14<=s.op/\s.op<=17):=by simpa [YF] using h1
 rw [Qf,UN,Z5 om,Z5 om,Z5 om,Z5 h2]
theorem Zf2 (h1:¬YF s.op=true) (h2:¬(s.op=7∨s.op=8)) (h3:¬Tc s.op=true) (h0:0<=ZZ n L.vars s):Qf n ln L s=some L:=by
 rw [M7 h1 h2,UD,Fe (all:=s.args) (args:=s.args) (i:=0) rfl,M9 h3]
 show (if Qa n s.op s.num ln L s.args 0=true then Js L s.into s.args.length else none)=some L
 rw [Zc ((Gn (all:=s.args) (args:=s.args) (i:=0) rfl).2 fun j x _ _ hl=>absurd hl (RG h3 j)),Js]
 have hi:¬0<s.into:=by
  intro hi
  rw [A0] at h0
  split at h0
  ·omega
  ·rename_i hq
   have hv:Ua L.vars s.op s.into=true:=Wf.1 fun z=>hq (.inr (.inl z))
   rw [Ua,Z5 om] at hv
   split at hv
   ·rename_i h6;exact h3 (by rw [h6];rfl)
   ·cases hv
 rw [Z5 hi]
end
end Go.Abs
namespace Go.Abs
def TR (L:Zo) (am:List X2) (s:Z6) (m:LI):List X2:=if s.op=8 then am++[⟨gI s.args 0,(L.vars.length:Nat),m,false⟩] else am
def JE (n:Zl) (L:Zo) (s:Z6) (k:Nat):Zo:=if s.op=8 then { L with con:=L.con.set (gI s.args 0).toNat (gI (ZV n.decls s.num) k),fst:=L.fst.set (gI s.args 0).toNat L.vars.length } else L
theorem BN {n:Zl} {L:Zo} {s:Z6} {k:Nat}:(JE n L s k).vars=L.vars:=by rw [JE];split<;>rfl
theorem DG {n:Zl} {L:Zo} {s:Z6} {k:Nat}:(JE n L s k).own=L.own:=by rw [JE];split<;>rfl
theorem DH {n:Zl} {L:Zo} {s:Z6} {k:Nat}:(JE n L s k).tok=L.tok:=by rw [JE];split<;>rfl
theorem Z1u {n:Zl} {L:Zo} {s:Z6} {k:Nat} (h:WH L):WH (JE n L s k):=by rw [JE];split;exact h.arm;exact h
theorem Z1t {n:Zl} {L:Zo} {s:Z6} {k:Nat} {m:LI} (hop:s.op=7∨s.op=8) (hm:(X7 n.decls s.op s.num)[k]? = some m):Jq (JE n L s k) (gI s.args 0) m=WF n.decls L s.op s.num s.args k:=by
 rw [JE,WF]
 by_cases h8:s.op=8
 ·rw [Zc h8,Zc h8]
  obtain ⟨c,hc,rfl⟩:=FA h8 hm
  have hgc:gI (ZV n.decls s.num) (k:Int)=c:=by rw [gI];simp [hc]
  rw [KQ,hgc]
 ·rw [Z5 h8,Z5 h8]
  rw [X7,Zc om] at hm
  have:m=[]:=by
   match k,hm with
   | 0,hm=>simpa using hm.symm
   | 1,hm=>simpa using hm.symm
   | k+2,hm=>simp at hm
  rw [this];rfl
theorem Nt {n:Zl} {L:Zo} {am:List X2} {s:Z6} {k:Nat} {m:LI} (hn:X4 n) (ha:V1 n.decls L am) (hl:WH L) (hop:s.op=7∨s.op=8) (hx:0<=gI s.args 0/\gI s.args 0<L.vars.length) (hm:(X7 n.decls s.op s.num)[k]? = some m) :
  V1 n.decls (WF n.decls L s.op s.num s.args k) (TR L am s m):=by
 rw [TR,WF]
 by_cases h8:s.op=8
 ·rw [Zc h8,Zc h8]
  obtain ⟨c,hc,rfl⟩:=FA h8 hm
  have hgc:gI (ZV n.decls s.num) (k:Int)=c:=by rw [gI];simp [hc]
  rw [hgc]
  exact ha.arm hl hx (O2 hn.decls hc).1
 ·rw [Z5 h8,Z5 h8];exact ha
end Go.Abs
namespace Go.Abs
theorem Hu {n:Zl}:∀{xs:List Z6} {us vs:LI},Xi n xs us=some vs->us.length<=vs.length/\vs.length<=us.length+Yj xs
 | [],us,vs,h=>by rw [Xi] at h;cases h;simp [Yj]
 | s::r,us,vs,h=>by
  obtain ⟨_,g2⟩:=CH h
  have:=Hu g2
  have h2:=EY n us s
  rw [Yj];omega
theorem Ns {L:Zo} {am:List X2} {s:Z6} {m:LI}:(TR L am s m).length<=am.length+1:=by rw [TR];split<;>simp
theorem Nu {n:Zl} (hty:KO n) {op num:Int} {k:Nat} {m:LI} (h:(X7 n.decls op num)[k]? = some m):∀f∈m,0<=f:=by
 by_cases h7:op=7
 ·rw [X7,Zc h7] at h
  have:m=[]:=by
   match k,h with
   | 0,h=>simpa using h.symm
   | 1,h=>simpa using h.symm
   | k+2,h=>simp at h
  rw [this];intro f hf;cases hf
 ·rw [X7,Z5 h7,Tt] at h
  cases hc:(ZV n.decls num)[k]? with
  | none=>rw [hc] at h;cases h
  | some c=>rw [hc] at h;cases h;exact hty.fields c
theorem FZ {L:Zo} {r:Int}:(Wi L r).own.length=L.own.length/\(Wi L r).tok.length=L.tok.length/\(Wi L r).vars=L.vars:=by
 rw [Wi];split
 ·exact ⟨T7,rfl,rfl⟩
 ·exact ⟨rfl,rfl,rfl⟩
end Go.Abs
namespace Go.Abs
theorem Hw {L M:Zo} {n:Zl} {ln:LI} {xs:List Z6} {f:Zo->Option Zo} (h:Xt n ln L xs=some M):JG (Xt n ln L xs) f=f M:=by rw [h];rfl
end Go.Abs
end
namespace Go.Abs

end Go.Abs
section
namespace Go.Abs
theorem Z2w:∀{os ts:LI} {m:Nat},os.length=ts.length->(V8 os ts=true↔V8 (os.take m) (ts.take m)=true/\V8 (os.drop m) (ts.drop m)=true)
 | [],[],m,_=>by simp [V8]
 | [],_::_,_,h=>by simp at h
 | _::_,[],_,h=>by simp at h
 | o::os,t::ts,0,h=>by simp [V8]
 | o::os,t::ts,m+1,h=>by
  simp only [C0,List.drop_succ_cons]
  rw [V8,V8]
  split
  ·simp
  ·exact Z2w (by simpa using h)
theorem SU {n:Zl} {r:Yh} {M:Zo} (hP:Xt n r.lent (U3 r) r.body.steps=some M) (hl:M.own.length=M.tok.length):Tb n r=(Ud 0 r.body.result M).isSome:=by
 rw [Tb,KV,hP]
 show (match Ud r.params.length r.body.result M with|none=>false|some L=>(UB L 0).isSome)=_
 rw [Ud,Ud]
 cases hT:(if gI M.vars r.body.result≠0 then U8 M r.body.result else some M) with
 | none=>rfl
 | some M2=>
  have h2:M2.own.length=M2.tok.length:=by
   split at hT
   ·have:=KH hT;rw [this.2.2.2.2.2.1,this.2.2.2.2.2.2,T7];exact hl
   ·cases hT;exact hl
  show (match UB M2 r.params.length with|none=>false|some L=>(UB L 0).isSome)=(UB M2 0).isSome
  have key:=Z2w (m:=r.params.length) h2
  rw [UB,UB]
  by_cases h1:V8 (M2.own.drop r.params.length) (M2.tok.drop r.params.length)=true
  ·rw [Zc h1]
   show (UB (M2.take r.params.length) 0).isSome=_
   rw [UB]
   by_cases h3:V8 (M2.own.take r.params.length) (M2.tok.take r.params.length)=true
   ·rw [Zc (show V8 ((M2.take r.params.length).own.drop 0) ((M2.take r.params.length).tok.drop 0)=true from h3),Zc (show V8 (M2.own.drop 0) (M2.tok.drop 0)=true from key.2 ⟨h3,h1⟩)];rfl
   ·rw [Z5 (show ¬V8 ((M2.take r.params.length).own.drop 0) ((M2.take r.params.length).tok.drop 0)=true from h3),Z5 (show ¬V8 (M2.own.drop 0) (M2.tok.drop 0)=true from fun z=>h3 (key.1 z).1)]
  ·rw [Z5 h1,Z5 (show ¬V8 (M2.own.drop 0) (M2.tok.drop 0)=true from fun z=>h1 (key.1 z).2)];rfl
theorem Zfv {n:Zl} {r:Yh} (hP:Xt n r.lent (U3 r) r.body.steps=none):Tb n r=false:=by rw [Tb,KV,hP];rfl
end Go.Abs
namespace Go.Abs
theorem Mw {xs:LI} {k:Nat} {a b:Int} (h:xs.length=k):(xs++[a]).set k b=xs++[b]:=by subst h;simp
end Go.Abs
namespace Go.Abs
theorem Z44 {ds:List Zf}:V1 ds ⟨[],[],[],[],[],[]⟩ []:=⟨fun a ha=>(nomatch ha),fun a ha=>(nomatch ha),fun v h0 h1=>(by have h2:v<((0:Nat):Int):=h1;omega),fun v h0 h1=>(by have h2:v<((0:Nat):Int):=h1;omega)⟩
theorem So {ds:List Zf} {lent:LI}:∀{ps:LI} {i:Nat} {L:Zo},WH L->V1 ds L []->V1 ds (KC lent ps i L) []
 | [],_,_,_,h=>h
 | t::r,i,L,hl,h=>by rw [KC];exact So hl.grow (h.grow hl)
theorem RQ {ds:List Zf} (rt:Yh):V1 ds (U3 rt) []:=So ⟨rfl,rfl,rfl,rfl,rfl⟩ Z44
end Go.Abs
end
section
namespace Go.Abs
end Go.Abs
namespace Go.Abs
end Go.Abs
namespace Go.Abs
end Go.Abs
namespace Go.Abs
end Go.Abs
end
namespace Go.Abs
def Zz (op v:Int):Z6:=.mk op 0 0 [v] []
def Q9 (ds:List Zf) (num:Int) (k:Nat):LI:=((ZV ds num).map (ZX ds))[k]?.getD []
section
variable {ds:List Zf} {am:List X2} {m:Nat}
end
theorem G9 {ds:List Zf} {num:Int} {k:Nat} {m:LI} (h:((ZV ds num).map (ZX ds))[k]? = some m):Q9 ds num k=m:=by rw [Q9,h];rfl
theorem IU {ds:List Zf} (hd:Wv ds) (num:Int) (k:Nat):(Q9 ds num k).length<=3:=by
 rw [Q9,Tt]
 cases (ZV ds num)[k]? with
 | none=>simp
 | some c=>exact UA hd c
theorem Z7r (xs ys:List Wo):J0 (xs++ys)=J0 xs++J0 ys:=by simp [IS]
theorem IP (xs ys:List XJ):Kr (xs++ys)=Kr xs++Kr ys:=by simp [IQ]
theorem Z7s (x:Wo):J0 [x]=[x.er]:=by simp [IS]
theorem IR (x:XJ):Kr [x]=[x.er]:=by simp [IQ]
theorem Z1n {xs:List Z6} {k:Nat} {s:Z6} (h:xs[k]? = some s):Yj (xs.take (k+1))=Yj (xs.take k)+s.sz:=by
 induction xs generalizing k with
 | nil=>simp at h
 | cons t r ih=>
  cases k with
  | zero=>simp at h;subst h;simp [Yj]
  | succ k=>rw [C0,C0,Yj,Yj,ih (by simpa using h)];omega
theorem B7 (xs:List Z6) (k:Nat):Yj (xs.take k)<=Yj xs:=by
 induction xs generalizing k with
 | nil=>simp
 | cons t r ih=>
  cases k with
  | zero=>simp [Yj]
  | succ k=>have:=ih k;rw [C0,Yj,Yj];omega
theorem Zgn {n:Zl} {us:LI} {s:Z6} (g:0<=ZZ n us s) (h:YF s.op=true):QE n us s=us:=by rw [QE,E7 g,h];rfl
theorem Zgm {n:Zl} {us:LI} {s:Z6} (g:0<=ZZ n us s) (h:¬YF s.op=true):(QE n us s).length=us.length+1:=by
 rw [QE,E7 g,KL.2 h];simp
theorem Zgo {n:Zl} {us:LI} {s:Z6} (g:0<=ZZ n us s):(QE n us s).length=if YF s.op=true then us.length else us.length+1:=by
 split
 ·rw [Zgn g (by assumption)]
 ·exact Zgm g (by assumption)
theorem Zcx {n:Zl} {us:LI} {s:Z6} (g:0<=ZZ n us s) (h:0<s.kids.length):s.op=7∨s.op=8:=by
 rw [A0] at g
 split at g
 ·omega
 ·rename_i q
  exact BV fun z=>q (.inr (.inr ⟨h,fun e=>z (.inl e),fun e=>z (.inr e)⟩))
theorem Z46 {ds:List Zf} {op num:Int} {k:Nat} {m:LI} (h7:op=7) (h:(X7 ds op num)[k]? = some m):m=[]:=by
 rw [X7,Zc h7] at h
 match k,h with
 | 0,h=>simpa using h.symm
 | 1,h=>simpa using h.symm
 | k+2,h=>simp at h
theorem Cl (ys:List Vn):(Zh (Vy ys)).length=ys.length*3:=by rw [UZ _ (Oq _)];simp
theorem OV (ys:List VD):(Zh (Ut ys)).length=ys.length:=by rw [UZ _ (Oo _)];simp
theorem OU (ys:List Zf):(Zh (YB ys)).length=ys.length*3:=by rw [UZ _ (KZ _)];simp
theorem Z89 (ys:List Ye):(Zh (XT ys)).length=ys.length:=by rw [UZ _ (E9 _)];simp
theorem Z8a {ds:List Zf} {k:Nat} {d:Zf} (h:ds[k]? = some d):Zh (YB (ds.drop k))=TW d++Zh (YB (ds.drop (k+1))):=by rw [Y6 h];rfl
theorem Z88 {ds:List Ye} {k:Nat} {d:Ye} (h:ds[k]? = some d):Zh (XT (ds.drop k))=Dp d++Zh (XT (ds.drop (k+1))):=by rw [Y6 h];rfl
theorem SY {ys:List Vn} {ds:List Zf} {k:Nat} {d:Zf} (h:ds[k]? = some d):Zh (Vy ys++YB (ds.drop k))=Zh (Vy ys)++(TW d++Zh (YB (ds.drop (k+1)))):=by
 rw [UL,Z8a h]
theorem Zfz {ys:List VD} {ds:List Ye} {k:Nat} {d:Ye} (h:ds[k]? = some d):Zh (Ut ys++XT (ds.drop k))=Zh (Ut ys)++(Dp d++Zh (XT (ds.drop (k+1)))):=by
 rw [UL,Z88 h]
theorem SX {ys:List Vn} {ds:List Zf} {k:Nat} (h:ys.length=k) (hk:k<=ds.length):(Zh (Vy ys++YB (ds.drop k))).length=ds.length*3:=by
 rw [UL,Ys,Cl,OU,Bf];omega
theorem SW {ys:List VD} {ds:List Ye} {k:Nat} (h:ys.length=k) (hk:k<=ds.length):(Zh (Ut ys++XT (ds.drop k))).length=ds.length*1:=by
 rw [UL,Ys,OV,Z89,Bf];omega
theorem Zg1 {ys:List Vn} {ds:List Zf} {k:Nat} {f t:Int} {zs:List VD} {u:Value}:Zh (Vy ys)++([.i f,.i t,EE zs u]++Zh (YB (ds.drop (k+1))))=Zh (Vy (ys++[Vn.mk f t zs u])++YB (ds.drop (k+1))):=by
 rw [Z7b,UL,UL,UR];rfl
theorem Zfy {ys:List VD} {ds:List Ye} {k:Nat} {xs:LI} {u:Value}:Zh (Ut ys)++([ZQ xs u]++Zh (XT (ds.drop (k+1))))=Zh (Ut (ys++[VD.mk xs u])++XT (ds.drop (k+1))):=by
 rw [Z7a,UL,UL,UR];rfl
theorem Zg0 {ys:List Vn} {ds:List Zf} {k:Nat} (h:ds.length<=k):Zh (Vy ys++YB (ds.drop k))=Zh (Vy ys):=by rw [Xq h];simp [YB]
theorem Zfx {ys:List VD} {ds:List Ye} {k:Nat} (h:ds.length<=k):Zh (Ut ys++XT (ds.drop k))=Zh (Ut ys):=by rw [Xq h];simp [XT]
theorem Zg2 {A B:List AV} {x y z x':AV} {o:Nat} (hA:A.length=o):(A++([x,y,z]++B)).take (o+2)++[x']++(A++([x,y,z]++B)).drop (o+2+1)=A++([x,y,x']++B):=by
 have h:=EU (A:=A++[x,y]) (xs:=[z]) (ys:=[x']) (B:=B) (o:=o+2) (by simp [hA]) rfl
 simpa using h
theorem Zg3 {A B:List AV} {x y z:AV} {o:Nat} (hA:A.length=o):((A++([x,y,z]++B)).drop (o+2)).take 1=[z]:=by
 have h:=Mn (A:=A++[x,y]) (xs:=[z]) (B:=B) (o:=o+2) (by simp [hA])
 simpa using h
theorem Zg4 {A B:List AV} {x y z x':AV} {o:Nat} (hA:A.length=o):(A++([x,y,z]++B)).set (o+2) x'=A++([x,y,x']++B):=by
 subst hA
 rw [List.set_append_right _ _ om]
 simp
theorem Z2z {f t:Int} {zs:List VD} {u:Value} {cs:List Ye} (h:zs.map VD.er=cs):[Vn.mk f t zs u].map Vn.er=[Zf.mk f t cs]:=by
 rw [<-h];rfl
theorem XJ.eta (y:XJ):XJ.mk y.steps y.sv y.result=y:=by cases y;rfl
theorem Zdt {xs:List V9} {rs:List Yh} {g:Yh->Yh} {k:Nat} {r:Yh} {R:V9} (h:xs.map V9.er=(rs.take k).map g) (hr:rs[k]? = some r) (hy:R.er=g r) :
  (xs++[R]).map V9.er=(rs.take (k+1)).map g:=by
 rw [List.map_append,h,V6 hr,List.map_append,VQ,hy];rfl
theorem Qh:∀(xs ys:List Z6),Yj (xs++ys)=Yj xs+Yj ys
 | [],ys=>by simp [Yj]
 | x::r,ys=>by rw [Q0,Yj,Yj,Qh r ys];omega
theorem NZ (op v:Int):(Zz op v).sz=2:=by rw [Zz,Z6.sz];simp [Xl]
theorem MK (op:Int):∀l:LI,Yj (l.map (Zz op))=2*l.length
 | []=>by simp [Yj]
 | x::r=>by rw [VQ,Yj,NZ,MK op r,YZ];omega
section
variable {ds:List Zf} (hd:Wv ds)
include hd
end
def J1:List Yh->Bool
 | []=>true
 | r::rs=>if UQ r.body<0 then false else J1 rs
def Ks (n:Zl):Bool:=J1 n.routines
def B1:Zl:=⟨[],[]⟩
theorem DZ {n:Zl} (hz:Vp n) (h:UJ n=true):X4 n/\VA n=true/\∀r∈n.routines,0<=YR n r.params r.body:=by
 rw [UJ,Wa] at h
 obtain ⟨h1,h2⟩:=HD hz h.1
 rw [V7,Wa] at h
 exact ⟨h1,h.1.1,h2⟩
section
variable {ds:List Zf} {cons first:LI}
end
section
variable {ds:List Zf} (hd:Wv ds)
include hd
end
def Ym:List Z6->Nat
 | []=>0
 | s::r=>if s.op=14∨s.op=15 then Ym r+1 else 0
def YT (op:Int):List Z6->LI
 | []=>[]
 | s::r=>if s.op=op then gI s.args 0::YT op r else YT op r
def UE:LI->Int->LI->LI->LI × LI
 | [],_,D,R=>(D,R)
 | f::r,q,D,R=>if f≠0/\q∈D then UE r (q+1) (D.erase q) R else if f≠0 then UE r (q+1) D (R++[q]) else UE r (q+1) D R
def UF (xs:List Z6) (x:Int) (fs:LI) (q:Int):LI × LI:=UE fs q (YT 14 (xs.take (Ym xs))) ((YT 15 (xs.take (Ym xs))).erase x)
def Vc (xs:List Z6) (x:Int) (fs:LI) (q:Int):List Z6:=
 if x∈YT 15 (xs.take (Ym xs))/\fs.length≠0 then (UF xs x fs q).1.map (Zz 14)++[Zz 16 x]++(UF xs x fs q).2.map (Zz 15)++xs.drop (Ym xs) else xs
def VR (b:Z7) (x:Int) (fs:LI) (q:Int):Z7:=.mk (Vc b.steps x fs q) b.result
theorem CD:∀xs:List Z6,Ym xs<=xs.length
 | []=>X5 _
 | s::r=>by have:=CD r;rw [Ym];split<;>simp<;>omega
theorem J8:∀{xs:List Z6} {s:Z6},s∈xs.take (Ym xs)->s.op=14∨s.op=15
 | [],s,h=>by simp [Ym] at h
 | t::r,s,h=>by
  rw [Ym] at h
  split at h
  ·rename_i q
   rw [C0] at h
   rcases YE.1 h with rfl|h
   ·exact q
   ·exact J8 h
  ·simp at h
theorem I4:∀xs:List Z6,(YT 14 xs).length+(YT 15 xs).length<=xs.length
 | []=>by simp [YT]
 | s::r=>by
  have:=I4 r
  rw [YT,YT]
  by_cases h:s.op=14
  ·rw [Zc h,Z5 om];simp;omega
  ·rw [Z5 h];split<;>simp<;>omega
theorem H8:∀(fs:LI) (q:Int) (D R:LI),(UE fs q D R).1.length+(UE fs q D R).2.length<=D.length+R.length+fs.length
 | [],q,D,R=>by simp [UE]
 | f::r,q,D,R=>by
  rw [UE,YZ]
  split
  ·have:=H8 r (q+1) (D.erase q) R
   have h2:=List.length_erase_le (a:=q) (l:=D)
   omega
  ·split
   ·have:=H8 r (q+1) D (R++[q])
    simp only [Ys,YZ,XL] at this
    omega
   ·have:=H8 r (q+1) D R
    omega
theorem Sm {xs:List Z6} {x:Int} {fs:LI} {q:Int} (h:x∈YT 15 (xs.take (Ym xs))) (hf:fs.length<=3):(UF xs x fs q).1.length+(UF xs x fs q).2.length<=Ym xs+2:=by
 have h1:=H8 fs q (YT 14 (xs.take (Ym xs))) ((YT 15 (xs.take (Ym xs))).erase x)
 have h2:=I4 (xs.take (Ym xs))
 have h3:=List.length_pos_of_mem h
 rw [List.length_erase_of_mem h] at h1
 rw [WT] at h2
 have h4:=CD xs
 unfold UF
 omega
theorem Zir (xs:List Z6) (k:Nat):Yj xs=Yj (xs.take k)+Yj (xs.drop k):=by rw [<-Qh,T8]
theorem Z1o:∀xs:List Z6,(∀s∈xs,2<=s.sz)->2*xs.length<=Yj xs
 | [],_=>by simp
 | s::r,h=>by
  have h1:=Z1o r fun t ht=>h t (Xo _ ht)
  have h2:=h s (Xc ..)
  rw [Yj,YZ];omega
theorem Z3o {xs:List Z6} {x:Int} {fs:LI} {q:Int} (hf:fs.length<=3) (h:∀s∈xs,s.op=14∨s.op=15->2<=s.sz):Yj (Vc xs x fs q)<=Yj xs+6:=by
 rw [Vc]
 split
 ·rename_i hc
  have h1:=Sm (q:=q) hc.1 hf
  have h2:=Z1o (xs.take (Ym xs)) fun s hs=>h s (Tu hs) (J8 hs)
  have h3:=Zir xs (Ym xs)
  have h4:=CD xs
  rw [WT] at h2
  rw [Qh,Qh,Qh,MK,MK,Yj,Yj,NZ]
  omega
 ·omega
def QY (L:LI) (v:Int):LI:=L.filter (· != v)
def Tm (m:Int):List Z6->LI->Bool->List Z6 × List Z6 × LI
 | [],L,_=>([],[],L)
 | s::r,L,d=>if s.op=14/\gI s.args 0∈L then Tm m r (QY L (gI s.args 0)) d else if s.op=14 then (s::(Tm m r L d).1,(Tm m r L d).2) else
  if (s.op=15/\gI s.args 0=m)/\¬d=true then Tm m r L true else ((Tm m r L d).1,s::(Tm m r L d).2.1,(Tm m r L d).2.2)
theorem P5:∀(L r:LI) (d:Int),L.foldl List.erase (d::r)=if d∈L then (L.erase d).foldl List.erase r else d::L.foldl List.erase r
 | [],r,d=>by simp
 | l::L,r,d=>by
  rw [List.foldl_cons]
  by_cases h:d=l
  ·subst h
   simp
  ·have h2:¬l=d:=fun e=>h e.symm
   rw [List.erase_cons_tail (by simpa using h),P5 L,List.erase_cons_tail (by simpa using h2)]
   simp only [YE,h,false_or,List.foldl_cons]
theorem Es:∀(fs:LI) (q:Int),(XC fs q).Pairwise (·<·)
 | [],_=>by simp [XC]
 | f::r,q=>by
  rw [XC]
  split
  ·refine Vk.2 ⟨fun a ha=>?_,Es r (q+1)⟩
   have:=Bw ha
   omega
  ·exact Es r (q+1)
theorem RU {L:LI} (h:L.Pairwise (·<·)):L.Nodup:=h.imp fun q e=>by omega
theorem Ze2 {L:LI} (h:L.Pairwise (·<·)) (v:Int):(QY L v).Pairwise (·<·):=h.filter _
theorem Zdz {L:LI} (h:L.Nodup) (v:Int):QY L v=L.erase v:=(h.erase_eq_filter v).symm
theorem Cz:∀(fs:LI) (q:Int) (D R:LI),UE fs q D R=((XC fs q).foldl List.erase D,R++(XC fs q).filter (fun v=>decide (v∉D)))
 | [],q,D,R=>by simp [UE,XC]
 | f::r,q,D,R=>by
  rw [UE]
  by_cases hf:f≠0
  ·have e:XC (f::r) q=q::XC r (q+1):=by rw [XC,Zc hf]
   rw [e]
   by_cases hq:q∈D
   ·rw [Zc ⟨hf,hq⟩,Cz r,List.foldl_cons,List.filter_cons_of_neg (by simpa using hq)]
    congr 2
    refine List.filter_congr fun v hv=>?_
    have h1:v≠q:=by have:=Bw hv;omega
    simp only [List.mem_erase_of_ne h1]
   ·rw [Z5 (fun z=>hq z.2),Zc hf,Cz r,List.foldl_cons,List.erase_of_not_mem hq,List.filter_cons_of_pos (by simpa using hq),UR]
    rfl
  ·have e:XC (f::r) q=XC r (q+1):=by rw [XC,Z5 hf]
   rw [e,Z5 (fun z=>hf z.1),Z5 hf,Cz r]
def Cn (s:Z6):Prop:=s=Zz s.op (gI s.args 0)
theorem F6 {m:Int}:∀{pre:List Z6} {L:LI} {d:Bool},L.Nodup->(∀s∈pre,(s.op=14∨s.op=15)/\Cn s) ->
  Tm m pre L d=((L.foldl List.erase (YT 14 pre)).map (Zz 14),(if d=true then YT 15 pre else (YT 15 pre).erase m).map (Zz 15),L.filter (fun v=>decide (v∉YT 14 pre)))
 | [],L,d,hL,h=>by
  have:∀L:LI,L.foldl List.erase []=[]:=fun L=>by induction L with
   | nil=>rfl
   | cons a L ih=>rw [List.foldl_cons];exact ih
  simp only [Tm,YT,this,A6,List.erase_nil,ite_self]
  exact Prod.ext rfl (Prod.ext rfl (List.filter_eq_self.2 (by simp)).symm)
 | s::r,L,d,hL,h=>by
  obtain ⟨ho,hc⟩:=h s (Xc ..)
  have hr:∀t∈r,(t.op=14∨t.op=15)/\Cn t:=fun t ht=>h t (Xo _ ht)
  rw [Tm]
  by_cases h14:s.op=14
  ·have e15:YT 15 (s::r)=YT 15 r:=by rw [YT,Z5 om]
   have e14:YT 14 (s::r)=gI s.args 0::YT 14 r:=by rw [YT,Zc h14]
   rw [e14,e15,P5]
   by_cases hm:gI s.args 0∈L
   ·rw [Zc ⟨h14,hm⟩,Zc hm,Zdz hL,F6 (hL.erase _) hr]
    congr 2
    rw [hL.erase_eq_filter,List.filter_filter]
    refine List.filter_congr fun v hv=>?_
    by_cases hv1:v=gI s.args 0<;>by_cases hv2:v∈YT 14 r<;>simp [hv1,hv2]
   ·rw [Z5 (fun z=>hm z.2),Zc h14,Z5 hm,F6 hL hr]
    refine Prod.ext ?_ (Prod.ext rfl ?_)
    ·show s::_=List.map (Zz 14) (_::_)
     rw [VQ,<-h14]
     congr 1
    ·refine List.filter_congr fun v hv=>?_
     have:v≠gI s.args 0:=fun e=>hm (e▸hv)
     simp [this]
  ·have h15:s.op=15:=by omega
   have e15:YT 15 (s::r)=gI s.args 0::YT 15 r:=by rw [YT,Zc h15]
   have e14:YT 14 (s::r)=YT 14 r:=by rw [YT,Z5 h14]
   rw [e14,e15,Z5 (fun z=>h14 z.1),Z5 h14]
   by_cases hm:(s.op=15/\gI s.args 0=m)/\¬d=true
   ·rw [Zc hm,F6 hL hr,Zc rfl,Z5 hm.2,<-hm.1.2,List.erase_cons_head]
   ·rw [Z5 hm,F6 hL hr]
    refine Prod.ext rfl (Prod.ext ?_ rfl)
    show s::_=List.map (Zz 15) _
    by_cases hd:d=true
    ·rw [Zc hd,Zc hd,VQ,<-h15];congr 1
    ·have hn:gI s.args 0≠m:=fun e=>hm ⟨⟨h15,e⟩,hd⟩
     rw [Z5 hd,Z5 hd,List.erase_cons_tail (by simpa using hn),VQ,<-h15];congr 1
theorem Zhk {xs:List Z6} {m:Int} {fs:LI} {q:Int} (hc:∀s∈xs,YF s.op=true->Cn s) (h1:m∈YT 15 (xs.take (Ym xs))) (h2:fs.length≠0) {W:List Z6 × List Z6 × LI} (hW:W=Tm m (xs.take (Ym xs)) (XC fs q) false) :
  W.1++[Zz 16 m]++W.2.1++W.2.2.map (Zz 15)++xs.drop (Ym xs)=Vc xs m fs q:=by
 rw [F6 (RU (Es fs q)) fun s hs=>⟨J8 hs,hc s (Tu hs) (by rw [YF];have:=J8 hs;simp;omega)⟩] at hW
 subst hW
 have e:Vc xs m fs q=_:=Zc ⟨h1,h2⟩
 rw [e,UF,Cz]
 simp
theorem Nk {xs:List Z6} {m:Int} {fs:LI} {q:Int} (h:¬(m∈YT 15 (xs.take (Ym xs))/\fs.length≠0)):Vc xs m fs q=xs:=Z5 h
end Go.Abs
section
namespace Go.Abs
mutual
def UP (ds:List Zf) (m:Nat):Z6->Z6
 | .mk op num into args kids=>.mk op num into args (Wd ds m op num args kids 0)
def Wd (ds:List Zf) (m:Nat) (op num:Int) (args:LI):List Z7->Nat->List Z7
 | [],_=>[]
 | b::r,k=>(if op=8 then VR (Xz ds (m+(Q9 ds num k).length) b) (gI args 0) (Q9 ds num k) m else Xz ds m b)::Wd ds m op num args r (k+1)
def W7 (ds:List Zf) (m:Nat):List Z6->List Z6
 | []=>[]
 | s::r=>UP ds m s::W7 ds (if YF s.op=true then m else m+1) r
def Xz (ds:List Zf) (m:Nat):Z7->Z7
 | .mk steps result=>.mk (W7 ds m steps) result
end
def Jb (ds:List Zf) (m:Nat) (op num:Int) (args:LI) (k:Nat) (b:Z7):Z7:=if op=8 then VR (Xz ds (m+(Q9 ds num k).length) b) (gI args 0) (Q9 ds num k) m else Xz ds m b
theorem BK (ds:List Zf) (m:Nat) (s:Z6):UP ds m s=.mk s.op s.num s.into s.args (Wd ds m s.op s.num s.args s.kids 0):=by cases s;rw [UP];rfl
theorem CF (ds:List Zf) (m:Nat) (b:Z7):Xz ds m b=.mk (W7 ds m b.steps) b.result:=by cases b;rw [Xz];rfl
section
variable {ds:List Zf} {m:Nat}
theorem Z12 {xs acc r:List Z6} {k:Nat} {s:Z6} (h:xs[k]? = some s) (ha:acc++W7 ds m (xs.drop k)=r) :
  (acc++[.mk s.op s.num s.into s.args (Wd ds m s.op s.num s.args s.kids 0)])++W7 ds (if YF s.op=true then m else m+1) (xs.drop (k+1))=r:=by
 rw [Y6 h,W7,BK] at ha
 rw [<-ha];simp
theorem Z11 {xs acc r:List Z6} {k:Nat} (h:xs.length<=k) (ha:acc++W7 ds m (xs.drop k)=r):acc=r:=by
 rw [Xq h,W7,Jf] at ha;exact ha
theorem F5 {op num:Int} {args:LI} {bs acc r:List Z7} {k:Nat} {b:Z7} (h:bs[k]? = some b) (ha:acc++Wd ds m op num args (bs.drop k) k=r) :
  (acc++[Jb ds m op num args k b])++Wd ds m op num args (bs.drop (k+1)) (k+1)=r:=by
 rw [Y6 h,Wd] at ha
 rw [<-ha,Jb];simp
theorem Z0p {op num:Int} {args:LI} {bs acc r:List Z7} {k j:Nat} (h:bs.length<=k) (ha:acc++Wd ds m op num args (bs.drop k) j=r):acc=r:=by
 rw [Xq h,Wd,Jf] at ha;exact ha
end
mutual
def wS (ds:List Zf):Z6->Prop
 | .mk op num into args kids=>(W5 op=!YF op)/\(YF op=true->num=0/\into=0/\kids=[]/\∃a,args=[a])/\(op=8->(∃a,args=[a]/\0<=a/\a<=900000000)/\kids.length=(ZV ds num).length)/\QF ds kids
def QF (ds:List Zf):List Z7->Prop
 | []=>True
 | b::r=>wB ds b/\QF ds r
def Ub (ds:List Zf):List Z6->Prop
 | []=>True
 | s::r=>wS ds s/\Ub ds r
def wB (ds:List Zf):Z7->Prop
 | .mk steps _=>Ub ds steps
end
section
variable {ds:List Zf}
theorem BT (s:Z6):wS ds s↔(W5 s.op=!YF s.op)/\(YF s.op=true->s.num=0/\s.into=0/\s.kids=[]/\∃a,s.args=[a])/\(s.op=8->(∃a,s.args=[a]/\0<=a/\a<=900000000)/\s.kids.length=(ZV ds s.num).length)/\QF ds s.kids:=by cases s;rw [wS];rfl
theorem Jd (b:Z7):wB ds b↔Ub ds b.steps:=by cases b;rw [wB];rfl
theorem CJ:∀{xs:List Z6},Ub ds xs↔∀s∈xs,wS ds s
 | []=>by simp [Ub]
 | s::r=>by rw [Ub,CJ];simp
theorem Z2o:∀{xs:List Z7},QF ds xs↔∀s∈xs,wB ds s
 | []=>by simp [QF]
 | s::r=>by rw [QF,Z2o];simp
theorem Z2m {b:Z7} {k:Nat} {s:Z6} (h:wB ds b) (hs:b.steps[k]? = some s):wS ds s:=CJ.1 ((Jd b).1 h) s (Y3 hs)
theorem HH {s:Z6} {k:Nat} {b:Z7} (h:wS ds s) (hb:s.kids[k]? = some b):wB ds b:=Z2o.1 ((BT s).1 h).2.2.2 b (Y3 hb)
theorem Fo {s:Z6} (h:wS ds s) (hc:YF s.op=true):Cn s/\s.kids=[]/\∃a,s.args=[a]:=by
 obtain ⟨h1,h2,h3,a,h4⟩:=((BT s).1 h).2.1 hc
 refine ⟨?_,h3,a,h4⟩
 cases s with
 | mk op num into args kids=>
  simp only [Z6.num,Z6.into,Z6.kids,Z6.args] at h1 h2 h3 h4
  subst h1 h2 h3 h4
  rfl
theorem MX {op v:Int} (h:op=14∨op=15∨op=16):wS ds (Zz op v):=(BT _).2 ⟨by show W5 op=!YF op;rcases h with rfl|rfl|rfl<;>rfl,fun _=>⟨rfl,rfl,rfl,v,rfl⟩,fun e=>absurd e (show op≠8 by omega),True.intro⟩
theorem MY {s:Z6} (h:wS ds s):W5 s.op=!YF s.op:=((BT s).1 h).1
theorem Fp {s:Z6} (h:wS ds s) (h8:s.op=8):(∃a,s.args=[a]/\0<=a/\a<=900000000)/\s.kids.length=(ZV ds s.num).length:=((BT s).1 h).2.2.1 h8
theorem Fv {xs:List Z6} (h:Ub ds xs):∀s∈xs,YF s.op=true->Cn s:=fun s hs hc=>(Fo (CJ.1 h s hs) hc).1
theorem Zko {xs:List Z6} {x:Int} {fs:LI} {q:Int} (h:Ub ds xs):Ub ds (Vc xs x fs q):=by
 rw [Vc]
 split
 ·rw [CJ]
  intro s hs
  simp only [Xj,XF,XI] at hs
  rcases hs with ((⟨a,_,rfl⟩|rfl)|⟨a,_,rfl⟩)|hs
  ·exact MX om
  ·exact MX om
  ·exact MX om
  ·exact CJ.1 h s (List.mem_of_mem_drop hs)
 ·exact h
theorem HG {b:Z7} {x:Int} {fs:LI} {q:Int} (h:wB ds b):wB ds (VR b x fs q):=by
 rw [VR,Jd];exact Zko ((Jd b).1 h)
end
section
variable {n:Zl}
theorem Ze8 {us:LI} {s:Z6} (g:0<=ZZ n us s) (h:YF s.op=true):s.num=0/\s.into=0/\s.kids=[]:=by
 have ho:14<=s.op/\s.op<=17:=by simpa [YF] using h
 rw [A0] at g
 split at g
 ·omega
 ·rename_i q
  refine ⟨BV fun z=>q (.inl ⟨z,?_⟩),BV fun z=>q (.inr (.inl ?_)),BV fun z=>q (.inr (.inr ⟨Fs.2 z,by omega,by omega⟩))⟩
  ·rw [VE];simp;omega
  ·rw [Ua,Z5 z,Z5 om];simp
mutual
theorem Zkp:∀(s:Z6) {us:LI},us.length+4*s.sz<=900000000->Wv n.decls->0<=ZZ n us s->wS n.decls s
 | .mk op num into args kids,us,hu,hd,g=>by
  have hf:=B9 g
  rw [wS]
  refine ⟨E7 g,fun hc=>?_,fun h8=>?_,?_⟩
  ·obtain ⟨h1,h2,h3⟩:=Ze8 g hc
   have ho:14<=op/\op<=17:=by simpa [YF] using hc
   exact ⟨h1,h2,h3,hf.one (.inr (.inr ho))⟩
  ·obtain ⟨k1,k2,k3⟩:=hf.kids (.inr h8)
   obtain ⟨a,ha⟩:=hf.one (.inr (.inl h8))
   have hb:=hf.args a (by rw [ha];exact XI.2 rfl)
   refine ⟨⟨a,ha,hb.1,by omega⟩,?_⟩
   have e:X7 n.decls op num=(ZV n.decls num).map (ZX n.decls):=by rw [X7,Z5 om]
   have k1':kids.length=(X7 n.decls op num).length:=k1
   rw [k1',e,Q2]
  ·refine Z2p kids hd fun i b hb=>?_
   have hl:0<kids.length:=by have:=(Xs.1 hb).1;omega
   obtain ⟨k1,k2,k3⟩:=hf.kids (Zcx g hl)
   have k1':kids.length=(X7 n.decls op num).length:=k1
   have hi:=(Xs.1 hb).1
   obtain ⟨mk,hmk⟩:=QN (xs:=X7 n.decls op num) (j:=i) om
   have hk3:=DX hd hmk
   have ZO:=NJ hb
   rw [Z6.sz] at hu
   exact ⟨us++mk,by rw [Ys];omega,k3 i b mk hb hmk⟩
theorem Z2p:∀(bs:List Z7),Wv n.decls->(∀(i:Nat) (b:Z7),bs[i]? = some b->∃us:LI,us.length+4*b.sz<=900000000/\0<=YR n us b)->QF n.decls bs
 | [],_,_=>True.intro
 | b::r,hd,h=>by
  obtain ⟨us,hq,hu⟩:=h 0 b rfl
  exact ⟨Z2n b hq hd hu,Z2p r hd fun i x hx=>h (i+1) x (by simpa using hx)⟩
theorem Z2s:∀(xs:List Z6) {us vs:LI},us.length+4*Yj xs<=900000000->Wv n.decls->Xi n xs us=some vs->Ub n.decls xs
 | [],_,_,_,_,_=>True.intro
 | s::r,us,vs,hu,hd,h=>by
  obtain ⟨g1,g2⟩:=CH h
  rw [Yj] at hu
  have h1:=s.sz_pos
  have h2:=EY n us s
  exact ⟨Zkp s om hd g1,Z2s r om hd g2⟩
theorem Z2n:∀(b:Z7) {us:LI},us.length+4*b.sz<=900000000->Wv n.decls->0<=YR n us b->wB n.decls b
 | .mk steps result,us,hu,hd,h=>by
  obtain ⟨fvs,t0,hvs,_,_⟩:=C9 h
  rw [Z7.sz] at hu
  rw [wB];exact Z2s steps om hd hvs
end
end
mutual
def Z6.pz:Z6->Nat
 | .mk _ _ _ args kids=>1+args.length+J6 kids
def Z7.pz:Z7->Nat
 | .mk steps _=>1+VP steps
def VP:List Z6->Nat
 | []=>0
 | s::r=>s.pz+VP r
def J6:List Z7->Nat
 | []=>0
 | b::r=>b.pz+8+J6 r
end
theorem Z6.pz_eq (s:Z6):s.pz=1+s.args.length+J6 s.kids:=by cases s;rw [Z6.pz];rfl
theorem Z7.pz_eq (b:Z7):b.pz=1+VP b.steps:=by cases b;rw [Z7.pz];rfl
theorem ER:∀xs ys:List Z6,VP (xs++ys)=VP xs+VP ys
 | [],ys=>by simp [VP]
 | x::r,ys=>by rw [Q0,VP,VP,ER r ys];omega
theorem NY (op v:Int):(Zz op v).pz=2:=by rw [Zz,Z6.pz];simp [J6]
theorem Mf (op:Int):∀l:LI,VP (l.map (Zz op))=2*l.length
 | []=>by simp [VP]
 | x::r=>by rw [VQ,VP,NY,Mf op r,YZ];omega
theorem Zfc {l:List Z6} {k:Nat} {s:Z6} (h:l[k]? = some s):k+s.pz<=VP l:=by
 induction l generalizing k with
 | nil=>simp at h
 | cons t r ih=>
  have ht:=t.pz_eq
  cases k with
  | zero=>simp at h;subst h;simp only [VP];omega
  | succ k=>have:=ih (k:=k) (by simpa using h);simp only [VP];omega
theorem Zfb {l:List Z7} {k:Nat} {b:Z7} (h:l[k]? = some b):k+b.pz+8<=J6 l:=by
 induction l generalizing k with
 | nil=>simp at h
 | cons t r ih=>
  cases k with
  | zero=>simp at h;subst h;simp only [J6];omega
  | succ k=>have:=ih (k:=k) (by simpa using h);simp only [J6];omega
theorem Zfg {b:Z7} {k:Nat} {s:Z6} (h:b.steps[k]? = some s):k+s.pz<b.pz:=by have:=Zfc h;have:=b.pz_eq;omega
theorem Zfe {s:Z6} {k:Nat} {b:Z7} (h:s.kids[k]? = some b):k+b.pz+8<s.pz:=by have:=Zfb h;have:=s.pz_eq;omega
theorem SA:∀xs:List Z6,xs.length<=VP xs
 | []=>X5 _
 | s::r=>by have:=SA r;have:=s.pz_eq;rw [VP,YZ];omega
theorem Sy:∀xs:List Z7,xs.length<=J6 xs
 | []=>X5 _
 | s::r=>by have:=Sy r;rw [J6,YZ];omega
theorem SD (b:Z7):b.steps.length<b.pz:=by have:=SA b.steps;have:=b.pz_eq;omega
theorem Zfd (s:Z6):s.args.length<s.pz:=by have:=s.pz_eq;omega
theorem Zff (s:Z6):s.kids.length<s.pz:=by have:=Sy s.kids;have:=s.pz_eq;omega
mutual
theorem Z6.pz_le:∀s:Z6,s.pz<=9*s.sz
 | .mk _ _ _ args kids=>by have:=Sx kids;rw [Z6.pz,Z6.sz];omega
theorem Z7.pz_le:∀b:Z7,b.pz+8<=9*b.sz
 | .mk steps _=>by have:=Sz steps;rw [Z7.pz,Z7.sz];omega
theorem Sz:∀xs:List Z6,VP xs<=9*Yj xs
 | []=>A8 _
 | s::r=>by have:=s.pz_le;have:=Sz r;rw [VP,Yj];omega
theorem Sx:∀xs:List Z7,J6 xs<=9*Xl xs
 | []=>A8 _
 | s::r=>by have:=s.pz_le;have:=Sx r;rw [J6,Xl];omega
end
theorem SB:∀xs:List Z6,(∀s∈xs,2<=s.pz)->2*xs.length<=VP xs
 | [],_=>by simp
 | s::r,h=>by
  have h1:=SB r fun t ht=>h t (Xo _ ht)
  have h2:=h s (Xc ..)
  rw [VP,YZ];omega
section
variable {ds:List Zf}
theorem CY {op:Int} (h:op=14∨op=15):YF op=true:=by rw [YF];simp;omega
theorem Z3m {xs:List Z6} {x:Int} {fs:LI} {q:Int} (hf:fs.length<=3) (h:Ub ds xs):VP (Vc xs x fs q)<=VP xs+6:=by
 rw [Vc]
 split
 ·rename_i hc
  have h1:=Sm (q:=q) hc.1 hf
  have h2:=SB (xs.take (Ym xs)) fun s hs=>by
   obtain ⟨_,_,a,ha⟩:=Fo (CJ.1 h s (Tu hs)) (CY (J8 hs))
   rw [s.pz_eq,ha];simp
  have h3:VP xs=VP (xs.take (Ym xs))+VP (xs.drop (Ym xs)):=by rw [<-ER,T8]
  have h4:=CD xs
  rw [WT] at h2
  rw [ER,ER,ER,Mf,Mf,VP,VP,NY]
  omega
 ·omega
theorem AG {b:Z7} {x:Int} {fs:LI} {q:Int} (hf:fs.length<=3) (h:wB ds b):(VR b x fs q).pz<=b.pz+6:=by
 have:=Z3m (x:=x) (q:=q) hf ((Jd b).1 h)
 rw [VR,Z7.pz,b.pz_eq];omega
theorem Zhq {xs:List Z6}:∀{m:Nat},Ub ds xs->∀s∈W7 ds m xs,s.op=14∨s.op=15->2<=s.sz:=by
 induction xs with
 | nil=>intro m _ s hs;simp [W7] at hs
 | cons t r ih=>
  intro m h s hs ho
  rw [W7] at hs
  rcases YE.1 hs with rfl|hs
  ·rw [BK] at ho ⊢
   obtain ⟨_,_,a,ha⟩:=Fo h.1 (CY ho)
   rw [Z6.sz,ha];simp
  ·exact ih h.2 s hs ho
variable (hd:Wv ds)
include hd
mutual
theorem Zhi:∀(s:Z6) {m:Nat},wS ds s->(UP ds m s).sz<=s.pz
 | .mk op num into args kids,m,h=>by
  have:=Z0q kids (m:=m) (op:=op) (num:=num) (args:=args) (k:=0) h.2.2.2
  rw [UP,Z6.sz,Z6.pz];omega
theorem Z0q:∀(bs:List Z7) {m:Nat} {op num:Int} {args:LI} {k:Nat},QF ds bs->Xl (Wd ds m op num args bs k)<=J6 bs
 | [],_,_,_,_,_,_=>X5 _
 | b::r,m,op,num,args,k,h=>by
  have h2:=Z0q r (m:=m) (op:=op) (num:=num) (args:=args) (k:=k+1) h.2
  rw [Wd,Xl,J6]
  split
  ·have h1:=F4 b (m:=m+(Q9 ds num k).length) h.1
   have h3:=Z3o (xs:=(Xz ds (m+(Q9 ds num k).length) b).steps) (x:=gI args 0) (q:=(m:Int)) (IU hd num k) (by rw [CF];exact Zhq ((Jd b).1 h.1))
   rw [VR,Z7.sz]
   rw [Z7.sz_eq] at h1
   omega
  ·have h1:=F4 b (m:=m) h.1
   omega
theorem Z0v:∀(xs:List Z6) {m:Nat},Ub ds xs->Yj (W7 ds m xs)<=VP xs
 | [],_,_=>X5 _
 | s::r,m,h=>by
  have h1:=Zhi s (m:=m) h.1
  have h2:=Z0v r (m:=if YF s.op=true then m else m+1) h.2
  rw [W7,Yj,VP];omega
theorem F4:∀(b:Z7) {m:Nat},wB ds b->(Xz ds m b).sz<=b.pz
 | .mk steps result,m,h=>by
  have:=Z0v steps (m:=m) h
  rw [Xz,Z7.sz,Z7.pz];omega
end
end
section
variable {ds:List Zf} {m:Nat}
theorem Zhh {s:Z6} (h:s.kids=[]):UP ds m s=s:=by
 rw [BK,h,Wd]
 cases s with
 | mk op num into args kids=>simp only [Z6.kids] at h;subst h;rfl
theorem ME {rest:List Z6}:∀{pre:List Z6},(∀s∈pre,YF s.op=true/\s.kids=[])->W7 ds m (pre++rest)=pre++W7 ds m rest
 | [],_=>rfl
 | s::r,h=>by
  obtain ⟨h1,h2⟩:=h s (Xc ..)
  rw [Q0,W7,Zhh h2,Zc h1,ME fun t ht=>h t (Xo _ ht),Q0]
theorem Z0u {xs:List Z6} (h:Ub ds xs):W7 ds m xs=xs.take (Ym xs)++W7 ds m (xs.drop (Ym xs)):=by
 have:=ME (ds:=ds) (m:=m) (rest:=xs.drop (Ym xs)) (pre:=xs.take (Ym xs)) fun s hs=>by
  have h1:=CY (J8 hs)
  exact ⟨h1,(Fo (CJ.1 h s (Tu hs)) h1).2.1⟩
 rw [T8] at this
 exact this
theorem Mp:∀(xs:List Z6) {m:Nat},Ym (W7 ds m xs)=Ym xs
 | [],_=>rfl
 | s::r,m=>by
  have e:(UP ds m s).op=s.op:=by rw [BK];rfl
  rw [W7,Ym,Ym,e,Mp r]
theorem Zho {xs:List Z6} {x:Int} {fs:LI} {q:Int} (h:Ub ds xs):W7 ds m (Vc xs x fs q)=Vc (W7 ds m xs) x fs q:=by
 have hl:(xs.take (Ym xs)).length=Ym xs:=by rw [WT];have:=CD xs;omega
 have ht:(W7 ds m xs).take (Ym xs)=xs.take (Ym xs):=by
  rw [Z0u h,List.take_append_of_le_length om,List.take_take,Nat.min_self]
 have hr:(W7 ds m xs).drop (Ym xs)=W7 ds m (xs.drop (Ym xs)):=by
  rw [Z0u h,List.drop_append_of_le_length om,List.drop_take,Nat.sub_self];rfl
 have e:Vc (W7 ds m xs) x fs q=if x∈YT 15 (xs.take (Ym xs))/\fs.length≠0 then (UF xs x fs q).1.map (Zz 14)++[Zz 16 x]++(UF xs x fs q).2.map (Zz 15)++W7 ds m (xs.drop (Ym xs)) else W7 ds m xs:=by
  rw [Vc,Mp,ht,hr,UF,Mp,ht];rfl
 rw [e,Vc]
 split
 ·refine ME fun s hs=>?_
  simp only [Xj,XF,XI] at hs
  rcases hs with (⟨a,_,rfl⟩|rfl)|⟨a,_,rfl⟩<;>exact ⟨rfl,rfl⟩
 ·rfl
theorem Ho {b:Z7} {x:Int} {fs:LI} {q:Int} (h:wB ds b):Xz ds m (VR b x fs q)=VR (Xz ds m b) x fs q:=by
 rw [VR,Xz,Zho ((Jd b).1 h),VR,CF];rfl
end
def T3 (ds:List Zf) (r:Yh):Yh:=⟨r.params,r.lent,r.result,Xz ds r.params.length r.body⟩
def WZ (n:Zl):Zl:=⟨n.decls,n.routines.map (T3 n.decls)⟩
def Yo (n:Zl):Zl × Bool:=if UJ n=true then (if Ks (WZ n)=true then (WZ n,true) else (B1,false)) else (B1,false)
theorem Fl {n:Zl} (hn:X4 n) (hz:Vp n) (hbt:∀r∈n.routines,0<=YR n r.params r.body):∀r∈n.routines,wB n.decls r.body:=fun r hr=>Z2n r.body (by have:=hz.body r hr;have:=hn.params r hr;omega) hn.decls (hbt r hr)
theorem Z0s {n:Zl} (hn:X4 n) (hz:Vp n) (hbt:∀r∈n.routines,0<=YR n r.params r.body):∀r∈(WZ n).routines,r.body.sz<=1000000000:=by
 intro r hr
 obtain ⟨q,hq,rfl⟩:=XF.1 hr
 have h1:=F4 hn.decls q.body (m:=q.params.length) (Fl hn hz hbt q hq)
 have h2:=hz.body q hq
 have h3:=q.body.pz_le
 show (Xz n.decls q.params.length q.body).sz<=1000000000
 omega
end Go.Abs
namespace Go.Abs
theorem Z04 {xs:List Z6} {k:Nat} {s:Z6} {r:Nat} (h:xs[k]? = some s) (hs:s.op=14∨s.op=15) (ha:k+Ym (xs.drop k)=r):k+1+Ym (xs.drop (k+1))=r:=by
 rw [Y6 h,Ym,Zc hs] at ha;omega
theorem Z05 {xs:List Z6} {k:Nat} {s:Z6} {r:Nat} (h:xs[k]? = some s) (hs:¬(s.op=14∨s.op=15)) (ha:k+Ym (xs.drop k)=r):k=r:=by
 rw [Y6 h,Ym,Z5 hs] at ha;omega
theorem Z03 {xs:List Z6} {k:Nat} {r:Nat} (h:xs.length<=k) (ha:k+Ym (xs.drop k)=r):k=r:=by
 rw [Xq h,Ym] at ha;omega
theorem Z42 {op:Int} {xs:List Z6} {acc r:LI} {k:Nat} {s:Z6} (h:xs[k]? = some s) (hs:s.op=op) (ha:acc++YT op (xs.drop k)=r):(acc++[gI s.args 0])++YT op (xs.drop (k+1))=r:=by
 rw [Y6 h,YT,Zc hs] at ha;rw [<-ha];simp
theorem Z40 {op:Int} {xs:List Z6} {acc r:LI} {k:Nat} {s:Z6} (h:xs[k]? = some s) (hs:¬s.op=op) (ha:acc++YT op (xs.drop k)=r):acc++YT op (xs.drop (k+1))=r:=by
 rw [Y6 h,YT,Z5 hs] at ha;exact ha
theorem Z3z {op:Int} {xs:List Z6} {acc r:LI} {k:Nat} (h:xs.length<=k) (ha:acc++YT op (xs.drop k)=r):acc=r:=by
 rw [Xq h,YT,Jf] at ha;exact ha
theorem Z7u {xs acc r:LI} {y:Int} {k:Nat} {x:Int} {d:Bool} (h:xs[k]? = some x) (ha:acc++(if d=true then xs.drop k else (xs.drop k).erase y)=r) :
  (if x=y/\¬d=true then acc else acc++[x])++(if ((x==y&&!d)||d)=true then xs.drop (k+1) else (xs.drop (k+1)).erase y)=r:=by
 rw [Y6 h] at ha
 rw [<-ha]
 by_cases hd:d=true
 ·simp [hd]
 ·by_cases hx:x=y
  ·simp [hd,hx]
  ·rw [Z5 (fun z=>hx z.1),Z5 hd,List.erase_cons_tail (by simpa using hx)]
   simp [hd,hx]
theorem Z7t {xs acc r:LI} {y:Int} {k:Nat} {d:Bool} (h:xs.length<=k) (ha:acc++(if d=true then xs.drop k else (xs.drop k).erase y)=r):acc=r:=by
 rw [Xq h] at ha;simpa using ha
section
variable {fs D R:LI} {q k:Nat} {f:Int} {r:LI × LI}
theorem Zeu (h:fs[k]? = some f) (h0:f≠0) (hm:((q+k:Nat):Int)∈D) (ha:UE (fs.drop k) (q+k) D R=r):UE (fs.drop (k+1)) (q+((k+1:Nat):Int)) (D.erase ((q+k:Nat):Int)) R=r:=by
 rw [Y6 h,UE,Zc ⟨h0,by rw [<-Int.natCast_add];exact hm⟩,<-Int.natCast_add] at ha
 rw [<-ha];congr 1
theorem Zev (h:fs[k]? = some f) (h0:f≠0) (hm:¬((q+k:Nat):Int)∈D) (ha:UE (fs.drop k) (q+k) D R=r):UE (fs.drop (k+1)) (q+((k+1:Nat):Int)) D (R++[((q+k:Nat):Int)])=r:=by
 rw [Y6 h,UE,Z5 (fun z=>hm (by rw [Int.natCast_add];exact z.2)),Zc h0,<-Int.natCast_add] at ha
 rw [<-ha];congr 1
theorem Zew (h:fs[k]? = some f) (h0:¬f≠0) (ha:UE (fs.drop k) (q+k) D R=r):UE (fs.drop (k+1)) (q+((k+1:Nat):Int)) D R=r:=by
 rw [Y6 h,UE,Z5 (fun z=>h0 z.1),Z5 h0] at ha
 rw [<-ha];congr 1
theorem Zet (h:fs.length<=k) (ha:UE (fs.drop k) (q+k) D R=r):r=(D,R):=by
 rw [Xq h,UE] at ha;exact ha.symm
end
theorem Z3r {xs:List Z6} {x:Int} {fs:LI} {q:Int} {D R:LI} (h1:x∈YT 15 (xs.take (Ym xs))) (h2:fs.length≠0) (hr:UF xs x fs q=(D,R)):D.map (Zz 14)++[Zz 16 x]++R.map (Zz 15)++xs.drop (Ym xs)=Vc xs x fs q:=by
 rw [Vc,Zc ⟨h1,h2⟩,hr]
theorem Zhm {ds:List Zf} {xs:List Z6}:∀{m:Nat},Ub ds xs->∀s∈W7 ds m xs,YF s.op=true->∃a,s.args=[a]:=by
 induction xs with
 | nil=>intro m _ s hs;simp [W7] at hs
 | cons t r ih=>
  intro m h s hs ho
  rw [W7] at hs
  rcases YE.1 hs with rfl|hs
  ·rw [BK] at ho ⊢
   exact (Fo h.1 ho).2.2
  ·exact ih h.2 s hs ho
end Go.Abs
end
namespace Go.Abs
theorem H1 {op m:Int}:∀{xs:List Z6},m∈YT op xs↔∃s∈xs,s.op=op/\gI s.args 0=m
 | []=>by simp [YT]
 | s::r=>by
  rw [YT]
  by_cases h:s.op=op
  ·rw [Zc h,YE,H1]
   constructor
   ·rintro (rfl|⟨t,ht,h1,h2⟩)
    ·exact ⟨s,Xc ..,h,rfl⟩
    ·exact ⟨t,Xo _ ht,h1,h2⟩
   ·rintro ⟨t,ht,h1,h2⟩
    rcases YE.1 ht with rfl|ht
    ·exact .inl h2.symm
    ·exact .inr ⟨t,ht,h1,h2⟩
  ·rw [Z5 h,H1]
   constructor
   ·rintro ⟨t,ht,h1⟩;exact ⟨t,Xo _ ht,h1⟩
   ·rintro ⟨t,ht,h1,h2⟩
    rcases YE.1 ht with rfl|ht
    ·exact absurd h1 h
    ·exact ⟨t,ht,h1,h2⟩
theorem N4 {s:Z6} (h:Cn s):∃a,s.args=[a]:=⟨gI s.args 0,by have:=Yv Z6.args h;exact this⟩
theorem Z41 {op m:Int} {xs:List Z6} {k:Nat} (h:∀s∈xs.take k,¬(s.op=op/\gI s.args 0=m)) (hk:xs.length<=k):¬m∈YT op xs:=by
 rw [Vw hk] at h
 intro z
 obtain ⟨s,hs,h1,h2⟩:=H1.1 z
 exact h s hs ⟨h1,h2⟩
theorem Zjs {α:Type} {xs:List α} {k:Nat} {x:α} {p:α->Prop} (hx:xs[k]? = some x) (h:∀s∈xs.take k,p s) (hp:p x):∀s∈xs.take (k+1),p s:=by
 rw [V6 hx]
 intro s hs
 rcases Xj.1 hs with hs|hs
 ·exact h s hs
 ·rw [XI.1 hs];exact hp
theorem Ze0 {xs acc r:LI} {v:Int} {k:Nat} {x:Int} (h:xs[k]? = some x) (ha:acc++QY (xs.drop k) v=r):(if (x != v)=true then acc++[x] else acc)++QY (xs.drop (k+1)) v=r:=by
 rw [Y6 h,QY] at ha
 rw [<-ha,QY]
 by_cases hx:x=v
 ·simp [hx]
 ·simp [hx]
theorem Zdy {xs acc r:LI} {v:Int} {k:Nat} (h:xs.length<=k) (ha:acc++QY (xs.drop k) v=r):acc=r:=by
 rw [Xq h,QY,List.filter_nil,Jf] at ha;exact ha
section
variable {xs:LI} {v:Int} {lo hi:Nat}
theorem Z4v {m:Nat} {y:Int} (hs:xs.Pairwise (·<·)) (hy:xs[m]? = some y) (hv:y<v):∀(j:Nat) (x:Int),j<m+1->xs[j]? = some x->x<v:=by
 intro j x hj hx
 rcases JN j m with h|h
 ·have hm:=(Xs.1 hy).1
  have:=List.pairwise_iff_getElem.1 hs j m om hm h
  rw [Q1 om] at hx
  rw [Q1 hm] at hy
  have e1:=UT hx
  have e2:=UT hy
  omega
 ·have:j=m:=by omega
  subst this;rw [hx] at hy;cases hy;exact hv
theorem Z4u {m:Nat} {y:Int} (hs:xs.Pairwise (·<·)) (hy:xs[m]? = some y) (hv:¬y<v):∀(j:Nat) (x:Int),m<=j->xs[j]? = some x->v<=x:=by
 intro j x hj hx
 rcases JN m j with h|h
 ·have hm:=(Xs.1 hx).1
  have:=List.pairwise_iff_getElem.1 hs m j om hm h
  rw [Q1 hm] at hx
  rw [Q1 om] at hy
  have e1:=UT hx
  have e2:=UT hy
  omega
 ·have:j=m:=by omega
  subst this;rw [hx] at hy;cases hy;omega
theorem Z4w (hs:xs.Pairwise (·<·)) (h1:∀(j:Nat) (x:Int),j<lo->xs[j]? = some x->x<v) (h2:∀(j:Nat) (x:Int),lo<=j->xs[j]? = some x->v<=x) {y:Int} (hy:xs[lo]? = some y) (hn:y≠v):¬v∈xs:=by
 intro hv
 obtain ⟨j,hj⟩:=Fq hv
 rcases JN j lo with h|h
 ·have:=h1 j v h hj;omega
 ·have hm:=h2 lo y (X5 _) hy
  rcases JN lo j with h3|h3
  ·have hjl:=(Xs.1 hj).1
   have:=List.pairwise_iff_getElem.1 hs lo j om hjl h3
   rw [Q1 hjl] at hj
   rw [Q1 om] at hy
   have e1:=UT hj
   have e2:=UT hy
   omega
  ·have:j=lo:=by omega
   subst this;rw [hj] at hy;cases hy;exact hn rfl
theorem Z4x (h1:∀(j:Nat) (x:Int),j<lo->xs[j]? = some x->x<v) (hl:xs.length<=lo):¬v∈xs:=by
 intro hv
 obtain ⟨j,hj⟩:=Fq hv
 have:=h1 j v (by have:=(Xs.1 hj).1;omega) hj
 omega
end
section
variable {m:Int} {xs du dr:List Z6} {lf:LI} {d:Bool} {k:Nat} {s:Z6} {W:List Z6 × List Z6 × LI}
def Qg (m:Int) (du dr:List Z6) (xs:List Z6) (lf:LI) (d:Bool):List Z6 × List Z6 × LI:=(du++(Tm m xs lf d).1,dr++(Tm m xs lf d).2.1,(Tm m xs lf d).2.2)
theorem Zh8 (h:xs[k]? = some s) (h1:s.op=14) (h2:gI s.args 0∈lf) (ha:Qg m du dr (xs.drop k) lf d=W):Qg m du dr (xs.drop (k+1)) (QY lf (gI s.args 0)) d=W:=by
 rw [Qg,Y6 h,Tm,Zc ⟨h1,h2⟩] at ha;exact ha
theorem Zh6 (h:xs[k]? = some s) (h1:s.op=14) (h2:¬gI s.args 0∈lf) (ha:Qg m du dr (xs.drop k) lf d=W):Qg m (du++[s]) dr (xs.drop (k+1)) lf d=W:=by
 rw [Qg,Y6 h,Tm,Z5 (fun z=>h2 z.2),Zc h1] at ha
 rw [<-ha,Qg,UR];rfl
theorem Zh5 (h:xs[k]? = some s) (h1:¬s.op=14) (h2:(s.op=15/\gI s.args 0=m)/\¬d=true) (ha:Qg m du dr (xs.drop k) lf d=W):Qg m du dr (xs.drop (k+1)) lf true=W:=by
 rw [Qg,Y6 h,Tm,Z5 (fun z=>h1 z.1),Z5 h1,Zc h2] at ha;exact ha
theorem Zh9 (h:xs[k]? = some s) (h1:¬s.op=14) (h2:¬((s.op=15/\gI s.args 0=m)/\¬d=true)) (ha:Qg m du dr (xs.drop k) lf d=W):Qg m du (dr++[s]) (xs.drop (k+1)) lf d=W:=by
 rw [Qg,Y6 h,Tm,Z5 (fun z=>h1 z.1),Z5 h1,Z5 h2] at ha
 rw [<-ha,Qg,UR];rfl
theorem Zh7 (h:xs.length<=k) (ha:Qg m du dr (xs.drop k) lf d=W):W=(du,dr,lf):=by
 rw [Qg,Xq h,Tm,Jf,Jf] at ha;exact ha.symm
end
theorem Ze1 (xs:LI) (v:Int):(QY xs v).length<=xs.length:=List.length_filter_le _ _
def GU:List Z6->Nat
 | []=>0
 | s::r=>if YF s.op=true then GU r+1 else 0
def Nw (op x:Int):List Z6->Int->Int
 | [],_=>-1
 | s::r,k=>if s.op=op/\gI s.args 0=x then k else Nw op x r (k+1)
def Ii (many:Nat) (s:Z6):Prop:=(s.op=6/\s.into=0)/\s.args.length=many
instance (many:Nat) (s:Z6):Decidable (Ii many s):=by unfold Ii;infer_instance
def O1 (many:Nat):List Z6->Int->Int
 | [],_=>-1
 | s::r,k=>if Ii many s then k else O1 many r (k+1)
def Zes (xs:List Z6) (x:Int):Int:=Nw 16 x (xs.take (GU xs)) 0
def Z5q (xs:List Z6) (many:Nat):Int:=O1 many (xs.drop (GU xs)) (GU xs)
section
variable {ds:List Zf} {kept:LI}
end
section
variable {ds:List Zf}
end
section
variable {f:Z6->Z6} (hop:∀s,(f s).op=s.op) (hin:∀s,(f s).into=s.into) (har:∀s,(f s).args=s.args)
include hop
include har
include hin
end
structure CB (c:LI) (q:Int):Prop where
 len:c.length=4
 bd:∀x∈c,0<=x/\x<=q
mutual
def S0:Z6->Prop
 | .mk op _ _ _ kids=>op≠17/\RZ kids
def RZ:List Z7->Prop
 | []=>True
 | b::r=>RY b/\RZ r
def S1:List Z6->Prop
 | []=>True
 | s::r=>S0 s/\S1 r
def RY:Z7->Prop
 | .mk steps _=>S1 steps
end
theorem Z1m:∀{xs:List Z6} {i:Nat} {s:Z6} (t:Z6),xs[i]? = some s->Yj (xs.set i t)+s.sz=Yj xs+t.sz
 | [],_,_,_,h=>by simp at h
 | x::r,0,s,t,h=>by simp at h;subst h;rw [List.set_cons_zero,Yj,Yj];omega
 | x::r,i+1,s,t,h=>by
  have:=Z1m (xs:=r) (i:=i) t (by simpa using h)
  rw [List.set_cons_succ,Yj,Yj];omega
section
variable {ds:List Zf}
variable (hd:Wv ds)
end
theorem Z7q {xs ys:LI} (h:xs.length=ys.length) (ha:∀i,i<xs.length->xs[i]? = ys[i]?):xs=ys:=List.ext_getElem? fun i=>by
 by_cases hi:i<xs.length
 ·exact ha i hi
 ·rw [Be om,Be om]

mutual
def Z1.sz:Z1->Nat
 | .mk _ _ kids=>1+XG kids
def XG:List Z1->Nat
 | []=>0
 | e::r=>e.sz+XG r
end
theorem Z1.sz_eq (e:Z1):e.sz=1+XG e.kids:=by cases e;rw [Z1.sz];rfl
theorem Ee:∀xs ys:List Z1,XG (xs++ys)=XG xs+XG ys
 | [],ys=>by simp [XG]
 | x::r,ys=>by rw [Q0,XG,XG,Ee r];omega
theorem Cj:∀{xs:List Z1} {k:Nat} {e:Z1},xs[k]? = some e->e.sz<=XG xs
 | [],k,e,h=>by simp at h
 | x::r,0,e,h=>by simp at h;subst h;rw [XG];omega
 | x::r,k+1,e,h=>by have:=Cj (xs:=r) (k:=k) (by simpa using h);rw [XG];omega
theorem OJ:∀{xs:List Z1},xs.length<=XG xs
 | []=>A8 _
 | x::r=>by have:=OJ (xs:=r);have:=x.sz_eq;rw [XG,YZ];omega
def AI:Zf:=⟨0,0,[⟨[]⟩,⟨[0,1]⟩]⟩
def AJ:Zf:=⟨0,0,[⟨[]⟩,⟨[3,0,3]⟩]⟩
def Oe:List Zf:=[⟨0,0,[⟨[1,3]⟩]⟩,⟨1,0,[]⟩,⟨0,0,[⟨[1,1,0]⟩,⟨[0]⟩,⟨[3]⟩]⟩,⟨0,1,[]⟩]
def AR:List (List Zf):=[[AI,⟨0,0,[]⟩,AJ],[AI,⟨0,0,[]⟩,AJ,⟨0,0,[⟨[1,3]⟩]⟩],[AI,⟨0,0,[]⟩,AJ,⟨1,0,[]⟩],[AI,⟨0,0,[]⟩,AJ,⟨0,0,[⟨[1,1,0]⟩,⟨[0]⟩,⟨[3]⟩]⟩],[AI,⟨0,0,[]⟩,AJ,⟨0,1,[]⟩]]
def GD (ds:List Zf):Prop:=ds∈AR
theorem GD.ok {ds:List Zf} (h:GD ds):Wv ds:=by
 have k:=(by decide:∀ds∈AR,ds.length<=4/\(∀d∈ds,d.cons.length<=3)/\∀d∈ds,∀c∈d.cons,c.fields.length<=3) ds h
 exact ⟨k.1,k.2.1,k.2.2⟩
theorem GD.len {ds:List Zf} (h:GD ds):3<=ds.length/\ds.length<=4:=by
 exact (by decide:∀ds∈AR,3<=ds.length/\ds.length<=4) ds h
def Jw (t:Int):Prop:=t=0∨t=1∨t=3
instance (t:Int):Decidable (Jw t):=inferInstanceAs (Decidable (_∨_∨_))
theorem GD.low {ds:List Zf} (h:GD ds):ZV ds 0=[]/\ZV ds 1=[0,1]/\ZV ds 2=[]/\ZV ds 3=[2,3]/\ZX ds 0=[]/\ZX ds 1=[0,1]/\ZX ds 2=[]/\ZX ds 3=[3,0,3]:=
 (by decide:∀ds∈AR,ZV ds 0=[]/\ZV ds 1=[0,1]/\ZV ds 2=[]/\ZV ds 3=[2,3]/\ZX ds 0=[]/\ZX ds 1=[0,1]/\ZX ds 2=[]/\ZX ds 3=[3,0,3]) ds h
theorem GD.fields {ds:List Zf} (h:GD ds):∀c∈ZV ds 1++(ZV ds 3++ZV ds 4),∀t∈ZX ds c,Jw t:=
 (by decide:∀ds∈AR,∀c∈ZV ds 1++(ZV ds 3++ZV ds 4),∀t∈ZX ds c,Jw t) ds h
theorem GD.cons_cases {ds:List Zf} (h:GD ds) {t:Int} {c:Int} (hc:c∈ZV ds t):(0<=c/\c<=9)/\(t=1∨t=3∨t=4)/\(ZX ds c).length<=3/\∀u∈ZX ds c,Jw u:=by
 have ht:1<=t/\t<=ds.length:=by
  by_cases q:1<=t/\t<=ds.length
  ·exact q
  ·rw [ZV,Z5 q] at hc;cases hc
 have hl:=h.len
 have hlow:=h.low
 have key:∀c∈ZV ds 1++(ZV ds 3++ZV ds 4),0<=c/\c<=9:=
  (by decide:∀ds∈AR,∀c∈ZV ds 1++(ZV ds 3++ZV ds 4),0<=c/\c<=9) ds h
 have h4:t=1∨t=2∨t=3∨t=4:=by omega
 have hf:=h.fields
 have hd:=UA h.ok c
 rcases h4 with rfl|rfl|rfl|rfl
 ·exact ⟨key c (Xj.2 (.inl hc)),.inl rfl,hd,hf c (Xj.2 (.inl hc))⟩
 ·rw [hlow.2.2.1] at hc;cases hc
 ·exact ⟨key c (Xj.2 (.inr (Xj.2 (.inl hc)))),.inr (.inl rfl),hd,hf c (Xj.2 (.inr (Xj.2 (.inl hc))))⟩
 ·exact ⟨key c (Xj.2 (.inr (Xj.2 (.inr hc)))),.inr (.inr rfl),hd,hf c (Xj.2 (.inr (Xj.2 (.inr hc))))⟩
def Aa:List (LI × Int):=[([],0),([1],0),([1,1],1),([1],1),([1,0],1),([2,1],1),([1,1],0),([3],0),([0],1),([0,1],1),([3,0],3),([3],1),([1,3,0],0),([0],0),([0,0],0),([1,0],0)]
def Qk (f:Func):Prop:=(f.params,f.result)∈Aa
theorem Qk.bd {f:Func} (h:Qk f):f.params.length<=3/\(∀t∈f.params,0<=t/\t<=3)/\Jw f.result:=by
 have key:∀q∈Aa,q.1.length<=3/\(∀t∈q.1,0<=t/\t<=3)/\Jw q.2:=by decide
 exact key _ h
theorem Qk.clo {ds:List Zf} {f:Func} (hd:GD ds) (h:Qk f) (hp:0<Uz ds (gI f.params ((f.params.length:Int)-1)) f.result):∀t∈f.params.dropLast,Jw t:=by
 have key:∀q∈Aa,0<Uz ds (gI q.1 ((q.1.length:Int)-1)) q.2->∀t∈q.1.dropLast,Jw t:=
  (by decide +kernel:∀ds∈AR,∀q∈Aa,0<Uz ds (gI q.1 ((q.1.length:Int)-1)) q.2->∀t∈q.1.dropLast,Jw t) ds hd
 exact key _ h hp
structure GP (p:Wg):Prop where
 decls:GD p.decls
 len:1<=p.funcs.length/\p.funcs.length<=4
 sigs:∀f∈p.funcs,Qk f
def QD (ds:List Zf) (op num:Int) (m:Nat) (k:Nat):Nat:=
 if op=13 then m+k else if op=8 then (if k=0 then m else m+(ZX ds (gI (ZV ds num) ((k:Int)-1))).length) else m
mutual
def eW (ds:List Zf) (nf:Nat):Nat->Z1->Prop
 | m,.mk op num kids=>(0<=op/\op<=13)/\(op=12->kids=[]/\0<=num/\num<m)/\(op=13->kids.length=2)/\(op=7->kids.length=3)/\(op=8->kids.length=1+(ZV ds num).length)/\(op=9->0<=num/\num<nf)/\(-2000<=num/\num<=2000)/\kids.length<=4 /\
  Kq ds nf (QD ds op num m) 0 kids
def Kq (ds:List Zf) (nf:Nat) (sc:Nat->Nat):Nat->List Z1->Prop
 | _,[]=>True
 | k,e::r=>eW ds nf (sc k) e/\Kq ds nf sc (k+1) r
end
theorem Z7k {ds:List Zf} {nf m:Nat} (e:Z1):eW ds nf m e↔(0<=e.op/\e.op<=13)/\(e.op=12->e.kids=[]/\0<=e.num/\e.num<m)/\(e.op=13->e.kids.length=2)/\(e.op=7->e.kids.length=3)/\(e.op=8->e.kids.length=1+(ZV ds e.num).length)/\(e.op=9->0<=e.num/\e.num<nf)/\(-2000<=e.num/\e.num<=2000)/\e.kids.length<=4 /\
  Kq ds nf (QD ds e.op e.num m) 0 e.kids:=by cases e;rw [eW];rfl
theorem Db {ds:List Zf} {nf:Nat} {sc:Nat->Nat}:∀{xs:List Z1} {j k:Nat} {e:Z1},Kq ds nf sc j xs->xs[k]? = some e->eW ds nf (sc (j+k)) e
 | [],j,k,e,_,h=>by simp at h
 | x::r,j,0,e,hw,h=>by simp at h;subst h;exact hw.1
 | x::r,j,k+1,e,hw,h=>by
  have:=Db (xs:=r) (j:=j+1) (k:=k) hw.2 (by simpa using h)
  rw [show j+(k+1)=j+1+k by omega];exact this
theorem OC {ds:List Zf} {nf:Nat} {sc:Nat->Nat}:∀{xs ys:List Z1} {j:Nat},Kq ds nf sc j (xs++ys)↔Kq ds nf sc j xs/\Kq ds nf sc (j+xs.length) ys
 | [],ys,j=>by simp [Kq]
 | x::r,ys,j=>by
  rw [Q0,Kq,Kq,OC (xs:=r),and_assoc,YZ,show j+1+r.length=j+(r.length+1) by omega]
theorem IM {ds:List Zf} {nf m:Nat} {sc:Nat->Nat} (hs:∀k,sc k=m):∀{xs:List Z1} {j:Nat},(∀e∈xs,eW ds nf m e)->Kq ds nf sc j xs
 | [],_,_=>True.intro
 | x::r,j,h=>⟨by rw [hs];exact h x (Xc ..),IM hs fun e he=>h e (Xo _ he)⟩
theorem Ci {ds:List Zf} {nf m:Nat} {op num:Int} {kids:List Z1} (ho:0<=op/\op<=11/\op≠7/\op≠8) (hc:op=9->0<=num/\num<nf) (hn:-2000<=num/\num<=2000) (hl:kids.length<=4) (hk:∀e∈kids,eW ds nf m e):eW ds nf m (.mk op num kids):=by
 rw [eW]
 refine ⟨by omega,fun h=>by omega,fun h=>by omega,fun h=>by omega,fun h=>by omega,hc,hn,hl,IM (m:=m) (fun k=>?_) hk⟩
 rw [QD,Z5 om,Z5 om]
theorem Z7l {ds:List Zf} {nf m:Nat} {z:Int} (hz:-2000<=z/\z<=2000):eW ds nf m (.mk 0 z []):=Ci om (fun h=>by omega) hz (by simp) (fun e he=>by cases he)
theorem Z7m {ds:List Zf} {nf m:Nat} {z:Int} (hz:0<=z/\z<m) (hm:m<=2000):eW ds nf m (.mk 12 z []):=by
 rw [eW]
 exact ⟨by omega,fun _=>⟨rfl,hz⟩,fun h=>by omega,fun h=>by omega,fun h=>by omega,fun h=>by omega,by omega,by simp,True.intro⟩
theorem OA {ds:List Zf} {nf m:Nat} {num:Int} {kids:List Z1} (hn:-2000<=num/\num<=2000) (hl:kids.length=3) (hk:∀e∈kids,eW ds nf m e):eW ds nf m (.mk 7 num kids):=by
 rw [eW]
 refine ⟨by omega,fun h=>by omega,fun h=>by omega,fun _=>hl,fun h=>by omega,fun h=>by omega,hn,by omega,IM (m:=m) (fun k=>?_) hk⟩
 rw [QD,Z5 om,Z5 om]
theorem OB {ds:List Zf} {nf m:Nat} {num:Int} {a b:Z1} (hn:-2000<=num/\num<=2000) (ha:eW ds nf m a) (hb:eW ds nf (m+1) b):eW ds nf m (.mk 13 num [a,b]):=by
 rw [eW]
 exact ⟨by omega,fun h=>by omega,fun _=>rfl,fun h=>by omega,fun h=>by omega,fun h=>by omega,hn,by simp,ha,hb,True.intro⟩
theorem IL {ds:List Zf} {nf m:Nat} {num:Int} {a:Z1} {arms:List Z1} (hn:-2000<=num/\num<=2000) (h3:arms.length<=3) (hl:arms.length=(ZV ds num).length) (ha:eW ds nf m a) (hk:Kq ds nf (QD ds 8 num m) 1 arms):eW ds nf m (.mk 8 num (a::arms)):=by
 rw [eW]
 refine ⟨by omega,fun h=>by omega,fun h=>by omega,fun h=>by omega,fun _=>by rw [YZ];omega,fun h=>by omega,hn,by rw [YZ];omega,?_,hk⟩
 rw [QD,Z5 om,Zc rfl,Zc rfl]
 exact ha
def bS (b:Nat):Nat:=max 4 (10*b-10)
def bC (b:Nat):Nat:=max 40 (100*b-100)
def Xp:List Z6->Nat
 | []=>0
 | s::r=>(if YF s.op=true then 0 else 1)+Xp r
theorem AK:∀xs ys:List Z6,Xp (xs++ys)=Xp xs+Xp ys
 | [],ys=>by simp [Xp]
 | x::r,ys=>by rw [Q0,Xp,Xp,AK r];omega
theorem Bq:∀xs:List Z6,Xp xs<=xs.length
 | []=>X5 _
 | x::r=>by have:=Bq r;rw [Xp,YZ];split<;>omega
def QC (ds:List Zf) (op num:Int) (m:Nat) (k:Nat):Nat:=if op=8 then m+(ZX ds (gI (ZV ds num) k)).length else m
mutual
def fS (ds:List Zf) (nf:Nat):Nat->Z6->Prop
 | m,.mk op num into args kids=>((0<=op/\op<=11)∨(14<=op/\op<=17))/\(∀a∈args,0<=a/\a<m)/\(14<=op->num=0/\into=0/\kids=[]/\∃a,args=[a])/\(op=7->kids.length=2)/\(op=8->kids.length=(ZV ds num).length)/\(op=7∨op=8->∃a,args=[a]) /\
  (op=9->0<=num/\num<nf)/\(-2000<=num/\num<=2000)/\(0<=into/\into<=m)/\args.length<=4/\(op≠7/\op≠8->kids=[])/\Qq ds nf (QC ds op num m) 0 kids
def Qq (ds:List Zf) (nf:Nat) (sc:Nat->Nat):Nat->List Z7->Prop
 | _,[]=>True
 | k,b::r=>fB ds nf (sc k) b/\Qq ds nf sc (k+1) r
def TS (ds:List Zf) (nf:Nat):Nat->List Z6->Prop
 | _,[]=>True
 | m,s::r=>fS ds nf m s/\TS ds nf (if YF s.op=true then m else m+1) r
def fB (ds:List Zf) (nf:Nat):Nat->Z7->Prop
 | m,.mk steps result=>TS ds nf m steps/\0<=result/\result<(m+Xp steps:Nat)
end
section
variable {ds:List Zf} {nf:Nat}
structure FS (ds:List Zf) (nf m:Nat) (s:Z6):Prop where
 op:(0<=s.op/\s.op<=11)∨(14<=s.op/\s.op<=17)
 args:∀a∈s.args,0<=a/\a<m
 cnt:14<=s.op->s.num=0/\s.into=0/\s.kids=[]/\∃a,s.args=[a]
 k7:s.op=7->s.kids.length=2
 k8:s.op=8->s.kids.length=(ZV ds s.num).length
 one:s.op=7∨s.op=8->∃a,s.args=[a]
 call:s.op=9->0<=s.num/\s.num<nf
 num:-2000<=s.num/\s.num<=2000
 into:0<=s.into/\s.into<=m
 alen:s.args.length<=4
 kn:s.op≠7/\s.op≠8->s.kids=[]
 kids:Qq ds nf (QC ds s.op s.num m) 0 s.kids
theorem IT {m:Nat} (s:Z6):fS ds nf m s↔FS ds nf m s:=by
 cases s
 rw [fS]
 exact ⟨fun ⟨h1,h2,h3,h4,h5,h6,h7,h8,h9,h10,h11,h12⟩=>⟨h1,h2,h3,h4,h5,h6,h7,h8,h9,h10,h11,h12⟩,fun h=>⟨h.op,h.args,h.cnt,h.k7,h.k8,h.one,h.call,h.num,h.into,h.alen,h.kn,h.kids⟩⟩
theorem G5 {m:Nat} (b:Z7):fB ds nf m b↔TS ds nf m b.steps/\0<=b.result/\b.result<(m+Xp b.steps:Nat):=by cases b;rw [fB];rfl
theorem G6 {sc:Nat->Nat}:∀{xs:List Z7} {j k:Nat} {b:Z7},Qq ds nf sc j xs->xs[k]? = some b->fB ds nf (sc (j+k)) b
 | [],j,k,b,_,h=>by simp at h
 | x::r,j,0,b,hw,h=>by simp at h;subst h;exact hw.1
 | x::r,j,k+1,b,hw,h=>by
  have:=G6 (xs:=r) (j:=j+1) (k:=k) hw.2 (by simpa using h)
  rw [show j+(k+1)=j+1+k by omega];exact this
theorem OL {sc:Nat->Nat}:∀{xs ys:List Z7} {j:Nat},Qq ds nf sc j (xs++ys)↔Qq ds nf sc j xs/\Qq ds nf sc (j+xs.length) ys
 | [],ys,j=>by simp [Qq]
 | x::r,ys,j=>by
  rw [Q0,Qq,Qq,OL (xs:=r),and_assoc,YZ,show j+1+r.length=j+(r.length+1) by omega]
theorem OM {sc:Nat->Nat} {xs:List Z7} {b:Z7} (h:Qq ds nf sc 0 xs) (hb:fB ds nf (sc xs.length) b):Qq ds nf sc 0 (xs++[b]):=
 OL.2 ⟨h,by rw [Vm];exact hb,True.intro⟩
theorem Eg:∀{xs ys:List Z6} {m:Nat},TS ds nf m (xs++ys)↔TS ds nf m xs/\TS ds nf (m+Xp xs) ys
 | [],ys,m=>by simp [TS,Xp]
 | x::r,ys,m=>by
  rw [Q0,TS,TS,Eg (xs:=r),and_assoc,Xp]
  by_cases h:YF x.op=true
  ·rw [Zc h,Zc h,Vm]
  ·rw [Z5 h,Z5 h,Bg]
theorem G8 {xs:List Z6} {s:Z6} {m:Nat} (h:TS ds nf m xs) (hs:fS ds nf (m+Xp xs) s):TS ds nf m (xs++[s]):=Eg.2 ⟨h,hs,True.intro⟩
theorem G7:∀{xs:List Z6} {k m:Nat} {s:Z6},TS ds nf m xs->xs[k]? = some s->fS ds nf (m+Xp (xs.take k)) s
 | [],k,m,s,_,h=>by simp at h
 | x::r,0,m,s,hw,h=>by simp at h;subst h;exact hw.1
 | x::r,k+1,m,s,hw,h=>by
  have:=G7 (xs:=r) (k:=k) hw.2 (by simpa using h)
  rw [C0,Xp]
  by_cases hc:YF x.op=true
  ·rw [Zc hc] at this ⊢;rw [Vm];exact this
  ·rw [Z5 hc] at this ⊢;rw [<-Bg];exact this
mutual
theorem Zfp:∀(s:Z6) {m:Nat},fS ds nf m s->s.rng
 | .mk op num into args kids,m,h=>by
  rw [fS] at h
  obtain ⟨h1,h2,h3,h4,h5,h6,h7,h8,h9,h10,h11,h12⟩:=h
  rw [Z6.rng]
  exact ⟨by omega,SP kids h12⟩
theorem SP:∀(bs:List Z7) {sc:Nat->Nat} {k:Nat},Qq ds nf sc k bs->Kj bs
 | [],_,_,_=>True.intro
 | b::r,sc,k,h=>⟨SO b h.1,SP r h.2⟩
theorem SQ:∀(xs:List Z6) {m:Nat},TS ds nf m xs->TO xs
 | [],_,_=>True.intro
 | s::r,m,h=>⟨Zfp s h.1,SQ r h.2⟩
theorem SO:∀(b:Z7) {m:Nat},fB ds nf m b->b.rng
 | .mk steps result,m,h=>by rw [fB] at h;rw [Z7.rng];exact SQ steps h.1
end
end
structure FN (n:Zl) (q:Nat):Prop where
 decls:GD n.decls
 len:1<=n.routines.length/\n.routines.length<=4
 sigs:∀r∈n.routines,(r.params,r.result)∈Aa
 lent:∀r∈n.routines,r.lent.length<=3/\∀i∈r.lent,0<=i/\i<r.params.length
 body:∀r∈n.routines,fB n.decls n.routines.length r.params.length r.body/\r.body.sz<=q
theorem FN.ok {n:Zl} {q:Nat} (h:FN n q):X4 n:=
 ⟨h.decls.ok,h.len.2,fun r hr=>(Qk.bd (f:=⟨r.params,r.result,default⟩) (h.sigs r hr)).1,fun r hr=>by have:=(h.lent r hr).1;omega⟩
def Pk (n k:Int):Prop:=0<=k/\(0<n->k<n)/\(n<=0->k=0)
theorem Pk.lt {n k:Int} (h:Pk n k) (hn:0<n):0<=k/\k<n:=⟨h.1,h.2.1 hn⟩
theorem Pk.zero {n:Int}:Pk n 0:=⟨Int.le_refl _,fun h=>h,fun _=>rfl⟩
theorem Pk.rem {n a:Int} (ha:0<=a) (hn:0<n):Pk n (a % n):=⟨Int.emod_nonneg _ om,fun _=>Int.emod_lt_of_pos _ hn,fun _=>by omega⟩
def AD (ds:List Zf):Prop:=ds.length<=8/\∀d∈ds,d.cons.length<=4/\∀c∈d.cons,c.fields.length<=4
theorem GD.ad {ds:List Zf} (h:GD ds):AD ds:=(by decide:∀ds∈AR,ds.length<=8/\∀d∈ds,d.cons.length<=4/\∀c∈d.cons,c.fields.length<=4) ds h
theorem AD.set {ds:List Zf} (h:AD ds) (k:Nat) {d:Zf} (hd:d.cons.length<=4/\∀c∈d.cons,c.fields.length<=4):AD (ds.set k d):=
 ⟨by rw [T7];exact h.1,fun x hx=>(List.mem_or_eq_of_mem_set hx).elim (h.2 x) fun e=>by rw [e];exact hd⟩
theorem AD.app {ds es:List Zf} (h:AD ds) (hl:ds.length+es.length<=8) (hd:∀d∈es,d.cons.length<=4/\∀c∈d.cons,c.fields.length<=4):AD (ds++es):=
 ⟨by rw [Ys];exact hl,fun x hx=>(Xj.1 hx).elim (h.2 x) (hd x)⟩
theorem GD.three:GD [AI,⟨0,0,[]⟩,AJ]:=List.Mem.head _
theorem GD.four:∀{k:Nat} {x:Zf},Oe[k]? = some x->GD ([AI,⟨0,0,[]⟩,AJ]++[x])
 | 0,x,h=>by cases h;exact .tail _ (.head _)
 | 1,x,h=>by cases h;exact .tail _ (.tail _ (.head _))
 | 2,x,h=>by cases h;exact .tail _ (.tail _ (.tail _ (.head _)))
 | 3,x,h=>by cases h;exact .tail _ (.tail _ (.tail _ (.tail _ (.head _))))
 | k+4,x,h=>by simp [Oe] at h
theorem BF {l:LI} {z a b:Int} (h:z∈l) (hl:l.all (fun x=>decide (a<=x/\x<=b))=true):a<=z/\z<=b:=by
 have:=A5.1 hl z h
 exact of_decide_eq_true this
def rk (t:Int):Nat:=if Jw t then 0 else 1
theorem Mk (t:Int):rk t<=1:=by rw [rk];split<;>omega
theorem SN {t:Int} (h:Jw t):rk t=0:=Zc h
def SE (g:Wg) (q:Nat) (e:Z1):Prop:=(∀m,eW g.decls g.funcs.length m e)/\e.sz<=q
def GE (g:Wg) (m q:Nat) (e:Z1):Prop:=eW g.decls g.funcs.length m e/\e.sz<=q
theorem SE.ge {g:Wg} {q q' m:Nat} {e:Z1} (h:SE g q e) (hq:q<=q'):GE g m q' e:=⟨h.1 m,VH h.2 hq⟩
theorem GE.le {g:Wg} {m q q':Nat} {e:Z1} (h:GE g m q e) (hq:q<=q'):GE g m q' e:=⟨h.1,VH h.2 hq⟩
theorem G4 {m:Nat}:∀{xs:List Z1},(∀e∈xs,e.sz<=m)->XG xs<=xs.length*m
 | [],_=>A8 _
 | x::r,h=>by
  have h1:=h x (Xc ..)
  have h2:=G4 (xs:=r) fun e he=>h e (Xo _ he)
  rw [XG,YZ,K3];omega
theorem XU {α:Type} {p:α->Prop} {xs:List α} {a:α} (h:∀x∈xs,p x) (ha:p a):∀x∈xs++[a],p x:=fun x hx=>(Xj.1 hx).elim (h x) fun q=>by rw [XI.1 q];exact ha
theorem SE.int {g:Wg} {z:Int} {q:Nat} (hz:-2000<=z/\z<=2000) (hq:1<=q):SE g q (.mk 0 z []):=⟨fun _=>Z7l hz,by simpa [Z1.sz,XG] using hq⟩
theorem SE.node {g:Wg} {op num:Int} {ys:List Z1} {q k:Nat} (ho:op=6∨op=10) (hn:0<=num/\num<=2000) (hy:∀e∈ys,SE g 1 e) (hl:ys.length<=k) (hk:k<=3) (hq:1+k<=q):SE g q (.mk op num ys):=by
 refine ⟨fun m=>Ci om (fun h=>by omega) om om fun e he=>(hy e he).1 m,?_⟩
 have:=G4 (xs:=ys) (m:=1) fun e he=>(hy e he).2
 rw [Z1.sz];omega
def Bl (ds:List Zf) (t c:Int):Prop:=(0<=c/\c<=9)/\(ZX ds c).length<=3*rk t/\∀u∈ZX ds c,Jw u
instance (ds:List Zf) (t c:Int):Decidable (Bl ds t c):=inferInstanceAs (Decidable (_/\_/\_))
theorem Z0e {ds:List Zf} (h:GD ds):∀t∈[(1:Int),2,3,4],∀c∈ZV ds t,(t∈ZX ds c->∀c0,(ZV ds t)[0]? = some c0->Bl ds t c0)/\(¬t∈ZX ds c->Bl ds t c):=by
 intro t ht c hc
 have k1:=(by decide:∀ds∈AR,∀t∈[(1:Int),2,3,4],∀c∈ZV ds t,(t∈ZX ds c->Bl ds t (gI (ZV ds t) 0))/\(¬t∈ZX ds c->Bl ds t c)) ds h t ht c hc
 refine ⟨fun q c0 h0=>?_,k1.2⟩
 have:=k1.1 q
 rwa [VM (i:=0) h0] at this
theorem O4 {ds:List Zf} (h:GD ds) {t c:Int} (hc:c∈ZV ds t):t∈[(1:Int),2,3,4]:=by
 obtain ⟨_,h2,_⟩:=h.cons_cases hc
 rcases h2 with rfl|rfl|rfl<;>simp
theorem Zgl {ds:List Zf} (h:GD ds) {t c c0:Int} (hc:c∈ZV ds t) (ht:t∈ZX ds c) (h0:(ZV ds t)[0]? = some c0):Bl ds t c0:=(Z0e h t (O4 h hc) c hc).1 ht c0 h0
theorem Zgk {ds:List Zf} (h:GD ds) {t c:Int} (hc:c∈ZV ds t) (ht:¬t∈ZX ds c):Bl ds t c:=(Z0e h t (O4 h hc) c hc).2 ht
theorem Zfo {ds:List Zf} (h:GD ds) {t:Int} (h0:(ZV ds t).length=0) (ht:0<t):rk t=1:=by
 rw [rk,Z5]
 rintro (q|q|q)
 ·omega
 ·rw [q,h.low.2.1] at h0;cases h0
 ·rw [q,h.low.2.2.2.1] at h0;cases h0
def Ax (g:Wg) (t i:Int):Prop:=0<=i/\∃f,g.funcs[i.toNat]? = some f/\0<f.params.length/\Uz g.decls (gI f.params ((f.params.length:Int)-1)) f.result=t
theorem Ax.lt {g:Wg} {t i:Int} (h:Ax g t i):0<=i/\i<g.funcs.length:=by
 obtain ⟨h1,f,h2,_⟩:=h
 have:=(Xs.1 h2).1
 omega
theorem Ax.mk {g:Wg} {t x2:Int} {k:Nat} {f:Func} (hf:g.funcs[k]? = some f) (hl:0<f.params.length) (hx:f.params[f.params.length-1]? = some x2) (ha:Uz g.decls x2 f.result=t):Ax g t (k:Int):=by
 refine ⟨by omega,f,by simpa using hf,hl,?_⟩
 rw [VM (i:=(f.params.length:Int)-1) (by rw [show ((f.params.length:Int)-1).toNat=f.params.length-1 by omega];exact hx)]
 exact ha
theorem Ax.low {g:Wg} {t i u:Int} {f:Func} {j:Nat} (hg:GP g) (h:Ax g t i) (ht:0<t) (hf:g.funcs[i.toNat]? = some f) (hj:j+1<f.params.length) (hu:f.params[j]? = some u):rk u=0:=by
 obtain ⟨_,f',h2,_,h4⟩:=h
 have e:f'=f:=UT (h2.symm.trans hf)
 subst e
 have h5:=(hg.sigs f' (Y3 hf)).clo hg.decls (by rw [h4];exact ht)
 refine SN (h5 u ?_)
 rw [List.dropLast_eq_take]
 exact Y3 (i:=j) (by rw [List.getElem?_take_of_lt om];exact hu)
end Go.Abs
section
namespace Go.Abs
theorem Ad (b:Nat):bS b=max 4 (10*b-10):=rfl
theorem Ac (b:Nat):bC b=max 40 (100*b-100):=rfl
theorem ED {L q b:Nat} (hL:L<=3) (hb:3<=b) (hq:L*q<=b-1):1+L*bS q<=bS b:=by
 rw [Ad,Ad]
 have:L=0∨L=1∨L=2∨L=3:=by omega
 rcases this with rfl|rfl|rfl|rfl<;>omega
theorem Zdv {L q b:Nat} (hL:L<=3) (hb:3<=b) (hq:L*q<=b-2):5+L*bS q<=bS b:=by
 rw [Ad,Ad]
 have:L=0∨L=1∨L=2∨L=3:=by omega
 rcases this with rfl|rfl|rfl|rfl<;>omega
theorem Zdj {b:Nat} (hb:3<=b):1+(bS (b / 2)+bS (b / 2))<=bS b:=by rw [Ad,Ad];omega
theorem Z3t {b:Nat} (hb:3<=b):5+bS (b-2)<=bS b:=by rw [Ad,Ad];omega
theorem B2 {L q b:Nat} (hL:L<=3) (hb:3<=b) (hq:L*q<=b-1):10+L*bC q<=bC b:=by
 rw [Ac,Ac]
 have:L=0∨L=1∨L=2∨L=3:=by omega
 rcases this with rfl|rfl|rfl|rfl<;>omega
theorem Zdu {L q b:Nat} (hL:L<=3) (hb:3<=b) (hq:L*q<=b-2):40+L*bC q<=bC b:=by
 rw [Ac,Ac]
 have:L=0∨L=1∨L=2∨L=3:=by omega
 rcases this with rfl|rfl|rfl|rfl<;>omega
theorem Zdi {b:Nat} (hb:3<=b):10+(bC (b / 2)+bC (b / 2))<=bC b:=by rw [Ac,Ac];omega
theorem Z3s {b:Nat} (hb:3<=b):40+bC (b-2)<=bC b:=by rw [Ac,Ac];omega
theorem Nz (b:Nat):4<=bS b:=by rw [Ad];omega
theorem Ny (b:Nat):40<=bC b:=by rw [Ac];omega
theorem QI (L b:Nat):L*(b / L)<=b:=Nat.mul_div_le b L
theorem RO {k L C:Nat} (h:k<L):(k+1)*C=k*C+C/\(k+1)*C<=L*C:=⟨by rw [K3,Nat.one_mul],Kh C h⟩
theorem DE {ds:List Zf} {d x:Int} {m k:Nat} (h:(ZV ds d)[k]? = some x):QD ds 8 d m (1+k)=m+(ZX ds x).length:=by
 rw [QD,Z5 om,Zc rfl,Z5 om,VM (i:=((1+k:Nat):Int)-1) (by rw [show (((1+k:Nat):Int)-1).toNat=k by omega];exact h)]
section
variable {g:Wg} {m:Nat}
theorem GE.var {z:Int} {q:Nat} (hz:0<=z/\z<m) (hm:m<=2000) (hq:1<=q):GE g m q (.mk 12 z []):=⟨Z7m hz hm,by simpa [Z1.sz,XG] using hq⟩
theorem GE.list {ys:List Z1} {L s:Nat} (h:∀e∈ys,GE g m s e) (hl:ys.length=L):XG ys<=L*s:=by rw [<-hl];exact G4 fun e he=>(h e he).2
theorem GE.node {op num:Int} {ys:List Z1} {L s q:Nat} (ho:0<=op/\op<=11/\op≠7/\op≠8) (hc:op=9->0<=num/\num<g.funcs.length) (hn:-2000<=num/\num<=2000) (h:∀e∈ys,GE g m s e) (hl:ys.length=L) (hL:L<=3) (hq:1+L*s<=q):GE g m q (.mk op num ys):=by
 have:=GE.list h hl
 exact ⟨Ci ho hc hn om fun e he=>(h e he).1,by rw [Z1.sz];omega⟩
theorem GE.if_ {num:Int} {ys:List Z1} {s q:Nat} (hn:-2000<=num/\num<=2000) (h:∀e∈ys,GE g m s e) (hl:ys.length=3) (hq:1+3*s<=q):GE g m q (.mk 7 num ys):=by
 have:=GE.list h hl
 exact ⟨OA hn hl fun e he=>(h e he).1,by rw [Z1.sz];omega⟩
theorem GE.let_ {a b:Z1} {s q:Nat} (ha:GE g m s a) (hb:GE g (m+1) s b) (hq:1+(s+s)<=q):GE g m q (.mk 13 0 [a,b]):=by
 refine ⟨OB om ha.1 hb.1,?_⟩
 have h1:=ha.2
 have h2:=hb.2
 simp only [Z1.sz,XG];omega
theorem GE.two {op num:Int} {a b:Z1} {s1 s2 q:Nat} (ho:0<=op/\op<=11/\op≠7/\op≠8/\op≠9) (hn:-2000<=num/\num<=2000) (ha:GE g m s1 a) (hb:GE g m s2 b) (hq:1+(s1+s2)<=q):GE g m q (.mk op num [a,b]):=by
 refine ⟨Ci om (fun h=>by omega) hn (by simp) fun e he=>?_,?_⟩
 ·rcases YE.1 he with rfl|he
  ·exact ha.1
  ·rw [XI.1 he];exact hb.1
 ·have h1:=ha.2
  have h2:=hb.2
  simp only [Z1.sz,XG];omega
theorem GE.match_ {d:Int} {e:Z1} {ys:List Z1} {L s q:Nat} (hd:-2000<=d/\d<=2000) (he:GE g m 4 e) (hw:Kq g.decls g.funcs.length (QD g.decls 8 d m) 1 ys) (hs:∀e∈ys,e.sz<=s) (hl:ys.length=L) (hL:L=(ZV g.decls d).length) (h3:L<=3) (hq:5+L*s<=q):GE g m q (.mk 8 d (e::ys)):=by
 refine ⟨IL hd om om he.1 hw,?_⟩
 have h1:=G4 hs
 rw [hl] at h1
 have h2:=he.2
 rw [Z1.sz,XG];omega
end
def NL (s:Nat) (left w:Int):Prop:=((s:Int)<=left/\w=left-s)∨(left<s/\w=-1)
end Go.Abs
namespace Go.Abs
theorem Cx {L b p pp M:Nat} (hL:L<=3) (hb:3<=b) (h:pp<=p+8) (hp:p+(bC b-1)<=M):pp+L*bC ((b-1) / L)<=M:=by
 have:=B2 hL hb (QI L (b-1))
 omega
end Go.Abs
end
namespace Go.Abs
theorem Z7z (a b:Z1):XG [a,b]=a.sz+b.sz:=by simp only [XG];omega
theorem G3 (a b c:Z1):XG [a,b,c]=a.sz+b.sz+c.sz:=by simp only [XG];omega
theorem DY:bS 3=20/\bS 4=30/\bS 12=110/\bS 16=150/\bS 18=170/\bC 3=200/\bC 4=300/\bC 16=1500:=by decide
theorem FC {b:Nat} (h:b<=20):bS b<=190/\bC b<=1900/\(b<=2->bS b<=10):=by rw [Ad,Ac];omega
section
variable {g:Wg} {m:Nat}
theorem SE.ofs {op num:Int} {ys:List Z1} {q:Nat} (ho:0<=op/\op<=11/\op≠7/\op≠8/\op≠9) (hn:-2000<=num/\num<=2000) (hl:ys.length<=4) (hy:∀e∈ys,∃s,SE g s e) (hq:1+XG ys<=q):SE g q (.mk op num ys):=
 ⟨fun m=>Ci om (fun h=>by omega) hn hl fun e he=>let ⟨_,h⟩:=hy e he;h.1 m,by rw [Z1.sz];exact hq⟩
theorem SE.nil {op num:Int} {q:Nat} (ho:0<=op/\op<=11/\op≠7/\op≠8/\op≠9) (hn:-2000<=num/\num<=2000) (hq:1<=q):SE g q (.mk op num []):=
 SE.ofs ho hn (by simp) (fun e he=>by cases he) (by simpa [XG] using hq)
theorem SE.two {op num:Int} {a b:Z1} {s1 s2 q:Nat} (ho:0<=op/\op<=11/\op≠7/\op≠8/\op≠9) (hn:-2000<=num/\num<=2000) (ha:SE g s1 a) (hb:SE g s2 b) (hq:1+(s1+s2)<=q):SE g q (.mk op num [a,b]):=by
 refine SE.ofs ho hn (by simp) (fun e he=>?_) ?_
 ·rcases YE.1 he with rfl|he
  ·exact ⟨_,ha⟩
  ·rw [XI.1 he];exact ⟨_,hb⟩
 ·have h1:=ha.2
  have h2:=hb.2
  rw [Z7z];omega
theorem SE.three {op num:Int} {a b c:Z1} {s1 s2 s3 q:Nat} (ho:0<=op/\op<=11/\op≠7/\op≠8/\op≠9) (hn:-2000<=num/\num<=2000) (ha:SE g s1 a) (hb:SE g s2 b) (hc:SE g s3 c) (hq:1+(s1+s2+s3)<=q):SE g q (.mk op num [a,b,c]):=by
 refine SE.ofs ho hn (by simp) (fun e he=>?_) ?_
 ·rcases YE.1 he with rfl|he
  ·exact ⟨_,ha⟩
  ·rcases YE.1 he with rfl|he
   ·exact ⟨_,hb⟩
   ·rw [XI.1 he];exact ⟨_,hc⟩
 ·have h1:=ha.2
  have h2:=hb.2
  have h3:=hc.2
  rw [G3];omega
theorem GE.int {z:Int} {q:Nat} (hz:-2000<=z/\z<=2000) (hq:1<=q):GE g m q (.mk 0 z []):=(SE.int (g:=g) (q:=q) hz hq).ge (X5 _)
theorem GE.three {op num:Int} {a b c:Z1} {s1 s2 s3 q:Nat} (ho:0<=op/\op<=11/\op≠8/\op≠9) (hn:-2000<=num/\num<=2000) (ha:GE g m s1 a) (hb:GE g m s2 b) (hc:GE g m s3 c) (hq:1+(s1+s2+s3)<=q):GE g m q (.mk op num [a,b,c]):=by
 have hk:∀e∈[a,b,c],eW g.decls g.funcs.length m e:=fun e he=>by
  rcases YE.1 he with rfl|he
  ·exact ha.1
  ·rcases YE.1 he with rfl|he
   ·exact hb.1
   ·rw [XI.1 he];exact hc.1
 refine ⟨?_,?_⟩
 ·by_cases h7:op=7
  ·subst h7;exact OA hn rfl hk
  ·exact Ci om (fun h=>by omega) hn (by simp) hk
 ·have h1:=ha.2
  have h2:=hb.2
  have h3:=hc.2
  rw [Z1.sz,G3];omega
theorem GE.one {op num:Int} {a:Z1} {s1 q:Nat} (ho:0<=op/\op<=11/\op≠7/\op≠8/\op≠9) (hn:-2000<=num/\num<=2000) (ha:GE g m s1 a) (hq:1+s1<=q):GE g m q (.mk op num [a]):=by
 refine ⟨Ci om (fun h=>by omega) hn (by simp) fun e he=>?_,?_⟩
 ·rw [XI.1 he];exact ha.1
 ·have h1:=ha.2
  simp only [Z1.sz,XG];omega
theorem GE.letS {a b:Z1} {s1 s2 q:Nat} (ha:GE g m s1 a) (hb:GE g (m+1) s2 b) (hq:1+(s1+s2)<=q):GE g m q (.mk 13 0 [a,b]):=by
 refine ⟨OB om ha.1 hb.1,?_⟩
 have h1:=ha.2
 have h2:=hb.2
 simp only [Z1.sz,XG];omega
theorem GE.matchL (hg:GP g) {e a b:Z1} {s1 s2 s3 q:Nat} (he:GE g m s1 e) (ha:GE g m s2 a) (hb:GE g (m+2) s3 b) (hq:1+(s1+s2+s3)<=q):GE g m q (.mk 8 1 [e,a,b]):=by
 have hl:=hg.decls.low
 refine ⟨IL om (by simp) (by rw [hl.2.1];rfl) he.1 ⟨?_,?_,True.intro⟩,?_⟩
 ·rw [DE (k:=0) (x:=0) (by rw [hl.2.1];rfl),hl.2.2.2.2.1];exact ha.1
 ·rw [DE (k:=1) (x:=1) (by rw [hl.2.1];rfl),hl.2.2.2.2.2.1];exact hb.1
 ·have h1:=he.2
  have h2:=ha.2
  have h3:=hb.2
  rw [Z1.sz,G3];omega
theorem GE.matchT (hg:GP g) {e a b:Z1} {s1 s2 s3 q:Nat} (he:GE g m s1 e) (ha:GE g m s2 a) (hb:GE g (m+3) s3 b) (hq:1+(s1+s2+s3)<=q):GE g m q (.mk 8 3 [e,a,b]):=by
 have hl:=hg.decls.low
 refine ⟨IL om (by simp) (by rw [hl.2.2.2.1];rfl) he.1 ⟨?_,?_,True.intro⟩,?_⟩
 ·rw [DE (k:=0) (x:=2) (by rw [hl.2.2.2.1];rfl),hl.2.2.2.2.2.2.1];exact ha.1
 ·rw [DE (k:=1) (x:=3) (by rw [hl.2.2.2.1];rfl),hl.2.2.2.2.2.2.2];exact hb.1
 ·have h1:=he.2
  have h2:=ha.2
  have h3:=hb.2
  rw [Z1.sz,G3];omega
theorem I2 {α:Type} {p:α->Prop} {a:α} (h:p a):∀x∈[a],p x:=fun x hx=>by rw [XI.1 hx];exact h
end
structure HS (g:Wg):Prop where
 gp:GP g
 body:∀f∈g.funcs,eW g.decls g.funcs.length f.params.length f.body/\f.body.sz<=30
structure GL (ds:List Zf) (k j:Nat) (rq:List Func):Prop where
 len:rq.length=4
 sigs:∀f∈rq,Qk f
 zero:∀f,rq[0]? = some f->f.params.length=0
 body:∀i f,j<=i->i<k->rq[i]? = some f->eW ds k f.params.length f.body/\f.body.sz<=30
theorem GL.gp {ds:List Zf} {k j:Nat} {rq:List Func} (h:GL ds k j rq) (hd:GD ds) (hk:1<=k/\k<=4):GP ⟨ds,rq.take k⟩:=
 ⟨hd,by show 1<=(rq.take k).length/\_;rw [WT,h.len];omega,fun f hf=>h.sigs f (Tu hf)⟩
theorem GL.len_take {ds:List Zf} {k j:Nat} {rq:List Func} (h:GL ds k j rq) (hk:k<=4):(rq.take k).length=k:=by rw [WT,h.len];omega
theorem GL.set {ds:List Zf} {k j:Nat} {rq:List Func} {f:Func} {e:Z1} (h:GL ds k j rq) (hj:1<=j) (hf:rq[j-1]? = some f) (he:eW ds k f.params.length e/\e.sz<=30):GL ds k (j-1) (rq.set (j-1) ⟨f.params,f.result,e⟩):=by
 have hl:=(Xs.1 hf).1
 refine ⟨by rw [T7];exact h.len,fun x hx=>?_,fun x hx=>?_,fun i x h1 h2 hx=>?_⟩
 ·rcases List.mem_or_eq_of_mem_set hx with hx|rfl
  ·exact h.sigs x hx
  ·exact h.sigs f (Y3 hf)
 ·rw [List.getElem?_set] at hx
  split at hx
  ·rename_i h0
   cases hx
   exact h.zero f (by rw [<-h0];exact hf)
  ·exact h.zero x hx
 ·rw [List.getElem?_set] at hx
  split at hx
  ·cases hx
   exact he
  ·exact h.body i x om h2 hx
theorem GL.done {ds:List Zf} {k:Nat} {rq:List Func} (h:GL ds k 0 rq) (hd:GD ds) (hk:1<=k/\k<=4):HS ⟨ds,rq.take k⟩:=by
 refine ⟨h.gp hd hk,fun f hf=>?_⟩
 show eW ds (rq.take k).length _ _/\_
 rw [h.len_take hk.2]
 obtain ⟨i,hi⟩:=Fq hf
 have hi2:i<(rq.take k).length:=(Xs.1 hi).1
 rw [h.len_take hk.2] at hi2
 rw [List.getElem?_take_of_lt hi2] at hi
 exact h.body i f om hi2 hi
theorem Mz {l:List Func} {f:Func} {k:Nat} (h:l[k]? = some f) (hl:l.all (fun f=>decide ((f.params,f.result)∈Aa))=true):Qk f:=show (f.params,f.result)∈Aa from of_decide_eq_true (A5.1 hl f (Y3 h))
theorem GL.start {ds:List Zf} {k:Nat} {e:Z1} {a b c:Func} (ha:Qk a) (hb:Qk b) (hc:Qk c):GL ds k k [⟨[],0,e⟩,a,b,c]:=by
 refine ⟨rfl,fun f hf=>?_,fun f hf=>?_,fun i f h1 h2=>by omega⟩
 ·rcases YE.1 hf with rfl|hf
  ·exact List.Mem.head _
  ·rcases YE.1 hf with rfl|hf
   ·exact ha
   ·rcases YE.1 hf with rfl|hf
    ·exact hb
    ·rw [XI.1 hf];exact hc
 ·cases hf;rfl
theorem Zeb {l:LI} {k:Nat} {a b:Nat} (h:(k:Int)∈l) (hl:l.all (fun x=>decide ((a:Int)<=x/\x<=b))=true):a<=k/\k<=b:=by
 have:=of_decide_eq_true (A5.1 hl _ h)
 omega
mutual
def Jy (p:Int->Prop):Z6->Prop
 | .mk op _ _ _ kids=>p op/\J5 p kids
def J5 (p:Int->Prop):List Z7->Prop
 | []=>True
 | b::r=>Uw p b/\J5 p r
def QZ (p:Int->Prop):List Z6->Prop
 | []=>True
 | s::r=>Jy p s/\QZ p r
def Uw (p:Int->Prop):Z7->Prop
 | .mk steps _=>QZ p steps
end
section
variable {p q:Int->Prop}
theorem H6 (s:Z6):Jy p s↔p s.op/\J5 p s.kids:=by cases s;rw [Jy];rfl
theorem LZ (b:Z7):Uw p b↔QZ p b.steps:=by cases b;rw [Uw];rfl
theorem EI:∀{xs:List Z7},J5 p xs↔∀b∈xs,Uw p b
 | []=>by simp [J5]
 | b::r=>by rw [J5,EI];simp
theorem Dw:∀{xs:List Z6},QZ p xs↔∀b∈xs,Jy p b
 | []=>by simp [QZ]
 | b::r=>by rw [QZ,Dw];simp
theorem M0 {xs ys:List Z6}:QZ p (xs++ys)↔QZ p xs/\QZ p ys:=by simp only [Dw,Xj];exact ⟨fun h=>⟨fun b hb=>h b (.inl hb),fun b hb=>h b (.inr hb)⟩,fun h b hb=>hb.elim (h.1 b) (h.2 b)⟩
theorem Sb {xs:List Z7} {b:Z7} (h:J5 p xs) (hb:Uw p b):J5 p (xs++[b]):=EI.2 (XU (EI.1 h) hb)
theorem H7 {xs:List Z6} {b:Z6} (h:QZ p xs) (hb:Jy p b):QZ p (xs++[b]):=Dw.2 (XU (Dw.1 h) hb)
end
def WU (op:Int):Prop:=op<=11
def JO (op:Int):Prop:=op<=15
end Go.Abs
