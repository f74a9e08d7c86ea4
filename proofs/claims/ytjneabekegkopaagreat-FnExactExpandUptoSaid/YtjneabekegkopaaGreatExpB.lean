/-
  A part of the proof of FnExactExpandUptoSaid (see the last file): no condition.
-/
import Derived.Test.YtjneabekegkopaaGreatExpA
set_option linter.all false
set_option linter.unusedVariables false
set_option linter.unusedSimpArgs false
set_option linter.unusedSectionVars false
section
namespace Go.Abs
theorem Zhu.mono {w:World} {G G':Prot} {v:Value} {k:Nat} {ls:List AV} (hA:Agree G w w G') (h:Zhu w G v k ls):Zhu w G' v k ls:=by
 rcases h with ⟨rfl,h0⟩|⟨g,len,cap,cur,el,rfl,h1,h2,h3,h4,h5⟩
 ·exact .inl ⟨rfl,h0⟩
 ·exact .inr ⟨g,len,cap,cur,el,rfl,h1,h2,h3,h4,h5.mono hA⟩
theorem ROk.same {w:World} {G G':Prot} {r:Res} (hA:Agree G w w G') (h:ROk w G r):ROk w G' r:=by
 cases r with
 | obj b ls=>obtain ⟨cs,e,h1,h2⟩:=h;exact ⟨cs,e,h1,h2.mono hA⟩
 | tail v k=>exact h
 | ge s=>exact h
 | vec v ls=>
  rcases h with ⟨rfl,h0⟩|⟨g,cap,cur,el,rfl,h1,h2,h3,h4⟩
  ·exact .inl ⟨rfl,h0⟩
  ·exact .inr ⟨g,cap,cur,el,rfl,h1,h2,h3,h4.mono hA⟩
 | many ts=>exact h
 | own B m=>exact h
 | row v k ls=>exact h.mono hA
theorem HOk.alloc_rrow {w:World} {G:Prot} {h:List Res} (hh:HOk w G h) (cs:Array Value) (t:TypeId) {ls:List AV} {len cap k:Nat} (hcap:len≤cap) (hsz:cs.size=cap*k) (hl:ls.length=len*k)
  (hls:RCs w G ls (cs.toList.take (len*k))) :
  HOk (w.alloc (.cells cs t)) G (.row (.slice (some ⟨w.heap.size,0,none⟩) len cap) k ls::h)∧Ext w G h (w.alloc (.cells cs t)) G (.row (.slice (some ⟨w.heap.size,0,none⟩) len cap) k ls::h):=by
 have hA:Agree G w (w.alloc (.cells cs t)) G:=⟨fun b j hg=>Zc8 w _ (hh.lt b j hg),fun _ _ h=>h⟩
 refine hh.alloc (.cells cs t) (h':=[.row (.slice (some ⟨w.heap.size,0,none⟩) len cap) k ls]) (fun _ _ h=>h) (fun _ _ h=>.inl h) ?_ ?_ (List.pairwise_singleton _ _) ?_
 ·intro r hr
  rw [List.mem_singleton.1 hr]
  exact .inr ⟨_,len,cap,cs,t,rfl,Zap w _,hcap,hsz,hl,hls.mono hA⟩
 ·intro r hr b j hf
  rw [List.mem_singleton.1 hr] at hf
  exact hf
 ·intro r hr b j hf hg
  rw [List.mem_singleton.1 hr] at hf
  have:=hh.lt b j hg
  have:b=w.heap.size:=hf
  omega
theorem HOk.rwrite {w:World} {G:Prot} {h2:List Res} {g len cap k:Nat} {ls ls':List AV} (hh:HOk w G (.row (.slice (some ⟨g,0,none⟩) len cap) k ls::h2)) {cs cs':Array Value} {e:TypeId}
  (hb:w.heap[g]? = some (.cells cs e (0,0))) (hsz:cs'.size=cs.size) (hle:len≤cap) (hcap:cs.size=cap*k) (hl:ls'.length=len*k) (hls:RCs w G ls' (cs'.toList.take (len*k))) :
  HOk (w.setRow g cs') G (.row (.slice (some ⟨g,0,none⟩) len cap) k ls'::h2) ∧
   Ext w G (.row (.slice (some ⟨g,0,none⟩) len cap) k ls::h2) (w.setRow g cs') G (.row (.slice (some ⟨g,0,none⟩) len cap) k ls'::h2):=by
 have hmem:Res.row (.slice (some ⟨g,0,none⟩) len cap) k ls∈Res.row (.slice (some ⟨g,0,none⟩) len cap) k ls::h2:=List.mem_cons_self ..
 have hA:Agree G w (w.setRow g cs') G:=⟨fun c j hg=>by
  have hne:c≠g:=fun he=>hh.prot _ hmem c j he hg
  simp [World.cell?,Zm w g c cs' hne],fun _ _ h=>h⟩
 have hpw:=List.pairwise_cons.1 hh.apart
 have hother:∀r∈h2,∀c j,r.fp c j→c≠g:=fun r hr c j hf hc=>hpw.1 r hr c j hc hf
 have e1:Ext w G [.row (.slice (some ⟨g,0,none⟩) len cap) k ls] (w.setRow g cs') G [.row (.slice (some ⟨g,0,none⟩) len cap) k ls']:=by
  refine ⟨rfl,rfl,rfl,by simp [World.setRow],fun _ _ h=>h,?_,fun _ _ _ h=>.inl h,?_⟩
  ·intro c hc
   by_cases hcb:c=g
   ·subst hcb
    exact .inr ⟨cs,cs',e,(0,0),hb,setRow_heap w c cs cs' e (0,0) hb,hsz,fun j hj=>absurd ⟨_,List.mem_cons_self ..,rfl⟩ hj⟩
   ·exact .inl (Zm w g c cs' hcb)
  ·rintro c j _ ⟨r,hr,hf⟩
   rw [List.mem_singleton.1 hr] at hf
   exact ⟨_,List.mem_cons_self ..,hf⟩
 have e2:HOk (w.setRow g cs') G [.row (.slice (some ⟨g,0,none⟩) len cap) k ls']:=by
  refine ⟨fun r hr=>?_,List.pairwise_singleton _ _,fun r hr c j hf hg=>?_,fun c j hg=>?_⟩
  ·rw [List.mem_singleton.1 hr]
   exact .inr ⟨g,len,cap,cs',e,rfl,setRow_heap w g cs cs' e (0,0) hb,hle,hsz.trans hcap,hl,hls.mono hA⟩
  ·rw [List.mem_singleton.1 hr] at hf
   exact hh.prot _ hmem c j hf hg
  ·have:=hh.lt c j hg
   simpa [World.setRow] using this
 exact HOk.frame (h:=[.row (.slice (some ⟨g,0,none⟩) len cap) k ls]) (k:=h2) hh e1 e2
theorem Z014 {w:World} {G:Prot} {h:List Res} {k:Nat} (hh:HOk w G h):HOk w G (.row (.slice none 0 0) k []::h)∧Ext w G h w G (.row (.slice none 0 0) k []::h):=
 ⟨⟨fun r hr=>by
   rcases List.mem_cons.1 hr with rfl|hr
   ·exact .inl ⟨rfl,rfl⟩
   ·exact hh.ok r hr,List.pairwise_cons.2 ⟨fun _ _ _ _ hf=>hf.elim,hh.apart⟩,fun r hr b o hf hg=>by
   rcases List.mem_cons.1 hr with rfl|hr
   ·exact hf.elim
   ·exact hh.prot r hr b o hf hg,hh.lt⟩,
  ⟨rfl,rfl,rfl,Nat.le_refl _,fun _ _ h=>h,fun _ _=>.inl rfl,fun _ _ _ h=>.inl h,fun b o _ ⟨r,hr,hf⟩=>by
   rcases List.mem_cons.1 hr with rfl|hr
   ·exact hf.elim
   ·exact ⟨r,hr,hf⟩⟩⟩
theorem Zhu.form {w:World} {G:Prot} {v:Value} {k:Nat} {ls:List AV} (h:Zhu w G v k ls):∃a len cap,v=.slice a len cap∧ls.length=len*k:=by
 rcases h with ⟨rfl,rfl⟩|⟨g,len,cap,cur,e,rfl,_,_,_,h4,_⟩
 ·exact ⟨none,0,0,rfl,by simp⟩
 ·exact ⟨_,len,cap,rfl,h4⟩
theorem Ze9 {w:World} {G:Prot} {v:Value} {k:Nat} {es:List AV} {h2:List Res} (hh:HOk w G (.row v k (flat es)::h2)) (hes:∀y∈es,y.leaves.length=k) (hk:0<k) :
  ∃G',HOk w G' (.tail v k::h2)∧Ext w G (.row v k (flat es)::h2) w G' (.tail v k::h2)∧RV w G' (.sl es (some v)) v:=by
 have hpw:=List.pairwise_cons.1 hh.apart
 have hfl:=Z1q es hes
 rcases hh.ok _ (List.mem_cons_self ..) with ⟨rfl,h0⟩|⟨g,len,cap,cur,e,rfl,h1,h3,h4,h5,h6⟩
 ·have hes0:es=[]:=by
   cases es with
   | nil=>rfl
   | cons y r=>
    have h7:0<(r.length+1)*k:=Nat.mul_pos om hk
    rw [h0,List.length_cons] at hfl
    rw [←hfl] at h7
    simp at h7
  subst hes0
  obtain ⟨k1,k2⟩:=Zg1 (sz:=k) (hh.sub (List.sublist_cons_self _ _))
  refine ⟨G,k1,⟨rfl,rfl,rfl,Nat.le_refl _,fun _ _ h=>h,fun _ _=>.inl rfl,fun _ _ _ h=>.inl h,?_⟩,.nil (by simp)⟩
  rintro b o _ ⟨r,hr,hf⟩
  rcases List.mem_cons.1 hr with rfl|hr
  ·exact hf.elim
  ·exact ⟨r,List.mem_cons_of_mem _ hr,hf⟩
 ·have hlen:len=es.length:=Nat.eq_of_mul_eq_mul_right hk (h5.symm.trans hfl)
  subst hlen
  let G':Prot:=fun b o=>G b o∨(b=g∧o<es.length*k)
  have hA:Agree G w w G':=⟨fun _ _ _=>rfl,fun _ _ h=>.inl h⟩
  have hmem:Res.row (.slice (some ⟨g,0,none⟩) es.length cap) k (flat es)∈Res.row (.slice (some ⟨g,0,none⟩) es.length cap) k (flat es)::h2:=List.mem_cons_self ..
  refine ⟨G',⟨fun r hr=>?_,List.pairwise_cons.2 ⟨fun r hr b o f1 f2=>hpw.1 r hr b o f1.1 f2,hpw.2⟩,fun r hr b o hf hg=>?_,fun b o hg=>?_⟩,
   ⟨rfl,rfl,rfl,Nat.le_refl _,fun _ _ h=>.inl h,fun _ _=>.inl rfl,fun b o _ hg=>hg.imp id fun ⟨e1,_⟩=>⟨_,hmem,e1⟩,?_⟩,?_⟩
  ·rcases List.mem_cons.1 hr with rfl|hr
   ·exact .inr ⟨g,es.length,cap,cur,e,rfl,h1,h3,h4⟩
   ·exact (hh.ok r (List.mem_cons_of_mem _ hr)).same hA
  ·rcases List.mem_cons.1 hr with rfl|hr2
   ·obtain ⟨hbg,hf2⟩:=hf
    rcases hg with hg|⟨_,hg⟩
    ·exact hh.prot _ hmem b o hbg hg
    ·omega
   ·rcases hg with hg|⟨hbg,_⟩
    ·exact hh.prot r (List.mem_cons_of_mem _ hr2) b o hf hg
    ·exact hpw.1 r hr2 b o hbg hf
  ·rcases hg with hg|⟨rfl,_⟩
   ·exact hh.lt b o hg
   ·exact (Array.getElem?_eq_some_iff.1 h1).1
  ·rintro b o _ ⟨r,hr,hf⟩
   rcases List.mem_cons.1 hr with rfl|hr
   ·exact ⟨_,hmem,hf.1⟩
   ·exact ⟨r,List.mem_cons_of_mem _ hr,hf⟩
  ·refine .sl (k:=k) (fun x hx=>by cases hx;rfl) h3 (REls.of_flat es hes (RMem.of_cells (h6.mono hA) fun j u hj=>?_))
   have hjl:j<es.length*k:=by
    have:=(List.getElem?_eq_some_iff.1 hj).1
    have h7:=h6.length
    omega
   rw [List.getElem?_take,if_pos hjl] at hj
   refine ⟨?_,.inr ⟨rfl,by omega⟩⟩
   rw [Nat.zero_add,cell_of_row w g j cur e (0,0) h1]
   simpa using hj
section
variable {P:Program} {n:Nat} {ops:Array Oper} {B:Fr→List Res→Prop} {k:Nat} {F:Fr} {h h2:List Res}
theorem Zho {k:Nat}:Turn h (.row (.slice none 0 0) k []::h):=fun _ _ hh=>let ⟨a,b⟩:=Z014 hh;⟨_,a,b⟩
theorem Z01o (j:Nat) {v:Value} {kk m:Nat} {ls:List AV} (hl:Zkb P ops F k=some (.val v)) (hj:h[j]? = some (.row v kk ls)) (hm:ls.length=m*kk) (hk:0<kk):StOK P (opAt ops k) F h [] (.val (.int .i64 m)):=by
 unfold Zkb at hl
 generalize hoo:opAt ops k=o at hl
 obtain ⟨dst,op,type,pos,after,guard⟩:=o
 cases op<;>simp only at hl<;>try (cases hl)
 rename_i c
 obtain ⟨callee,args,tys⟩:=c
 simp only at hl
 split at hl
 ·rename_i x t hargs htys
  split at hl
  ·rename_i el hu
   simp only [Option.some.injEq] at hl
   intro n w G a hF hh
   have hv:=hF.ev x
   rw [hl] at hv
   have hv:=hv.val_inv
   obtain ⟨ad,len,cap,rfl,hlen⟩:=Zhu.form (hh.ok _ (List.mem_of_getElem? hj))
   have:len=m:=Nat.eq_of_mul_eq_mul_right hk (hlen.symm.trans hm)
   subst this
   have e1:args=#[x]:=by rw [←Array.toArray_toList (xs:=args),hargs]
   have e2:tys=#[t]:=by rw [←Array.toArray_toList (xs:=tys),htys]
   subst e1;subst e2
   exact ⟨_,.val,fun w' _ _=>by simp [execOp,resolve,invoke,builtin,hv,Builtin.len_,Zx hu,goInt]⟩
  ·cases hl
 ·cases hl
def Zon (ops:Array Oper) (F:Fr) (k:Nat):Option (TypeId × AV):=
 match (opAt ops k).op with
 | .load t x=>some (t,F.ev x)
 | _=>none
theorem Zwp (j:Nat) {g len cap kk o:Nat} {ls zs:List AV} {t:TypeId} {y:AV} (hl:Zon ops F k=some (t,.val (.pointer (some ⟨g,o,none⟩)))) (hj:h[j]? = some (.row (.slice (some ⟨g,0,none⟩) len cap) kk ls))
  (hz:(ls.drop o).take zs.length=zs) (hy:Zcv P t zs=some y):StOK P (opAt ops k) F h [g] y:=by
 unfold Zon at hl
 generalize hoo:opAt ops k=q at hl
 obtain ⟨dst,op,type,pos,after,guard⟩:=q
 cases op<;>simp only at hl<;>try (cases hl)
 rename_i t' x
 intro n w G a hF hh
 simp only [Option.some.injEq,Prod.mk.injEq] at hl
 obtain ⟨rfl,hl⟩:=hl
 have hv:=hF.ev x
 rw [hl] at hv
 have hv:=hv.val_inv
 rcases hh.ok _ (List.mem_of_getElem? hj) with ⟨h0,_⟩|⟨g',len',cap',cur,e,h0,h1,h2,h3,h4,h5⟩
 ·cases h0
 ·cases h0
  have hc:=(h5.drop o).take zs.length
  rw [hz] at hc
  obtain ⟨v,j1,j2⟩:=Z4t (P:=P) (b:=g) (o:=o) hy hc
  refine ⟨v,j1,fun w' _ hw=>?_⟩
  have hrow:=hw g (by simp)
  rw [h1] at hrow
  simp only [execOp,hv]
  refine Z1a ?_
  simp only [Instr.loadAt,Instr.sureAddr,Sem.run_bind,Sem.run_pure,Result.andThen_ok]
  refine j2 w' fun j u hj=>?_
  rw [cell_of_row w' g (o+j) cur e (0,0) hrow]
  rw [List.getElem?_take] at hj
  split at hj
  ·rw [List.getElem?_drop,List.getElem?_take] at hj
   split at hj
   ·simpa using hj
   ·cases hj
  ·cases hj
theorem Zmn {K:Fr→List Res→Prop} {g len cap kk:Nat} {ls xs:List AV} {i:Nat} (hs:storeAt P ops F k=some (g,i,xs)) (hlt:i+xs.length≤ls.length)
  (hK:K F (.row (.slice (some ⟨g,0,none⟩) len cap) kk (ls.take i++xs++ls.drop (i+xs.length))::h2)):OpOK P n (opAt ops k) F (.row (.slice (some ⟨g,0,none⟩) len cap) kk ls::h2) K:=by
 unfold storeAt at hs
 generalize hoo:opAt ops k=q at hs
 obtain ⟨dst,op,type,pos,after,guard⟩:=q
 cases op<;>simp only at hs<;>try (cases hs)
 rename_i t x z
 split at hs
 ·rename_i b' o' inf hx hi
  split at hs
  ·rename_i hc
   simp only [Bool.and_eq_true] at hc
   simp only [Option.some.injEq,Prod.mk.injEq] at hs
   obtain ⟨rfl,rfl,hz⟩:=hs
   intro Q w G a hF hh
   have hvx:=hF.ev x
   rw [hx] at hvx
   have hvx:=hvx.val_inv
   have hvy:=hF.ev z
   have hcs:=hvy.cells hc.2.1
   rw [hz] at hcs hc
   have hone:=hcs.one_cells hc.2.2
   have hsz:inf.size=xs.length:=Nat.eq_of_beq_eq_true hc.1
   have hlen:(a.eval z).cells.size=xs.length:=by have:=hcs.length;simpa using this
   rcases hh.ok (.row (.slice (some ⟨b',0,none⟩) len cap) kk ls) (List.mem_cons_self ..) with ⟨h0,_⟩|⟨g',len',cap',cur,e,h0,h1,h2',h3,h4,h5⟩
   ·cases h0
   ·cases h0
    have hlc:len*kk≤cap*kk:=Nat.mul_le_mul_right _ h2'
    have hst:=run_storeCells_at P b' o' e (a.eval z).cells.toList 0 cur w h1 (by simp [hlen];omega) hone
    simp only [Nat.add_zero,Array.length_toList] at hst
    have hr:(execOp a.eval { dst:=none,op:=.store t x z,type:=type,pos:=pos,after:=after,guard:=guard }).run P w =
      .ok .skip (w.setRow b' (cur.toList.take o'++(a.eval z).cells.toList++cur.toList.drop (o'+(a.eval z).cells.size)).toArray):=by
     simp only [execOp,hvx]
     simp [Instr.storeAt,Instr.sureAddr,storeVar,Z2u hi,hlen,hsz,hst]
    unfold Oper.wp
    rw [hr]
    have hcl:(a.eval z).cells.toList.length=xs.length:=by simpa using hlen
    obtain ⟨j1,j2⟩:=hh.rwrite (ls':=ls.take o'++xs++ls.drop (o'+xs.length)) (cs':=(cur.toList.take o'++(a.eval z).cells.toList++cur.toList.drop (o'+(a.eval z).cells.size)).toArray) h1
     (by simp [hlen];omega) h2' h3 (by simp;omega) (by
      rw [List.toList_toArray,hlen]
      have e1:(cur.toList.take o'++(a.eval z).cells.toList++cur.toList.drop (o'+xs.length)).take (len*kk) =
        (cur.toList.take (len*kk)).take o'++(a.eval z).cells.toList++(cur.toList.take (len*kk)).drop (o'+xs.length):=by
       have q1:(cur.toList.take o'++(a.eval z).cells.toList).length=o'+xs.length:=by simp [hlen];omega
       rw [List.take_append,q1,List.take_of_length_le om,List.take_take,Nat.min_eq_left om,List.drop_take]
      rw [e1]
      exact ((h5.take o').append hcs).append (h5.drop _))
    refine ⟨F,_,G,hK,?_,j1,j2⟩
    have:=hF.mono (j2.agree hh)
    simpa [Act.put] using this
  ·cases hs
 ·cases hs
theorem Z00z {K:Fr→List Res→Prop} {sz:Nat} (hd:Z5p n (opAt ops k)=true) (ha:Ze5 P ops F k=some ([],0,sz))
  (hK:∀g,K (F.put (opAt ops k).dst (.val (.slice (some ⟨g,0,none⟩) 0 0))) (.row (.slice (some ⟨g,0,none⟩) 0 0) sz []::h)):OpOK P n (opAt ops k) F h K:=by
 unfold Ze5 at ha
 generalize hoo:opAt ops k=q at ha hd hK
 obtain ⟨dst,op,type,pos,after,guard⟩:=q
 cases op<;>simp only at ha<;>try (cases ha)
 rename_i t ln parts
 split at ha
 case h_2=>cases ha
 rename_i e ht
 split at ha
 case h_2=>cases ha
 rename_i i hi
 split at ha
 case h_2=>cases ha
 rename_i hc
 simp only [Bool.and_eq_true] at hc
 split at ha
 case h_2=>cases ha
 rename_i ls' hf
 simp only [Option.some.injEq,Prod.mk.injEq] at ha
 obtain ⟨rfl,rfl,hsz⟩:=ha
 intro Q w G a hF hh
 obtain ⟨cs,h1,h2⟩:=Z86 hF parts ht hi rfl hc.1 hc.2 hf
 have hr:(execOp a.eval { dst:=dst,op:=.buildSlice t 0 parts,type:=type,pos:=pos,after:=after,guard:=guard }).run P w =
   .ok (.value (.slice (some ⟨w.heap.size,0,none⟩) 0 0)) (w.alloc (.cells cs e)):=by
  simp only [execOp]
  exact Z1a h2
 unfold Oper.wp
 rw [hr]
 have hlc:=h1.length
 simp only [Array.length_toList] at hlc
 obtain ⟨j1,j2⟩:=hh.alloc_rrow cs e (ls:=[]) (len:=0) (cap:=0) (k:=sz) (Nat.le_refl _) (by simpa using hlc) (by simp) (by simpa using RCs.nil)
 exact ⟨_,_,G,hK _,(hF.mono (j2.agree hh)).put (Z1x hd) .val,j1,j2⟩
theorem Zvn {K:Fr→List Res→Prop} {g sz:Nat} {xs:List AV} {hx:Option Value} (hd:Z5p n (opAt ops k)=true) (ha:Z4o P ops F k=some (.val (.slice (some ⟨g,0,none⟩) 0 0),.sl xs hx,sz))
  (hxs:∀y∈xs,y.leaves.length=sz) (hbound:xs.length≤4294967296)
  (hK:∀v:Hd,K (F.put (opAt ops k).dst (.val v.v)) (.row v.v sz (flat xs)::h2)):OpOK P n (opAt ops k) F (.row (.slice (some ⟨g,0,none⟩) 0 0) sz []::h2) K:=by
 unfold Z4o at ha
 generalize hoo:opAt ops k=o at ha hd hK
 obtain ⟨dst,op,type,pos,after,guard⟩:=o
 cases op<;>simp only at ha<;>try (cases ha)
 rename_i c
 obtain ⟨callee,args,tys⟩:=c
 simp only at ha
 split at ha
 case h_2=>cases ha
 rename_i s x t t' hargs htys
 split at ha
 case h_2=>cases ha
 rename_i e htt ht
 have:=Nat.eq_of_beq_eq_true htt
 subst this
 split at ha
 case h_2=>cases ha
 rename_i i hinfo
 split at ha
 case h_2=>cases ha
 rename_i z hz
 split at ha
 case h_2=>cases ha
 rename_i hb
 simp only [Bool.and_eq_true] at hb
 simp only [Option.some.injEq,Prod.mk.injEq] at ha
 obtain ⟨h3,h4,hk1⟩:=ha
 have e1:args=#[s,x]:=by rw [←Array.toArray_toList (xs:=args),hargs]
 have e2:tys=#[t,t]:=by rw [←Array.toArray_toList (xs:=tys),htys]
 subst e1;subst e2
 have hzs:z.cells.size=sz:=by rw [Nat.eq_of_beq_eq_true hb.1,hk1]
 have hby:=Nat.le_of_ble_eq_true hb.2
 intro Q w G a hF hh
 have v1:=hF.ev s
 have v2:=hF.ev x
 rw [h3] at v1
 rw [h4] at v2
 have v1:=v1.val_inv
 have v2:=v2.forget
 have finish:∀(v':Hd) w',(Builtin.append_ #[t,t] type #[.slice (some ⟨g,0,none⟩) 0 0,a.eval x]).run P w=.ok v'.v w'→HOk w' G (.row v'.v sz (flat xs)::h2) →
   Ext w G (.row (.slice (some ⟨g,0,none⟩) 0 0) sz []::h2) w' G (.row v'.v sz (flat xs)::h2) →
   ({ dst:=dst,op:=.call { callee:=.builtin .append,args:=#[s,x],argTypes:=#[t,t] },type:=type,pos:=pos,after:=after,guard:=guard }:Oper).wp P a w
    (fun a' w'=>∃F' h' G',K F' h'∧FR w' G' n F' a'∧HOk w' G' h'∧Ext w G (.row (.slice (some ⟨g,0,none⟩) 0 0) sz []::h2) w' G' h') Q:=by
  intro v' w' hr j1 j2
  have hrun:(execOp a.eval { dst:=dst,op:=.call { callee:=.builtin .append,args:=#[s,x],argTypes:=#[t,t] },type:=type,pos:=pos,after:=after,guard:=guard }).run P w=.ok (.value v'.v) w':=by
   simp only [execOp,resolve,invoke,builtin,Sem.run_bind,Sem.run_pure,Result.andThen_ok,List.map_toArray,List.map_cons,List.map_nil,v1,hr]
  unfold Oper.wp
  rw [hrun]
  exact ⟨_,_,G,hK v',(hF.mono (j2.agree hh)).put (Z1x hd) .val,j1,j2⟩
 by_cases hxe:xs=[]
 ·subst hxe
  cases v2q:a.eval x with
  | slice ad' l' c'=>
   rw [v2q] at v2
   cases v2<;>exact finish ⟨some ⟨g,0,none⟩,0,0⟩ _ (by rw [v2q];exact Z3x ht hinfo (Nat.le_refl _) w) hh (Ext.refl w G _)
  | _=>rw [v2q] at v2;cases v2
 ·generalize hax:a.eval x=ax at v2 finish
  cases v2 with
  | nil _=>exact absurd rfl hxe
  | sl hq hcc hm=>
   rename_i b o' k' c
   have hpos:0<xs.length:=List.length_pos_iff.2 hxe
   have hfm:=hm.flat_mem
   obtain ⟨news,hn,hnc⟩:=hfm.cells
   have hfl:=Z1q xs hxs
   have hnl:news.length=xs.length*i.size:=by rw [hn.length,hfl,hk1]
   have hnews:∀j u,news[j]? = some u→w.cell? ((⟨b,o',none⟩:Addr).add j)=some u:=fun j u hj=>by rw [Z70];exact (hnc j u hj).1
   have hbb:(0+xs.length)*i.bytes≤140737488355328:=by
    have:=Nat.mul_le_mul hbound hby
    rw [Nat.zero_add]
    omega
   have hr:=run_append_grow (P:=P) w t type e i z ht hinfo hz ⟨g,0,none⟩ 0 0 [] (by simp) (fun j u hj=>by simp at hj) ⟨b,o',none⟩ xs.length c news hnl hnews om om (growslice_fits om hbb)
   simp only [Nat.zero_add] at hr
   have hge:=grownCap_ge w xs.length 0 e
   obtain ⟨j1,j2⟩:=hh.drew.alloc_rrow ([].toArray++news.toArray++Builtin.zeroCells z.cells (grownCap w xs.length 0 e-xs.length)) e
    (ls:=flat xs) (len:=xs.length) (cap:=grownCap w xs.length 0 e) (k:=sz) hge
    (by
     have q2:(grownCap w xs.length 0 e-xs.length)*sz=grownCap w xs.length 0 e*sz-xs.length*sz:=Nat.sub_mul ..
     have q3:xs.length*sz≤grownCap w xs.length 0 e*sz:=Nat.mul_le_mul_right _ hge
     simp only [Array.size_append,List.size_toArray,size_zeroCells,hzs,List.length_nil,Nat.zero_add,hnl,hk1]
     omega) hfl
    (by
     have q1:([].toArray++news.toArray++Builtin.zeroCells z.cells (grownCap w xs.length 0 e-xs.length)).toList.take (xs.length*sz)=news:=by
      simp only [Array.toList_append,List.nil_append]
      rw [←hk1,←hnl]
      exact List.take_left
     rw [q1]
     exact hn.mono (Z5u w G))
   have hs:List.Sublist (.row (.slice (some ⟨w.drew.heap.size,0,none⟩) xs.length (grownCap w xs.length 0 e)) sz (flat xs)::h2)
     (.row (.slice (some ⟨w.drew.heap.size,0,none⟩) xs.length (grownCap w xs.length 0 e)) sz (flat xs)::.row (.slice (some ⟨g,0,none⟩) 0 0) sz []::h2):=List.Sublist.cons_cons _ (List.sublist_cons_self _ _)
   exact finish ⟨some ⟨w.heap.size,0,none⟩,xs.length,grownCap w xs.length 0 e⟩ _ hr (j1.sub hs) ((Ext.drew w G _).trans (j2.sub' hs))
def Zop (P:Program) (ops:Array Oper) (F:Fr) (k:Nat):Option (Int × Int × List AV):=
 match (opAt ops k).op with
 | .makeSlice t l c=>match P.underlying t with
  | some (.slice e)=>match P.info? e with
   | some i=>match i.zero with
    | some z=>match Nat.beq i.size z.cells.toList.length&&Nat.ble i.bytes 32768,F.ev l,F.ev c with
     | true,.val (.int _ l),.val (.int _ c)=>some (l,c,z.cells.toList.map AV.ofVal)
     | _,_,_=>none
    | none=>none
   | none=>none
  | _=>none
 | _=>none
theorem Zb7 (zs:List Value) (hz:0<zs.length):∀n:Nat,(madeCells zs.toArray (n*zs.length)).toList=(List.replicate n zs).flatten
 | 0=>by simp [madeCells]
 | n+1=>by
  have ih:=Zb7 zs hz n
  have hlen:∀m,(madeCells zs.toArray m).toList.length=m:=fun m=>by simp [madeCells]
  have hget:∀m i,i<m→(madeCells zs.toArray m).toList[i]? = some (zs.toArray[i % zs.toArray.size]!):=fun m i hi=>by simp [madeCells,hi]
  rw [List.replicate_succ',List.flatten_append,←ih]
  apply List.ext_getElem?
  intro i
  simp only [List.flatten_cons,List.flatten_nil,List.append_nil]
  by_cases h1:i<n*zs.length
  ·rw [List.getElem?_append_left (by rw [hlen];exact h1),hget _ i h1,hget _ i (by rw [Nat.add_mul];omega)]
  ·rw [List.getElem?_append_right (by rw [hlen];omega),hlen]
   by_cases h2:i<(n+1)*zs.length
   ·rw [hget _ i h2]
    rw [Nat.add_mul] at h2
    have e:i=(i-n*zs.length)+zs.length*n:=by rw [Nat.mul_comm zs.length n];omega
    have e2:i % zs.length=i-n*zs.length:=by
     conv=>lhs;rw [e,Nat.add_mul_mod_self_left]
     exact Nat.mod_eq_of_lt om
    have h3:i-n*zs.length<zs.length:=by omega
    simp [e2,h3]
   ·rw [List.getElem?_eq_none (by rw [hlen];omega),List.getElem?_eq_none (by rw [Nat.add_mul] at h2;omega)]
theorem Zvu {w:World} {G:Prot} {xs:List AV} {vs:List Value} (h:RCs w G xs vs):∀n,RCs w G (List.replicate n xs).flatten (List.replicate n vs).flatten
 | 0=>by simpa using RCs.nil
 | n+1=>by simp only [List.replicate_succ,List.flatten_cons];exact h.append (Zvu h n)
theorem Zms {w:World} {G:Prot}:∀vs:List Value,RCs w G (vs.map AV.ofVal) vs
 | []=>.nil
 | v::r=>.cons (RV.ofVal v) (Zms r)
theorem Zyf {K:Fr→List Res→Prop} {l:Nat} {zs:List AV} (hd:Z5p n (opAt ops k)=true) (hm:Zop P ops F k=some ((l:Int),(l:Int),zs)) (hl:l≤4294967296) (hz:0<zs.length)
  (hK:∀g,K (F.put (opAt ops k).dst (.val (.slice (some ⟨g,0,none⟩) l l))) (.row (.slice (some ⟨g,0,none⟩) l l) zs.length (List.replicate l zs).flatten::h)):OpOK P n (opAt ops k) F h K:=by
 unfold Zop at hm
 generalize hoo:opAt ops k=o at hm hd hK
 obtain ⟨dst,op,type,pos,after,guard⟩:=o
 cases op<;>simp only at hm<;>try (cases hm)
 rename_i t lo co
 split at hm
 case h_2=>cases hm
 rename_i e ht
 split at hm
 case h_2=>cases hm
 rename_i i hi
 split at hm
 case h_2=>cases hm
 rename_i z hzz
 split at hm
 case h_2=>cases hm
 rename_i k1 l' k2 c' hb hlo hco
 simp only [Bool.and_eq_true] at hb
 simp only [Option.some.injEq,Prod.mk.injEq] at hm
 obtain ⟨rfl,rfl,rfl⟩:=hm
 intro Q w G a hF hh
 have v1:=hF.ev lo
 have v2:=hF.ev co
 rw [hlo] at v1
 rw [hco] at v2
 have v1:=v1.val_inv
 have v2:=v2.val_inv
 have hs:=Nat.eq_of_beq_eq_true hb.1
 have hbytes:=Nat.le_of_ble_eq_true hb.2
 have hr:=run_make (P:=P) w t e i z ht hi hzz k1 k2 (l:Int) (l:Int) om om (by
  have h1:(i.bytes:Int)≤32768:=by omega
  have h2:(i.bytes:Int)*(l:Int)≤32768*(l:Int):=Int.mul_le_mul_of_nonneg_right h1 om
  omega) om
 have hzl:(z.cells.toList.map AV.ofVal).length=z.cells.toList.length:=by simp
 have hr2:(execOp a.eval { dst:=dst,op:=.makeSlice t lo co,type:=type,pos:=pos,after:=after,guard:=guard }).run P w =
   .ok (.value (.slice (some ⟨w.heap.size,0,none⟩) l l)) (w.alloc (.cells (madeCells z.cells (l*i.size)) e)):=by
  simp only [execOp,v1,v2]
  simpa using Z1a hr
 unfold Oper.wp
 rw [hr2]
 have hmc:(madeCells z.cells (l*i.size)).toList=(List.replicate l z.cells.toList).flatten:=by
  rw [hs,←Zb7 _ (by rw [hzl] at hz;exact hz) l]
 rw [hzl] at hK
 obtain ⟨j1,j2⟩:=hh.alloc_rrow (madeCells z.cells (l*i.size)) e (ls:=(List.replicate l (z.cells.toList.map AV.ofVal)).flatten) (len:=l) (cap:=l) (k:=z.cells.toList.length) (Nat.le_refl _)
  (by rw [size_madeCells,hs]) (by simp) (by
   rw [hmc,List.take_of_length_le (by simp)]
   exact Zvu (Zms _) l)
 exact ⟨_,_,G,hK _,(hF.mono (j2.agree hh)).put (Z1x hd) .val,j1,j2⟩
theorem Zym {w:World} {G:Prot} {v:Hd} {kk m:Nat} {ls:List AV} (h:Zhu w G v.v kk ls) (hm:ls.length=m*kk) (hk:0<kk) (h0:0<m):∃g c,v=⟨some ⟨g,0,none⟩,m,c⟩:=by
 obtain ⟨a,l,c⟩:=v
 rcases h with ⟨h1,h2⟩|⟨g,len,cap,cur,e,h1,h2,h3,h4,h5,h6⟩
 ·subst h2
  have:=Nat.mul_pos h0 hk
  rw [List.length_nil] at hm
  omega
 ·cases h1
  have:l=m:=Nat.eq_of_mul_eq_mul_right hk (h5.symm.trans hm)
  subst this
  exact ⟨g,c,rfl⟩
theorem Zzo (j m:Nat) {v:Hd} {kk:Nat} {ls:List AV} {c:Code} {A:Post} (hj:h[j]? = some (.row v.v kk ls)) (hm:ls.length=m*kk) (hk:0<kk) (h0:0<m)
  (H:∀g c',v=⟨some ⟨g,0,none⟩,m,c'⟩→AWP P n c A F h):AWP P n c A F h:=by
 intro w G a hF hh
 obtain ⟨g,c',e⟩:=Zym (hh.ok _ (List.mem_of_getElem? hj)) hm hk h0
 exact H g c' e w G a hF hh
theorem Zt1 (t j:Nat) {v:Hd} {kk:Nat} {es:List AV} {c:Code} {A:Post} (hF':F.get t=.h v) (hp:Z5f [j] h=some [.row v.v kk (flat es)]) (hes:∀y∈es,y.leaves.length=kk) (hk:0<kk)
  (H:AWP P n c A ((t,.sl es (some v.v))::F) (.tail v.v kk::Z4h [j] h)):AWP P n c A F h:=by
 intro w G a hF hh
 have hp':=Z1n (Z38 hp)
 obtain ⟨G',h1,h2',h3⟩:=Ze9 (hh.perm hp') hes hk
 have e:=h2'.perm hp'.symm (List.Perm.refl _)
 have hF2:=hF.mono (e.agree hh)
 have hv:=hF2.get t
 rw [hF'] at hv
 have hv:=hv.val_inv
 refine wp_mono (H w G' a ⟨hF2.defers,hF2.size,fun s=>?_⟩ h1) fun e' a' w' hc=>hc.trans e
 show RV w G' (match Nat.beq t s with|true=>_|false=>Fr.get F s) _
 cases hb:Nat.beq t s with
 | true=>
  have:=Nat.eq_of_beq_eq_true hb
  subst this
  rw [hv]
  exact h3
 | false=>exact hF2.get s
theorem Znc (j i p:Nat) {u v:Value} {kk kv:Nat} {es ls:List AV} (hp:Z5f [j,i] h=some [.row u kk (flat es),.row v kv ls]) (hes:∀y∈es,y.leaves.length=kk) (hk:0<kk) (hl:ls[p]? = some (.val u)) :
  Turn h (.row v kv (ls.set p (.sl es (some u)))::.tail u kk::Z4h [j,i] h):=by
 intro w G hh
 have hp':=Z1n (Z38 hp)
 have hh':=hh.perm hp'
 obtain ⟨G',h1,h2',h3⟩:=Ze9 (h2:=.row v kv ls::Z4h [j,i] h) hh' hes hk
 have e:=h2'.perm hp'.symm (List.Perm.refl _)
 have h1:HOk w G' (.tail u kk::.row v kv ls::Z4h [j,i] h):=h1
 have perm:(Res.tail u kk::.row v kv ls::Z4h [j,i] h).Perm (.row v kv ls::.tail u kk::Z4h [j,i] h):=List.Perm.swap ..
 have h4:=h1.perm perm
 have e4:=e.perm (List.Perm.refl _) perm
 have hset:∀{w:World} {G:Prot},RV w G (.sl es (some u)) u→Zhu w G v kv ls→Zhu w G v kv (ls.set p (.sl es (some u))):=by
  intro w G hu hr
  rcases hr with ⟨rfl,h0⟩|⟨g,len,cap,cur,el,rfl,k1,k2,k3,k4,k5⟩
  ·exact .inl ⟨rfl,by rw [h0];rfl⟩
  ·refine .inr ⟨g,len,cap,cur,el,rfl,k1,k2,k3,by rw [List.length_set];exact k4,?_⟩
   obtain ⟨c,c1,c2⟩:=k5.get p _ hl
   have:=c2.val_inv
   subst this
   have h6:=k5.set p hu
   rwa [show (cur.toList.take (len*kv)).set p c=cur.toList.take (len*kv) from by
    apply List.ext_getElem?
    intro q
    rw [List.getElem?_set]
    split
    ·rename_i hq;subst hq;split
     ·exact c1.symm
     ·rename_i hq2;rw [List.getElem?_eq_none om]
    ·rfl] at h6
 refine ⟨G',⟨fun r hr=>?_,?_,fun r hr=>?_,h4.lt⟩,⟨e4.os,e4.tape,e4.output,e4.size,e4.sub,e4.same,e4.newG,fun b o hb ⟨r,hr,hf⟩=>e4.newfp b o hb ?_⟩⟩
 ·rcases List.mem_cons.1 hr with rfl|hr
  ·exact hset h3 (h4.ok _ (List.mem_cons_self ..))
  ·exact h4.ok r (List.mem_cons_of_mem _ hr)
 ·have:=List.pairwise_cons.1 h4.apart
  refine List.pairwise_cons.2 ⟨fun r hr b o f1 f2=>this.1 r hr b o ?_ f2,this.2⟩
  cases v with
  | slice a _ _=>cases a with
   | none=>exact f1.elim
   | some a=>exact f1
  | _=>exact f1.elim
 ·rcases List.mem_cons.1 hr with rfl|hr
  ·intro b o f1 hg
   refine h4.prot (.row v kv ls) (List.mem_cons_self ..) b o ?_ hg
   cases v with
   | slice a _ _=>cases a with
    | none=>exact f1.elim
    | some a=>exact f1
   | _=>exact f1.elim
  ·exact h4.prot r (List.mem_cons_of_mem _ hr)
 ·rcases List.mem_cons.1 hr with rfl|hr
  ·refine ⟨.row v kv ls,List.mem_cons_self ..,?_⟩
   cases v with
   | slice a _ _=>cases a with
    | none=>exact hf.elim
    | some a=>exact hf
   | _=>exact hf.elim
  ·exact ⟨r,List.mem_cons_of_mem _ hr,hf⟩
def bund:List Res→Option (List (Value × Nat))
 | []=>some []
 | .tail v k::r=>(bund r).map ((v,k)::·)
 | .many ts::r=>(bund r).map (ts++·)
 | _=>none
theorem Zbh {b o:Nat}:∀{hs:List Res} {L:List (Value × Nat)},bund hs=some L→((∃p∈L,Zhn p.1 p.2 b o)↔fps hs b o)
 | [],L,h=>by cases h;simp [fps]
 | .tail v k::r,L,h=>by
  rw [bund] at h
  cases hr:bund r with
  | none=>rw [hr] at h;cases h
  | some L'=>
   rw [hr] at h
   cases h
   have ih:=Zbh (b:=b) (o:=o) hr
   have ht:Res.fp (.tail v k) b o↔Zhn v k b o:=by
    cases v with
    | slice a _ _=>cases a<;>exact Iff.rfl
    | _=>exact Iff.rfl
   simp only [fps,List.mem_cons,exists_eq_or_imp] at ih ⊢
   rw [ht,ih]
 | .many ts::r,L,h=>by
  rw [bund] at h
  cases hr:bund r with
  | none=>rw [hr] at h;cases h
  | some L'=>
   rw [hr] at h
   cases h
   have ih:=Zbh (b:=b) (o:=o) hr
   simp only [fps,List.mem_cons,exists_eq_or_imp] at ih ⊢
   rw [←ih]
   simp only [List.mem_append,Res.fp]
   constructor
   ·rintro ⟨p,hp|hp,hf⟩
    ·exact .inl ⟨p,hp,hf⟩
    ·exact .inr ⟨p,hp,hf⟩
   ·rintro (⟨p,hp,hf⟩|⟨p,hp,hf⟩)
    ·exact ⟨p,.inl hp,hf⟩
    ·exact ⟨p,.inr hp,hf⟩
 | .obj _ _::_,_,h=>by cases h
 | .ge _::_,_,h=>by cases h
 | .vec _ _::_,_,h=>by cases h
 | .own _ _::_,_,h=>by cases h
 | .row _ _ _::_,_,h=>by cases h
theorem Znx {w:World} {G:Prot}:∀{hs:List Res} {L:List (Value × Nat)},bund hs=some L→(∀r∈hs,ROk w G r)→hs.Pairwise Disj→ROk w G (.many L)
 | [],L,h,_,_=>by cases h;exact ⟨by simp,.nil⟩
 | .tail v k::r,L,h,h1,h2=>by
  rw [bund] at h
  cases hr:bund r with
  | none=>rw [hr] at h;cases h
  | some L'=>
   rw [hr] at h
   cases h
   have hpw:=List.pairwise_cons.1 h2
   obtain ⟨i1,i2⟩:=Znx (w:=w) (G:=G) hr (fun q hq=>h1 q (List.mem_cons_of_mem _ hq)) hpw.2
   refine ⟨fun p hp=>?_,List.pairwise_cons.2 ⟨fun p hp b o f1 f2=>?_,i2⟩⟩
   ·rcases List.mem_cons.1 hp with rfl|hp
    ·exact h1 (.tail v k) (List.mem_cons_self ..)
    ·exact i1 p hp
   ·obtain ⟨q,hq,hf⟩:=(Zbh hr).1 ⟨p,hp,f2⟩
    refine hpw.1 q hq b o ?_ hf
    cases v with
    | slice a _ _=>cases a<;>exact f1
    | _=>exact f1
 | .many ts::r,L,h,h1,h2=>by
  rw [bund] at h
  cases hr:bund r with
  | none=>rw [hr] at h;cases h
  | some L'=>
   rw [hr] at h
   cases h
   have hpw:=List.pairwise_cons.1 h2
   obtain ⟨i1,i2⟩:=Znx (w:=w) (G:=G) hr (fun q hq=>h1 q (List.mem_cons_of_mem _ hq)) hpw.2
   obtain ⟨t1,t2⟩:=h1 (.many ts) (List.mem_cons_self ..)
   refine ⟨fun p hp=>?_,List.pairwise_append.2 ⟨t2,i2,fun p hp q hq b o f1 f2=>?_⟩⟩
   ·rcases List.mem_append.1 hp with hp|hp
    ·exact t1 p hp
    ·exact i1 p hp
   ·obtain ⟨s,hs,hf⟩:=(Zbh hr).1 ⟨q,hq,f2⟩
    exact hpw.1 s hs b o ⟨p,hp,f1⟩ hf
 | .obj _ _::_,_,h,_,_=>by cases h
 | .ge _::_,_,h,_,_=>by cases h
 | .vec _ _::_,_,h,_,_=>by cases h
 | .own _ _::_,_,h,_,_=>by cases h
 | .row _ _ _::_,_,h,_,_=>by cases h
theorem Zwz (is:List Nat) {L:List (Value × Nat)} {hs:List Res} (hp:Z5f is h=some hs) (hb:bund hs=some L):Turn h (.many L::Z4h is h):=by
 intro w G hh
 have hp':=Z1n (Z38 hp)
 have hh':=hh.perm hp'
 have hpw:=List.pairwise_append.1 hh'.apart
 have hmany:=Znx (w:=w) (G:=G) hb (fun r hr=>hh'.ok r (List.mem_append.2 (.inl hr))) hpw.1
 refine ⟨G,⟨fun r hr=>?_,List.pairwise_cons.2 ⟨fun r hr b o f1 f2=>?_,hpw.2.1⟩,fun r hr b o hf hg=>?_,hh'.lt⟩,
  ⟨rfl,rfl,rfl,Nat.le_refl _,fun _ _ h=>h,fun _ _=>.inl rfl,fun _ _ _ h=>.inl h,fun b o _ ⟨r,hr,hf⟩=>?_⟩⟩
 ·rcases List.mem_cons.1 hr with rfl|hr
  ·exact hmany
  ·exact hh'.ok r (List.mem_append.2 (.inr hr))
 ·exact hh'.cross ((Zbh hb).1 f1) ⟨r,hr,f2⟩
 ·rcases List.mem_cons.1 hr with rfl|hr
  ·obtain ⟨q,hq,hf⟩:=(Zbh hb).1 hf
   exact hh'.prot q (List.mem_append.2 (.inl hq)) b o hf hg
  ·exact hh'.prot r (List.mem_append.2 (.inr hr)) b o hf hg
 ·refine (Z7t hp').2 ?_
  rcases List.mem_cons.1 hr with rfl|hr
  ·exact Z4b.2 (.inl ((Zbh hb).1 hf))
  ·exact Z4b.2 (.inr ⟨r,hr,hf⟩)
end
end Go.Abs
end
section
namespace Go.Abs
structure HCon where
 fields:List Int
 fv:Value
structure HDecl where
 frm:Int
 to_:Int
 cons:List HCon
 cv:Value
mutual
inductive HStep where
 | mk (op num into:Int) (args:List Int) (av:Value) (kids:List HBlock) (kv:Value)
inductive HBlock where
 | mk (steps:List HStep) (sv:Value) (result:Int)
end
namespace HStep
def op:HStep→Int|.mk a _ _ _ _ _ _=>a
def num:HStep→Int|.mk _ a _ _ _ _ _=>a
def into:HStep→Int|.mk _ _ a _ _ _ _=>a
def args:HStep→List Int|.mk _ _ _ a _ _ _=>a
def av:HStep→Value|.mk _ _ _ _ a _ _=>a
def kids:HStep→List HBlock|.mk _ _ _ _ _ a _=>a
def kv:HStep→Value|.mk _ _ _ _ _ _ a=>a
end HStep
namespace HBlock
def steps:HBlock→List HStep|.mk a _ _=>a
def sv:HBlock→Value|.mk _ a _=>a
def result:HBlock→Int|.mk _ _ a=>a
end HBlock
structure HRoutine where
 params:List Int
 pv:Value
 lent:List Int
 lv:Value
 result:Int
 body:HBlock
structure HNormal where
 decls:List HDecl
 dv:Value
 routines:List HRoutine
 rv:Value
abbrev Zme (c:HCon):List AV:=[oInt c.fields c.fv]
abbrev Zzm (c:HCon):AV:=.agg (Zme c)
def Z2l (cs:List HCon):List AV:=cs.map Zzm
abbrev Z040 (xs:List HCon):AV:=.sl (Z2l xs) none
abbrev Zfb (xs:List HCon) (v:Value):AV:=.sl (Z2l xs) (some v)
abbrev Zeu (d:HDecl):List AV:=[.i d.frm,.i d.to_,Zfb d.cons d.cv]
abbrev Zsz (d:HDecl):AV:=.agg (Zeu d)
def Z18 (ds:List HDecl):List AV:=ds.map Zsz
abbrev Z03x (xs:List HDecl):AV:=.sl (Z18 xs) none
abbrev Z4z (xs:List HDecl) (v:Value):AV:=.sl (Z18 xs) (some v)
mutual
def Zu2:HStep→AV
 | .mk op num into args av kids kv=>.agg [.i op,.i num,.i into,oInt args av,.sl (Z16 kids) (some kv)]
def Zo9:HBlock→AV
 | .mk steps sv result=>.agg [.sl (Z1e steps) (some sv),.i result]
def Z1e:List HStep→List AV
 | []=>[]
 | s::ss=>Zu2 s::Z1e ss
def Z16:List HBlock→List AV
 | []=>[]
 | b::bs=>Zo9 b::Z16 bs
end
abbrev Z03y (xs:List HStep):AV:=.sl (Z1e xs) none
abbrev Z1k (xs:List HStep) (v:Value):AV:=.sl (Z1e xs) (some v)
abbrev Z03n (xs:List HBlock):AV:=.sl (Z16 xs) none
abbrev Z1s (xs:List HBlock) (v:Value):AV:=.sl (Z16 xs) (some v)
abbrev Zev (s:HStep):List AV:=[.i s.op,.i s.num,.i s.into,oInt s.args s.av,Z1s s.kids s.kv]
abbrev Z4x (s:HStep):AV:=.agg (Zev s)
abbrev Z7k (b:HBlock):List AV:=[Z1k b.steps b.sv,.i b.result]
abbrev Z3g (b:HBlock):AV:=.agg (Z7k b)
abbrev Z6m (r:HRoutine):List AV:=[oInt r.params r.pv,oInt r.lent r.lv,.i r.result,Z1k r.body.steps r.body.sv,.i r.body.result]
abbrev Zg7 (r:HRoutine):AV:=.agg (Z6m r)
def Z0s (rs:List HRoutine):List AV:=rs.map Zg7
abbrev Zvh (xs:List HRoutine):AV:=.sl (Z0s xs) none
abbrev Z33 (xs:List HRoutine) (v:Value):AV:=.sl (Z0s xs) (some v)
abbrev Z7w (n:HNormal):List AV:=[Z4z n.decls n.dv,Z33 n.routines n.rv]
abbrev Z23 (n:HNormal):AV:=.agg (Z7w n)
theorem Zcd (s:HStep):Zu2 s=Z4x s:=by cases s;rw [Zu2];rfl
theorem Zal (b:HBlock):Zo9 b=Z3g b:=by cases b;rw [Zo9];rfl
theorem Z3o:∀xs:List HStep,Z1e xs=xs.map Z4x
 | []=>by rw [Z1e];rfl
 | s::ss=>by rw [Z1e,Z3o ss,Zcd];rfl
theorem Z3z:∀xs:List HBlock,Z16 xs=xs.map Z3g
 | []=>by rw [Z16];rfl
 | b::bs=>by rw [Z16,Z3z bs,Zal];rfl
@[simp] theorem Zjt (xs:List HCon):(Z2l xs).length=xs.length:=by simp [Z2l]
theorem Zcc (xs ys:List HCon):Z2l (xs++ys)=Z2l xs++Z2l ys:=by simp [Z2l]
theorem Zds (xs:List HCon):∀y∈Z2l xs,y.leaves.length=1:=by intro y hy;simp only [Z2l,List.mem_map] at hy;obtain ⟨x,_,rfl⟩:=hy;rfl
@[simp] theorem Zhv (xs:List HDecl):(Z18 xs).length=xs.length:=by simp [Z18]
theorem Zb4 (xs ys:List HDecl):Z18 (xs++ys)=Z18 xs++Z18 ys:=by simp [Z18]
theorem Zbk (xs:List HDecl):∀y∈Z18 xs,y.leaves.length=3:=by intro y hy;simp only [Z18,List.mem_map] at hy;obtain ⟨x,_,rfl⟩:=hy;rfl
@[simp] theorem Zb5 (xs:List HStep):(Z1e xs).length=xs.length:=by simp [Z3o]
theorem Z4a (xs ys:List HStep):Z1e (xs++ys)=Z1e xs++Z1e ys:=by simp [Z3o]
theorem Z56 (xs:List HStep):∀y∈Z1e xs,y.leaves.length=5:=by intro y hy;simp only [Z3o,List.mem_map] at hy;obtain ⟨x,_,rfl⟩:=hy;rfl
@[simp] theorem Zgl (xs:List HBlock):(Z16 xs).length=xs.length:=by simp [Z3z]
theorem Z5j (xs ys:List HBlock):Z16 (xs++ys)=Z16 xs++Z16 ys:=by simp [Z3z]
theorem Z6j (xs:List HBlock):∀y∈Z16 xs,y.leaves.length=2:=by intro y hy;simp only [Z3z,List.mem_map] at hy;obtain ⟨x,_,rfl⟩:=hy;rfl
@[simp] theorem Zdt (xs:List HRoutine):(Z0s xs).length=xs.length:=by simp [Z0s]
theorem Z8g (xs ys:List HRoutine):Z0s (xs++ys)=Z0s xs++Z0s ys:=by simp [Z0s]
theorem Z6a (xs:List HRoutine):∀y∈Z0s xs,y.leaves.length=5:=by intro y hy;simp only [Z0s,List.mem_map] at hy;obtain ⟨x,_,rfl⟩:=hy;rfl
theorem Zhw (xs:List HRoutine):(flat (Z0s xs)).all AV.one=true:=Z6b fun y hy=>by simp only [Z0s,List.mem_map] at hy;obtain ⟨x,_,rfl⟩:=hy;rfl
def Z3k (c:HCon):List (Value × Nat):=[(c.fv,1)]
def Z13 (cs:List HCon):List (Value × Nat):=cs.flatMap Z3k
def Z25 (d:HDecl):List (Value × Nat):=Z13 d.cons++[(d.cv,1)]
def Z0f (ds:List HDecl):List (Value × Nat):=ds.flatMap Z25
mutual
def Z1p:HStep→List (Value × Nat)
 | .mk _ _ _ _ av kids kv=>(av,1)::(Zp kids++[(kv,2)])
def Z06:HBlock→List (Value × Nat)
 | .mk steps sv _=>Zs steps++[(sv,5)]
def Zs:List HStep→List (Value × Nat)
 | []=>[]
 | s::r=>Z1p s++Zs r
def Zp:List HBlock→List (Value × Nat)
 | []=>[]
 | b::r=>Z06 b++Zp r
end
def Z0l (r:HRoutine):List (Value × Nat):=(r.pv,1)::(r.lv,1)::Z06 r.body
def Ze (rs:List HRoutine):List (Value × Nat):=rs.flatMap Z0l
def Zz (n:HNormal):List (Value × Nat):=Z0f n.decls++((n.dv,3)::(Ze n.routines++[(n.rv,5)]))
theorem Zao (b:HBlock):Z06 b=Zs b.steps++[(b.sv,5)]:=by cases b;rw [Z06];rfl
theorem Z04:∀(xs:List HStep) (ys:List HStep),Zs (xs++ys)=Zs xs++Zs ys
 | [],ys=>by simp [Zs]
 | x::r,ys=>by rw [List.cons_append,Zs,Zs,Z04 r ys,List.append_assoc]
theorem Zw:∀(xs:List HBlock) (ys:List HBlock),Zp (xs++ys)=Zp xs++Zp ys
 | [],ys=>by simp [Zp]
 | x::r,ys=>by rw [List.cons_append,Zp,Zp,Zw r ys,List.append_assoc]
theorem Z08:Zs []=[]:=by rw [Zs]
theorem Zy:Zp []=[]:=by rw [Zp]
theorem Z0m (xs ys:List HCon):Z13 (xs++ys)=Z13 xs++Z13 ys:=by simp [Z13]
theorem Z07 (xs ys:List HDecl):Z0f (xs++ys)=Z0f xs++Z0f ys:=by simp [Z0f]
theorem hdRoutines_app (xs ys:List HRoutine):Ze (xs++ys)=Ze xs++Ze ys:=by simp [Ze]
def HCon.er (c:HCon):Con:=⟨c.fields⟩
def HDecl.er (d:HDecl):Decl:=⟨d.frm,d.to_,d.cons.map HCon.er⟩
mutual
def HStep.er:HStep→Step
 | .mk op num into args _ kids _=>.mk op num into args (erBs kids)
def HBlock.er:HBlock→Block
 | .mk steps _ result=>.mk (erSs steps) result
def erSs:List HStep→List Step
 | []=>[]
 | s::r=>s.er::erSs r
def erBs:List HBlock→List Block
 | []=>[]
 | b::r=>b.er::erBs r
end
def HRoutine.er (r:HRoutine):Routine:=⟨r.params,r.lent,r.result,r.body.er⟩
def HNormal.er (n:HNormal):Normal:=⟨n.decls.map HDecl.er,n.routines.map HRoutine.er⟩
theorem Zfn:∀xs:List HStep,erSs xs=xs.map HStep.er
 | []=>by rw [erSs];rfl
 | x::r=>by rw [erSs,Zfn r];rfl
theorem Zfm:∀xs:List HBlock,erBs xs=xs.map HBlock.er
 | []=>by rw [erBs];rfl
 | x::r=>by rw [erBs,Zfm r];rfl
inductive EsLe:List AV→List AV→Prop
 | nil:EsLe [] []
 | cons {x y:AV} {xs ys:List AV} (hl:x.leaves.length=y.leaves.length) (h:LsLe x.leaves y.leaves) (t:EsLe xs ys):EsLe (x::xs) (y::ys)
theorem EsLe.length:∀{xs ys:List AV},EsLe xs ys→xs.length=ys.length
 | _,_,.nil=>rfl
 | _,_,.cons _ _ t=>by simp [t.length]
theorem EsLe.els {w:World} {G:Prot} {k b:Nat}:∀{o:Nat} {xs ys:List AV},EsLe xs ys→REls w G k b o xs→REls w G k b o ys
 | _,_,_,.nil,_=>.nil
 | _,_,_,.cons hl h t,.cons hk hm r=>.cons (hl▸hk) (h.mem hm) (t.els r)
theorem AVLe.els {es es':List AV} (hv:Option Value) (h:EsLe es es'):AVLe (.sl es hv) (.sl es' none):=by
 intro w G v hr
 cases hr with
 | nil _=>cases h;exact .nil (by simp)
 | sl _ hc hm=>rw [h.length] at hc ⊢;exact .sl (by simp) hc (h.els hm)
theorem EsLe.map {α β:Type} {f:α→AV} {g:β→AV} {e:α→β} (h:∀x,(f x).leaves.length=(g (e x)).leaves.length∧LsLe (f x).leaves (g (e x)).leaves):∀xs:List α,EsLe (xs.map f) ((xs.map e).map g)
 | []=>.nil
 | x::r=>.cons (h x).1 (h x).2 (EsLe.map h r)
theorem Zyb (c:HCon):LsLe (Zme c) (lCon c.er):=.cons (AVLe.forget _ _) .nil
theorem Zu8 (cs:List HCon):EsLe (Z2l cs) (Z1f (cs.map HCon.er)):=EsLe.map (f:=Zzm) (g:=aCon) (e:=HCon.er) (fun c=>⟨rfl,Zyb c⟩) cs
theorem Zvb (d:HDecl):LsLe (Zeu d) (Z2i d.er):=.cons (AVLe.refl _) (.cons (AVLe.refl _) (.cons (AVLe.els _ (Zu8 _)) .nil))
theorem Zrj (ds:List HDecl):EsLe (Z18 ds) (Zt (ds.map HDecl.er)):=EsLe.map (f:=Zsz) (g:=Z2q) (e:=HDecl.er) (fun c=>⟨rfl,Zvb c⟩) ds
mutual
theorem Zvc:∀s:HStep,LsLe (Zev s) (Z0j s.er)
 | .mk op num into args av kids kv=>by
  rw [HStep.er]
  exact .cons (AVLe.refl _) (.cons (AVLe.refl _) (.cons (AVLe.refl _) (.cons (AVLe.forget _ _) (.cons (AVLe.els _ (Zgo kids)) .nil))))
theorem Zj2:∀b:HBlock,LsLe (Z7k b) (Z1b b.er)
 | .mk steps sv result=>by
  rw [HBlock.er]
  exact .cons (AVLe.els _ (Zin steps)) (.cons (AVLe.refl _) .nil)
theorem Zin:∀xs:List HStep,EsLe (Z1e xs) (Z0t (erSs xs))
 | []=>by rw [Z1e,erSs,Z0t];exact .nil
 | s::r=>by
  rw [Z1e,erSs,Z0t,Zcd,Zpo]
  exact .cons rfl (Zvc s) (Zin r)
theorem Zgo:∀xs:List HBlock,EsLe (Z16 xs) (Z0i (erBs xs))
 | []=>by rw [Z16,erBs,Z0i];exact .nil
 | s::r=>by
  rw [Z16,erBs,Z0i,Zal,Zlu]
  exact .cons rfl (Zj2 s) (Zgo r)
end
theorem Zmj (r:HRoutine):LsLe (Z6m r) (Z1m r.er):=by
 have h:=Zj2 r.body
 cases h with
 | cons h1 t=>cases t with
  | cons h2 _=>exact .cons (AVLe.forget _ _) (.cons (AVLe.forget _ _) (.cons (AVLe.refl _) (.cons h1 (.cons h2 .nil))))
theorem Zjy (rs:List HRoutine):EsLe (Z0s rs) (Zr (rs.map HRoutine.er)):=EsLe.map (f:=Zg7) (g:=Z0o) (e:=HRoutine.er) (fun c=>⟨rfl,Zmj c⟩) rs
theorem Zoo (n:HNormal):LsLe (Z7w n) (Zi n.er):=.cons (AVLe.els _ (Zrj _)) (.cons (AVLe.els _ (Zjy _)) .nil)
theorem Z5y (n:HNormal):AVLe (Z23 n) (Zh n.er):=AVLe.agg (Zoo n)
theorem Z3.args_le {P:Program} {f:FuncId} {as1 xs:List AV} {h:List Res} {R:AV→List Res→Prop} (H:Z3 P f xs h R) (hle:LsLe as1 xs):Z3 P f as1 h R:=
 fun w G vs hvs hh=>H w G vs (hle.cs hvs) hh
theorem Z57 {es:List AV} {k:Nat} (h:es.all (fun y=>Nat.beq y.leaves.length k)=true):∀y∈es,y.leaves.length=k:=fun y hy=>Nat.eq_of_beq_eq_true (List.all_eq_true.1 h y hy)
abbrev rK (g:Hd) (k:Nat) (ls:List AV):Res:=.row g.v k ls
section
variable {P:Program} {n:Nat} {c:Code} {A:Post} {F:Fr} {h:List Res} {ops:Array Oper} {B:Fr→List Res→Prop} {k:Nat}
variable {T:List (Nat × List Nat)} {fuel:Nat} {done:List Nat}
theorem tB (is:List Nat) (hs:List Res) (L' L:List (Value × Nat)) (e:L'=L) (hp:Z5f is h=some hs:=by kernel_rfl) (hb:bund hs=some L':=by kernel_rfl):Turn h (.many L::Z4h is h):=e▸Zwz is hp hb
theorem rr {v:Value} {q:Nat} {ls ls':List AV} {t t':List Res} (h:ls=ls') (e:t=t'):Res.row v q ls::t=.row v q ls'::t':=h▸e▸rfl
theorem kLen (j m:Nat) (v:Hd) (kk:Nat) (ls:List AV) (hm:ls.length=m*kk) (hk:0<kk:=by omega) (hl:Zkb P ops F k=some (.h v):=by kernel_rfl) (hj:h[j]? = some (rK v kk ls):=by kernel_rfl):StOK P (opAt ops k) F h [] (.i m):=
 Z01o j hl hj hm hk
theorem kIdx (b l c' q sz:Nat) (j:Int) (hq:j=(q:Int)∧q<l:=by omega) (hi:Z7v P ops F k=some (.val (.slice (some ⟨b,0,none⟩) l c'),j,sz):=by kernel_rfl):StOK P (opAt ops k) F h [] (.val (.pointer (some ⟨b,q*sz,none⟩))):=by
 have:=Z9e (P:=P) (F:=F) (h:=h) hi om om
 rw [hq.1,Int.toNat_natCast,Nat.zero_add] at this
 exact this
theorem Z02r (j g len cap kk o:Nat) (ls zs:List AV) (t:TypeId) (y:AV) (hz:(ls.drop o).take zs.length=zs) (hl:Zon ops F k=some (t,.val (.pointer (some ⟨g,o,none⟩))):=by kernel_rfl) (hj:h[j]? = some (.row (.slice (some ⟨g,0,none⟩) len cap) kk ls):=by kernel_rfl)
  (hy:Zcv P t zs=some y:=by kernel_rfl):StOK P (opAt ops k) F h [g] y:=Zwp j hl hj hz hy
theorem iKS (j g len cap kk o:Nat) (xs ls:List AV) (ls':List AV) (hlt:o+xs.length≤ls.length) (he:ls.take o++xs++ls.drop (o+xs.length)=ls') (H:SI P n ops B (k+1) F (.row (.slice (some ⟨g,0,none⟩) len cap) kk ls'::Z4h [j] h)) (hk:okAt n ops F k=true:=by kernel_rfl)
  (hs:storeAt P ops F k=some (g,o,xs):=by kernel_rfl) (hp:Z5f [j] h=some [.row (.slice (some ⟨g,0,none⟩) len cap) kk ls]:=by kernel_rfl):SI P n ops B k F h:=
 i_op hk (OpOK.perm (Z1n (Z38 hp)) (Zmn hs hlt (by rw [he];exact H)))
theorem dKS (i j:Nat) (js bs:List Nat) (g len cap kk o:Nat) (xs ls:List AV) (ls':List AV) (hlt:o+xs.length≤ls.length) (he:ls.take o++xs++ls.drop (o+xs.length)=ls')
  (H:DGo P n ops B (T.filter fun t=>!befB ops i t.1) fuel (done++[i]) F (.row (.slice (some ⟨g,0,none⟩) len cap) kk ls'::Z4h [j] h)) (hk:okAt n ops F i=true:=by kernel_rfl)
  (hs:storeAt P ops F i=some (g,o,xs):=by kernel_rfl) (hp:Z5f [j] h=some [.row (.slice (some ⟨g,0,none⟩) len cap) kk ls]:=by kernel_rfl) (ho:Z9t ops i T=bs:=by kernel_rfl)
  (hj:js.map (fun q=>(Z15 (Z4h [j] h))[q]?)=bs.map some:=by kernel_rfl):DOp P n ops B T fuel done F h i:=
 dop [j] js bs hk (Z38 hp) ho hj (Zmn (h2:=[]) hs hlt (by rw [he];exact H))
theorem iKL (sz:Nat) (hK:∀g,SI P n ops B (k+1) (F.put (opAt ops k).dst (.val (.slice (some ⟨g,0,none⟩) 0 0))) (.row (.slice (some ⟨g,0,none⟩) 0 0) sz []::h)) (hk:okAt n ops F k=true:=by kernel_rfl)
  (ha:Ze5 P ops F k=some ([],0,sz):=by kernel_rfl):SI P n ops B k F h:=i_op hk (Z00z (Z1v hk).2.1 ha hK)
theorem iKC (j g sz:Nat) (xs:List AV) (hx:Option Value) (hxs:∀y∈xs,y.leaves.length=sz) (hbound:xs.length≤4294967296) (hK:∀v:Hd,SI P n ops B (k+1) (F.put (opAt ops k).dst (.h v)) (rK v sz (flat xs)::Z4h [j] h))
  (hk:okAt n ops F k=true:=by kernel_rfl) (ha:Z4o P ops F k=some (.val (.slice (some ⟨g,0,none⟩) 0 0),.sl xs hx,sz):=by kernel_rfl) (hp:Z5f [j] h=some [.row (.slice (some ⟨g,0,none⟩) 0 0) sz []]:=by kernel_rfl):SI P n ops B k F h:=
 i_op hk (OpOK.perm (Z1n (Z38 hp)) (Zvn (Z1v hk).2.1 ha hxs hbound hK))
theorem iKM (l:Nat) (zs:List AV) (kk:Nat) (hK:∀g,SI P n ops B (k+1) (F.put (opAt ops k).dst (.val (.slice (some ⟨g,0,none⟩) l l))) (.row (.slice (some ⟨g,0,none⟩) l l) kk (List.replicate l zs).flatten::h)) (hl:l≤4294967296:=by omega)
  (hk:okAt n ops F k=true:=by kernel_rfl) (hm:Zop P ops F k=some ((l:Int),(l:Int),zs):=by kernel_rfl) (hz:zs.length=kk:=by rfl) (hk0:0<kk:=by omega):SI P n ops B k F h:=by
 subst hz
 exact i_op hk (Zyf (Z1v hk).2.1 hm hl hk0 hK)
theorem Z02q (j m:Nat) {v:Hd} {kk:Nat} {ls:List AV} (hm:ls.length=m*kk) (h0:0<m) (H:∀g c',v=⟨some ⟨g,0,none⟩,m,c'⟩→AWP P n c A F h) (hk:0<kk:=by omega) (hj:h[j]? = some (rK v kk ls):=by kernel_rfl):AWP P n c A F h:=
 Zzo j m hj hm hk h0 H
theorem kFrz (t j:Nat) {v:Hd} {kk:Nat} (es:List AV) (hes:∀y∈es,y.leaves.length=kk) (H:AWP P n c A ((t,.sl es (some v.v))::F) (.tail v.v kk::Z4h [j] h)) (hk:0<kk:=by omega) (hF':F.get t=.h v:=by kernel_rfl)
  (hp:Z5f [j] h=some [rK v kk (flat es)]:=by kernel_rfl):AWP P n c A F h:=Zt1 t j hF' hp hes hk H
theorem tFrz (j i p:Nat) (u v:Value) (kk kv:Nat) (es ls:List AV) (hes:∀y∈es,y.leaves.length=kk) (hl:ls[p]? = some (.val u)) (hk:0<kk:=by omega) (hp:Z5f [j,i] h=some [.row u kk (flat es),.row v kv ls]:=by kernel_rfl) :
  Turn h (.row v kv (ls.set p (.sl es (some u)))::.tail u kk::Z4h [j,i] h):=Znc j i p hp hes hk hl
theorem Zaa {A xs ys B:List AV} {o:Nat} (hA:A.length=o) (hl:xs.length=ys.length):(A++(xs++B)).take o++ys++(A++(xs++B)).drop (o+ys.length)=A++(ys++B):=by
 subst hA
 rw [List.take_left,←hl,←List.drop_drop,List.drop_left,List.drop_left,List.append_assoc]
theorem Zw1 {A xs B:List AV} {o:Nat} (hA:A.length=o):((A++(xs++B)).drop o).take xs.length=xs:=by
 subst hA
 rw [List.drop_left,List.take_left]
theorem Z4f (xs ys:List AV):flat (xs++ys)=flat xs++flat ys:=by simp [flat]
theorem tRow (j:Nat) (v:Value) (q:Nat) (ls ls':List AV) (e:ls=ls') (hp:Z5f [j] h=some [.row v q ls]:=by kernel_rfl):Turn h (.row v q ls'::Z4h [j] h):=by
 subst e
 intro w G hh
 have hp':=Z1n (Z38 hp)
 exact ⟨G,hh.perm hp',(Ext.refl w G h).perm (List.Perm.refl _) hp'⟩
end
end Go.Abs
end
section
namespace Go.Abs
abbrev Mem:=Nat→Nat→Option Value
abbrev Adr:=Nat × Nat
def upd (m:Mem) (a:Adr) (z:Int):Mem:=fun g o=>if g=a.1∧o=a.2 then some (.int .i64 z) else m g o
def wr (m:Mem):List Adr→Int→Mem
 | [],_=>m
 | a::r,k=>wr (upd m a k) r (k+1)
def hold (m:Mem):List Adr→Int→Prop
 | [],_=>True
 | a::r,k=>m a.1 a.2=some (.int .i64 k)∧hold m r (k+1)
theorem Zf3:∀(as1 bs:List Adr) (m:Mem) (k:Int),wr m (as1++bs) k=wr (wr m as1 k) bs (k+as1.length)
 | [],bs,m,k=>by simp [wr]
 | a::r,bs,m,k=>by
  rw [List.cons_append,wr,wr,Zf3 r bs,List.length_cons]
  congr 1
  omega
theorem Z53:∀(as1 bs:List Adr) (m:Mem) (k:Int),hold m (as1++bs) k↔hold m as1 k∧hold m bs (k+as1.length)
 | [],bs,m,k=>by simp [hold]
 | a::r,bs,m,k=>by
  rw [List.cons_append,hold,hold,Z53 r bs,List.length_cons,and_assoc,show k+1+(r.length:Int)=k+((r.length+1:Nat):Int) by omega]
theorem Zqy:∀(as1:List Adr) (m:Mem) (k:Int) (b:Adr),b∉as1→wr m as1 k b.1 b.2=m b.1 b.2
 | [],m,k,b,_=>rfl
 | a::r,m,k,b,h=>by
  rw [wr,Zqy r _ _ b fun q=>h (List.mem_cons_of_mem _ q),upd,if_neg]
  rintro ⟨h1,h2⟩
  exact h (by rw [show b=a from Prod.ext h1 h2];exact List.mem_cons_self ..)
theorem Zoi:∀(as1:List Adr) (m:Mem) (k:Int),as1.Nodup→hold (wr m as1 k) as1 k
 | [],m,k,_=>trivial
 | a::r,m,k,h=>by
  have hn:=List.nodup_cons.1 h
  refine ⟨?_,Zoi r _ _ hn.2⟩
  rw [wr,Zqy r _ _ a hn.1,upd,if_pos ⟨rfl,rfl⟩]
def isI (m:Mem) (a:Adr):Prop:=∃z,m a.1 a.2=some (.int .i64 z)
structure Kp (m m':Mem):Prop where
 i:∀{a:Adr},isI m a→isI m' a
 h:∀{g o:Nat} {v:Value},m g o=some v→(∀z,v≠.int .i64 z)→m' g o=some v
theorem Kp.refl (m:Mem):Kp m m:=⟨id,fun h _=>h⟩
theorem Kp.upd {m m':Mem} (k:Kp m m') {b:Adr} (hb:isI m b) (z:Int):Kp m (upd m' b z):=by
 refine ⟨fun {a} h=>?_,fun {g o v} h hv=>?_⟩
 ·by_cases e:a=b
  ·subst e;exact ⟨z,if_pos ⟨rfl,rfl⟩⟩
  ·obtain ⟨y,hy⟩:=k.i h
   exact ⟨y,(if_neg fun q=>e (Prod.ext q.1 q.2)).trans hy⟩
 ·show (if g=b.1∧o=b.2 then some (Value.int .i64 z) else m' g o)=some v
  rw [if_neg]
  ·exact k.h h hv
  ·rintro ⟨rfl,rfl⟩
   obtain ⟨y,hy⟩:=hb
   rw [h] at hy
   exact hv y (Option.some.inj hy)
theorem Kp.wr:∀{as1:List Adr} {m m':Mem},Kp m m'→(∀a∈as1,isI m a)→∀z:Int,Kp m (wr m' as1 z)
 | [],_,_,k,_,_=>k
 | a::_,_,_,k,h,z=>Kp.wr (k.upd (h a (List.mem_cons_self ..)) z) (fun b hb=>h b (List.mem_cons_of_mem _ hb)) (z+1)
theorem Kp.trans {m m' m'':Mem} (a:Kp m m') (b:Kp m' m''):Kp m m'':=⟨fun h=>b.i (a.i h),fun h hv=>b.h (a.h h hv) hv⟩
def HdOk (B:List Nat) (v:Value) (n:Nat):Prop:=(v=nilV∧n=0)∨∃g cap,v=.slice (some ⟨g,0,none⟩) n cap∧g∈B
theorem HdOk.ni {B:List Nat} {v:Value} {n:Nat} (h:HdOk B v n):∀z,v≠.int .i64 z:=by
 intro z e
 rcases h with ⟨rfl,_⟩|⟨g,cap,rfl,_⟩<;>cases e
theorem HdOk.blk {B:List Nat} {v:Value} {n i:Nat} (h:HdOk B v n) (hi:i<n):vblk v∈B∧∃cap,v=.slice (some ⟨vblk v,0,none⟩) n cap:=by
 rcases h with ⟨rfl,rfl⟩|⟨g,cap,rfl,hg⟩
 ·omega
 ·exact ⟨hg,cap,rfl⟩
section
variable {P:Program} {n:Nat} {ops:Array Oper} {B:Fr→List Res→Prop} {k:Nat} {F:Fr} {h h2:List Res}
theorem Z01n {S:List Nat} {v:Value} {m:Nat} (hh:HdOk S v m) (hl:Zkb P ops F k=some (.val v)):StOK P (opAt ops k) F h [] (.val (.int .i64 m)):=by
 unfold Zkb at hl
 generalize hoo:opAt ops k=o at hl
 obtain ⟨dst,op,type,pos,after,guard⟩:=o
 cases op<;>simp only at hl<;>try (cases hl)
 rename_i c
 obtain ⟨callee,args,tys⟩:=c
 simp only at hl
 split at hl
 ·rename_i x t hargs htys
  split at hl
  ·rename_i el hu
   simp only [Option.some.injEq] at hl
   intro n w G a hF hh'
   have hv:=hF.ev x
   rw [hl] at hv
   have hv:=hv.val_inv
   obtain ⟨ad,cap,rfl⟩:∃ad cap,v=.slice ad m cap:=by
    rcases hh with ⟨rfl,rfl⟩|⟨g,cap,rfl,_⟩
    ·exact ⟨none,0,rfl⟩
    ·exact ⟨_,cap,rfl⟩
   have e1:args=#[x]:=by rw [←Array.toArray_toList (xs:=args),hargs]
   have e2:tys=#[t]:=by rw [←Array.toArray_toList (xs:=tys),htys]
   subst e1;subst e2
   exact ⟨_,.val,fun w' _ _=>by simp [execOp,resolve,invoke,builtin,hv,Builtin.len_,Zx hu,goInt]⟩
  ·cases hl
 ·cases hl
theorem oLen (S:List Nat) (v:Value) (m:Nat) (hh:HdOk S v m) (hl:Zkb P ops F k=some (.val v):=by kernel_rfl):StOK P (opAt ops k) F h [] (.i m):=Z01n hh hl
theorem oIdx (S:List Nat) (v:Value) (m q sz:Nat) (j:Int) (hh:HdOk S v m) (hq:j=(q:Int)∧q<m:=by omega) (hi:Z7v P ops F k=some (.val v,j,sz):=by kernel_rfl) :
  StOK P (opAt ops k) F h [] (.val (.pointer (some ⟨vblk v,q*sz,none⟩))):=by
 obtain ⟨_,cap,e⟩:=hh.blk hq.2
 rw [e] at hi
 have:=Z9e (P:=P) (F:=F) (h:=h) hi om om
 rw [hq.1,Int.toNat_natCast,Nat.zero_add] at this
 exact this
theorem oGet (j:Nat) (S:List Nat) (m:Mem) (g o:Nat) (y:Value) (hg:g∈S) (hm:m g o=some y) (hl:Zh2 P ops F k=some (.val (.pointer (some ⟨g,o,none⟩))):=by kernel_rfl) (hj:h[j]? = some (.own S m):=by kernel_rfl) :
  StOK P (opAt ops k) F h [g] (.val y):=by
 unfold Zh2 at hl
 generalize hoo:opAt ops k=q at hl
 obtain ⟨dst,op,type,pos,after,guard⟩:=q
 cases op<;>simp only at hl<;>try (cases hl)
 rename_i t x
 split at hl
 ·rename_i hagg
  simp only [Option.some.injEq] at hl
  intro n w G a hF hh
  have hv:=hF.ev x
  rw [hl] at hv
  have hv:=hv.val_inv
  obtain ⟨cs,e,h1,h2⟩:=hh.ok _ (List.mem_of_getElem? hj) g hg
  refine ⟨y,.val,fun w' _ hw=>?_⟩
  have hrow:=hw g (by simp)
  rw [h1] at hrow
  simp only [execOp,hv]
  refine Z1a ?_
  simp only [Instr.loadAt,Instr.sureAddr,Sem.run_bind,Sem.run_pure,Result.andThen_ok,loadVar,Z8l hagg]
  have:=cell_of_row w' g o cs e (0,0) hrow
  rw [h2,hm] at this
  simp [load,Sem.run,this]
 ·cases hl
theorem Zvm {K:Fr→List Res→Prop} {S:List Nat} {m:Mem} {g o:Nat} {z:Int} (hs:storeAt P ops F k=some (g,o,[.i z])) (hg:g∈S) (hi:isI m (g,o))
  (hK:K F (.own S (upd m (g,o) z)::h2)):OpOK P n (opAt ops k) F (.own S m::h2) K:=by
 unfold storeAt at hs
 generalize hoo:opAt ops k=q at hs
 obtain ⟨dst,op,type,pos,after,guard⟩:=q
 cases op<;>simp only at hs<;>try (cases hs)
 rename_i t x y
 split at hs
 ·rename_i b' o' inf hx hi'
  split at hs
  ·rename_i hc
   simp only [Bool.and_eq_true] at hc
   simp only [Option.some.injEq,Prod.mk.injEq] at hs
   obtain ⟨rfl,rfl,hz⟩:=hs
   intro Q w G a hF hh
   have hvx:=hF.ev x
   rw [hx] at hvx
   have hvx:=hvx.val_inv
   have hvy:=hF.ev y
   have hcs:=hvy.cells hc.2.1
   rw [hz] at hcs hc
   have hone:=hcs.one_cells hc.2.2
   have hsz:inf.size=1:=Nat.eq_of_beq_eq_true hc.1
   obtain ⟨c,hc1⟩:∃c,(a.eval y).cells.toList=[c]:=by
    have:=hcs.length
    cases hq:(a.eval y).cells.toList with
    | nil=>rw [hq] at this;simp at this
    | cons c r=>cases r with
     | nil=>exact ⟨c,rfl⟩
     | cons _ _=>rw [hq] at this;simp at this
   have hlen:(a.eval y).cells.size=1:=by rw [←Array.length_toList,hc1];rfl
   rw [hc1] at hcs
   have hcz:c=.int .i64 z:=by
    cases hcs with
    | cons h _=>exact h.val_inv
   subst hcz
   have hmem:Res.own S m∈Res.own S m::h2:=List.mem_cons_self ..
   obtain ⟨cs,e,h1,hcell⟩:=hh.ok _ hmem b' hg
   obtain ⟨old,hold⟩:=hi
   have hlt:o'<cs.size:=by
    have:=hcell o'
    have hq:cs[o']? = some (.int .i64 old):=this.trans hold
    exact (Array.getElem?_eq_some_iff.1 hq).1
   have hst:=run_storeCells_at P b' o' e (a.eval y).cells.toList 0 cs w h1 (by simp [hlen];omega) hone
   simp only [Nat.add_zero,Array.length_toList] at hst
   have hr:(execOp a.eval { dst:=none,op:=.store t x y,type:=type,pos:=pos,after:=after,guard:=guard }).run P w =
     .ok .skip (w.setRow b' (cs.toList.take o'++(a.eval y).cells.toList++cs.toList.drop (o'+(a.eval y).cells.size)).toArray):=by
    simp only [execOp,hvx]
    simp [Instr.storeAt,Instr.sureAddr,storeVar,Z2u hi',hlen,hsz,hst]
   unfold Oper.wp
   rw [hr]
   have hset:(cs.toList.take o'++(a.eval y).cells.toList++cs.toList.drop (o'+(a.eval y).cells.size))=cs.toList.set o' (.int .i64 z):=by
    rw [hc1,hlen]
    exact Z99 cs.toList o' _ (by simpa using hlt)
   rw [hset]
   have hA:Agree G w (w.setRow b' (cs.toList.set o' (.int .i64 z)).toArray) G:=⟨fun c j hg'=>by
    have hne:c≠b':=fun he=>hh.prot _ hmem c j (by rw [he];exact hg) hg'
    simp [World.cell?,Zm w b' c _ hne],fun _ _ h=>h⟩
   have e1:Ext w G [.own S m] (w.setRow b' (cs.toList.set o' (.int .i64 z)).toArray) G [.own S (upd m (b',o') z)]:=by
    refine ⟨rfl,rfl,rfl,by simp [World.setRow],fun _ _ h=>h,?_,fun _ _ _ h=>.inl h,?_⟩
    ·intro c hc'
     by_cases hcb:c=b'
     ·subst hcb
      exact .inr ⟨cs,_,e,(0,0),h1,setRow_heap w c cs _ e (0,0) h1,by simp,fun j hj=>absurd ⟨_,List.mem_cons_self ..,hg⟩ hj⟩
     ·exact .inl (Zm w b' c _ hcb)
    ·rintro c j _ ⟨r,hr,hf⟩
     rw [List.mem_singleton.1 hr] at hf
     exact ⟨_,List.mem_cons_self ..,hf⟩
   have e2:HOk (w.setRow b' (cs.toList.set o' (.int .i64 z)).toArray) G [.own S (upd m (b',o') z)]:=by
    refine ⟨fun r hr=>?_,List.pairwise_singleton _ _,fun r hr c j hf hg'=>?_,fun c j hg'=>?_⟩
    ·rw [List.mem_singleton.1 hr]
     intro c hc'
     by_cases hcb:c=b'
     ·subst hcb
      refine ⟨_,e,setRow_heap w c cs _ e (0,0) h1,fun j=>?_⟩
      show (cs.toList.set o' (.int .i64 z)).toArray[j]? = if c=c∧j=o' then some (.int .i64 z) else m c j
      simp only [List.getElem?_toArray,List.getElem?_set]
      by_cases hj:o'=j
      ·subst hj;simp [hlt]
      ·rw [if_neg hj,if_neg (by intro q;exact hj q.2.symm)]
       simpa using hcell j
     ·obtain ⟨ds,e',k1,k2⟩:=hh.ok _ hmem c hc'
      refine ⟨ds,e',(Zm w b' c _ hcb).trans k1,fun j=>(k2 j).trans ?_⟩
      show m c j=if c=b'∧j=o' then _ else m c j
      rw [if_neg fun q=>hcb q.1]
    ·rw [List.mem_singleton.1 hr] at hf
     exact hh.prot _ hmem c j hf hg'
    ·have:=hh.lt c j hg'
     simpa [World.setRow] using this
   obtain ⟨j1,j2⟩:=HOk.frame (h:=[.own S m]) (k:=h2) hh e1 e2
   refine ⟨F,_,G,hK,?_,j1,j2⟩
   have:=hF.mono (j2.agree hh)
   simpa [Act.put] using this
  ·cases hs
 ·cases hs
theorem iOS (j:Nat) (S:List Nat) (m:Mem) (g o:Nat) (z:Int) (hg:g∈S) (hi:isI m (g,o)) (H:SI P n ops B (k+1) F (.own S (upd m (g,o) z)::Z4h [j] h)) (hk:okAt n ops F k=true:=by kernel_rfl)
  (hs:storeAt P ops F k=some (g,o,[.i z]):=by kernel_rfl) (hp:Z5f [j] h=some [.own S m]:=by kernel_rfl):SI P n ops B k F h:=
 i_op hk (OpOK.perm (Z1n (Z38 hp)) (Zvm hs hg hi H))
theorem Zow {S:List Nat} {m m':Mem} {t t':List Res} (h:m=m') (e:t=t'):Res.own S m::t=.own S m'::t':=h▸e▸rfl
end
end Go.Abs
end
section
namespace Go.Abs
def blks (ts:List (Value × Nat)):List Nat:=ts.filterMap (·.1.ownBlock)
theorem Z40 (a b:List (Value × Nat)):blks (a++b)=blks a++blks b:=by simp [blks]
theorem HdOk.own {B:List Nat} {v:Value} {n:Nat} (h:HdOk B v n) (h0:0<n) (k:Nat):vblk v∈blks [(v,k)]:=by
 rcases h with ⟨rfl,rfl⟩|⟨g,cap,rfl,hg⟩
 ·omega
 ·simp [blks,vblk,Value.ownBlock]
def adI (g:Nat):Nat→Nat→List Adr
 | _,0=>[]
 | o,n+1=>(g,o)::adI g (o+1) n
def Zx7 (c:HCon):List Adr:=adI (vblk c.fv) 0 c.fields.length
def Z30:List HCon→List Adr
 | []=>[]
 | c::r=>Zx7 c++Z30 r
def Zgb (g o:Nat) (d:HDecl):List Adr:=(g,o)::(g,o+1)::Z30 d.cons
def Z12 (g:Nat):Nat→List HDecl→List Adr
 | _,[]=>[]
 | o,d::r=>Zgb g o d++Z12 g (o+3) r
mutual
def Z8d (g o:Nat):HStep→List Adr
 | .mk _ _ _ args av kids kv=>(g,o)::(g,o+1)::(g,o+2)::(adI (vblk av) 0 args.length++Z09 (vblk kv) 0 kids)
def Z5t (g o:Nat):HBlock→List Adr
 | .mk steps sv _=>Zd (vblk sv) 0 steps++[(g,o+1)]
def Zd (g:Nat):Nat→List HStep→List Adr
 | _,[]=>[]
 | o,s::r=>Z8d g o s++Zd g (o+5) r
def Z09 (g:Nat):Nat→List HBlock→List Adr
 | _,[]=>[]
 | o,b::r=>Z5t g o b++Z09 g (o+2) r
end
def Z5g (g o:Nat) (r:HRoutine):List Adr:=
 adI (vblk r.pv) 0 r.params.length++(adI (vblk r.lv) 0 r.lent.length++((g,o+2)::(Zd (vblk r.body.sv) 0 r.body.steps++[(g,o+4)])))
def Z0h (g:Nat):Nat→List HRoutine→List Adr
 | _,[]=>[]
 | o,r::rs=>Z5g g o r++Z0h g (o+5) rs
def Z0c (y:HNormal):List Adr:=Z12 (vblk y.dv) 0 y.decls++Z0h (vblk y.rv) 0 y.routines
def skI (m:Mem) (g n:Nat):Prop:=∀i,i<n→isI m (g,i)
def skH (m:Mem) (B:List Nat) (g o:Nat) (v:Value) (n:Nat):Prop:=m g o=some v∧HdOk B v n
def Z01c (m:Mem) (B:List Nat) (g o:Nat) (c:HCon):Prop:=skH m B g o c.fv c.fields.length∧skI m (vblk c.fv) c.fields.length
def Zac (m:Mem) (B:List Nat) (g:Nat):Nat→List HCon→Prop
 | _,[]=>True
 | o,c::r=>Z01c m B g o c∧Zac m B g (o+1) r
def Zw8 (m:Mem) (B:List Nat) (g o:Nat) (d:HDecl):Prop:=isI m (g,o)∧isI m (g,o+1)∧skH m B g (o+2) d.cv d.cons.length∧Zac m B (vblk d.cv) 0 d.cons
def Z88 (m:Mem) (B:List Nat) (g:Nat):Nat→List HDecl→Prop
 | _,[]=>True
 | o,d::r=>Zw8 m B g o d∧Z88 m B g (o+3) r
mutual
def Z8n (m:Mem) (B:List Nat) (g o:Nat):HStep→Prop
 | .mk _ _ _ args av kids kv=>(isI m (g,o)∧isI m (g,o+1)∧isI m (g,o+2))∧(skH m B g (o+3) av args.length∧skI m (vblk av) args.length)∧(skH m B g (o+4) kv kids.length∧Z2f m B (vblk kv) 0 kids)
def Z66 (m:Mem) (B:List Nat) (g o:Nat):HBlock→Prop
 | .mk steps sv _=>(skH m B g o sv steps.length∧Z2o m B (vblk sv) 0 steps)∧isI m (g,o+1)
def Z2o (m:Mem) (B:List Nat) (g:Nat):Nat→List HStep→Prop
 | _,[]=>True
 | o,s::r=>Z8n m B g o s∧Z2o m B g (o+5) r
def Z2f (m:Mem) (B:List Nat) (g:Nat):Nat→List HBlock→Prop
 | _,[]=>True
 | o,b::r=>Z66 m B g o b∧Z2f m B g (o+2) r
end
def Zd5 (m:Mem) (B:List Nat) (g o:Nat) (r:HRoutine):Prop:=
 (skH m B g o r.pv r.params.length∧skI m (vblk r.pv) r.params.length)∧(skH m B g (o+1) r.lv r.lent.length∧skI m (vblk r.lv) r.lent.length)∧isI m (g,o+2) ∧
  (skH m B g (o+3) r.body.sv r.body.steps.length∧Z2o m B (vblk r.body.sv) 0 r.body.steps)∧isI m (g,o+4)
def Z4c (m:Mem) (B:List Nat) (g:Nat):Nat→List HRoutine→Prop
 | _,[]=>True
 | o,r::rs=>Zd5 m B g o r∧Z4c m B g (o+5) rs
def Z46 (m:Mem) (B:List Nat) (y:HNormal):Prop:=(HdOk B y.dv y.decls.length∧Z88 m B (vblk y.dv) 0 y.decls)∧(HdOk B y.rv y.routines.length∧Z4c m B (vblk y.rv) 0 y.routines)
theorem Zgc (g o:Nat) (s:HStep):Z8d g o s=(g,o)::(g,o+1)::(g,o+2)::(adI (vblk s.av) 0 s.args.length++Z09 (vblk s.kv) 0 s.kids):=by cases s;rw [Z8d];rfl
theorem Zdl (g o:Nat) (b:HBlock):Z5t g o b=Zd (vblk b.sv) 0 b.steps++[(g,o+1)]:=by cases b;rw [Z5t];rfl
theorem Zn1 (m:Mem) (B:List Nat) (g o:Nat) (s:HStep):Z8n m B g o s=((isI m (g,o)∧isI m (g,o+1)∧isI m (g,o+2))∧(skH m B g (o+3) s.av s.args.length∧skI m (vblk s.av) s.args.length)∧(skH m B g (o+4) s.kv s.kids.length∧Z2f m B (vblk s.kv) 0 s.kids)):=by cases s;rw [Z8n];rfl
theorem Zjf (m:Mem) (B:List Nat) (g o:Nat) (b:HBlock):Z66 m B g o b=((skH m B g o b.sv b.steps.length∧Z2o m B (vblk b.sv) 0 b.steps)∧isI m (g,o+1)):=by cases b;rw [Z66];rfl
section
variable {m m':Mem} {B:List Nat}
theorem Zqm (kq:Kp m m') {g n:Nat} (h:skI m g n):skI m' g n:=fun i hi=>kq.i (h i hi)
theorem Zf0 (kq:Kp m m') {g o n:Nat} {v:Value} (h:skH m B g o v n):skH m' B g o v n:=⟨kq.h h.1 h.2.ni,h.2⟩
theorem Zhc (kq:Kp m m') {g:Nat}:∀{o:Nat} {cs:List HCon},Zac m B g o cs→Zac m' B g o cs
 | _,[],_=>trivial
 | _,_::_,h=>⟨⟨Zf0 kq h.1.1,Zqm kq h.1.2⟩,Zhc kq h.2⟩
theorem Zjg (kq:Kp m m') {g:Nat}:∀{o:Nat} {ds:List HDecl},Z88 m B g o ds→Z88 m' B g o ds
 | _,[],_=>trivial
 | _,_::_,h=>⟨⟨kq.i h.1.1,kq.i h.1.2.1,Zf0 kq h.1.2.2.1,Zhc kq h.1.2.2.2⟩,Zjg kq h.2⟩
mutual
theorem Zw9 (kq:Kp m m') {g o:Nat}:∀{s:HStep},Z8n m B g o s→Z8n m' B g o s
 | .mk _ _ _ _ _ _ _,h=>by rw [Z8n] at h ⊢;exact ⟨⟨kq.i h.1.1,kq.i h.1.2.1,kq.i h.1.2.2⟩,⟨Zf0 kq h.2.1.1,Zqm kq h.2.1.2⟩,⟨Zf0 kq h.2.2.1,Zbs kq h.2.2.2⟩⟩
theorem Zsk (kq:Kp m m') {g o:Nat}:∀{s:HBlock},Z66 m B g o s→Z66 m' B g o s
 | .mk _ _ _,h=>by rw [Z66] at h ⊢;exact ⟨⟨Zf0 kq h.1.1,Z8o kq h.1.2⟩,kq.i h.2⟩
theorem Z8o (kq:Kp m m') {g:Nat}:∀{o:Nat} {xs:List HStep},Z2o m B g o xs→Z2o m' B g o xs
 | _,[],_=>by rw [Z2o];trivial
 | _,_::_,h=>by rw [Z2o] at h ⊢;exact ⟨Zw9 kq h.1,Z8o kq h.2⟩
theorem Zbs (kq:Kp m m') {g:Nat}:∀{o:Nat} {xs:List HBlock},Z2f m B g o xs→Z2f m' B g o xs
 | _,[],_=>by rw [Z2f];trivial
 | _,_::_,h=>by rw [Z2f] at h ⊢;exact ⟨Zsk kq h.1,Zbs kq h.2⟩
end
theorem Z9a (kq:Kp m m') {g:Nat}:∀{o:Nat} {rs:List HRoutine},Z4c m B g o rs→Z4c m' B g o rs
 | _,[],_=>trivial
 | _,_::_,h=>⟨⟨⟨Zf0 kq h.1.1.1,Zqm kq h.1.1.2⟩,⟨Zf0 kq h.1.2.1.1,Zqm kq h.1.2.1.2⟩,kq.i h.1.2.2.1,⟨Zf0 kq h.1.2.2.2.1.1,Z8o kq h.1.2.2.2.1.2⟩,kq.i h.1.2.2.2.2⟩,Z9a kq h.2⟩
end
section
variable {m:Mem} {B:List Nat} {g:Nat}
theorem Zec:∀{o i:Nat} {cs:List HCon} {c:HCon},Zac m B g o cs→cs[i]? = some c→Z01c m B g (o+i) c
 | _,_,[],_,_,h=>by simp at h
 | _,0,_::_,_,h,hc=>by simp at hc;subst hc;exact h.1
 | o,i+1,_::_,_,h,hc=>by rw [show o+(i+1)=o+1+i by omega];exact Zec h.2 (by simpa using hc)
theorem Zbt:∀{o i:Nat} {cs:List HDecl} {c:HDecl},Z88 m B g o cs→cs[i]? = some c→Zw8 m B g (o+i*3) c
 | _,_,[],_,_,h=>by simp at h
 | _,0,_::_,_,h,hc=>by simp at hc;subst hc;simpa using h.1
 | o,i+1,_::_,_,h,hc=>by rw [show o+(i+1)*3=o+3+i*3 by omega];exact Zbt h.2 (by simpa using hc)
theorem Zbu:∀{o i:Nat} {cs:List HStep} {c:HStep},Z2o m B g o cs→cs[i]? = some c→Z8n m B g (o+i*5) c
 | _,_,[],_,_,h=>by simp at h
 | _,0,_::_,_,h,hc=>by rw [Z2o] at h;simp at hc;subst hc;simpa using h.1
 | o,i+1,_::_,_,h,hc=>by rw [Z2o] at h;rw [show o+(i+1)*5=o+5+i*5 by omega];exact Zbu h.2 (by simpa using hc)
theorem Zab:∀{o i:Nat} {cs:List HBlock} {c:HBlock},Z2f m B g o cs→cs[i]? = some c→Z66 m B g (o+i*2) c
 | _,_,[],_,_,h=>by simp at h
 | _,0,_::_,_,h,hc=>by rw [Z2f] at h;simp at hc;subst hc;simpa using h.1
 | o,i+1,_::_,_,h,hc=>by rw [Z2f] at h;rw [show o+(i+1)*2=o+2+i*2 by omega];exact Zab h.2 (by simpa using hc)
theorem Z89:∀{o i:Nat} {cs:List HRoutine} {c:HRoutine},Z4c m B g o cs→cs[i]? = some c→Zd5 m B g (o+i*5) c
 | _,_,[],_,_,h=>by simp at h
 | _,0,_::_,_,h,hc=>by simp at hc;subst hc;simpa using h.1
 | o,i+1,_::_,_,h,hc=>by rw [show o+(i+1)*5=o+5+i*5 by omega];exact Z89 h.2 (by simpa using hc)
end
section
variable {m:Mem} {B:List Nat}
theorem Zt3 {g:Nat}:∀{n o:Nat} {a:Adr},a∈adI g o n→a.1=g∧o≤a.2∧a.2<o+n
 | 0,_,_,h=>by simp [adI] at h
 | n+1,o,a,h=>by
  rcases List.mem_cons.1 h with rfl|h
  ·exact ⟨rfl,Nat.le_refl _,by show o<o+(n+1);omega⟩
  ·have:=Zt3 h;omega
theorem Z9w {g n:Nat} (h:skI m g n):∀a∈adI g 0 n,isI m a:=by
 intro a ha
 obtain ⟨h1,h2,h3⟩:=Zt3 ha
 have:=h a.2 om
 rw [←h1] at this
 exact this
theorem Zdm {g:Nat}:∀{o:Nat} {cs:List HCon},Zac m B g o cs→∀a∈Z30 cs,isI m a
 | _,[],_,a,ha=>by cases ha
 | _,_::_,h,a,ha=>(List.mem_append.1 ha).elim (Z9w h.1.2 a) (Zdm h.2 a)
theorem Zbd {g:Nat}:∀{o:Nat} {ds:List HDecl},Z88 m B g o ds→∀a∈Z12 g o ds,isI m a
 | _,[],_,a,ha=>by cases ha
 | _,_::_,h,a,ha=>by
  rcases List.mem_append.1 ha with ha|ha
  ·rcases List.mem_cons.1 ha with rfl|ha
   ·exact h.1.1
   ·rcases List.mem_cons.1 ha with rfl|ha
    ·exact h.1.2.1
    ·exact Zdm h.1.2.2.2 a ha
  ·exact Zbd h.2 a ha
mutual
theorem Zr0 {g o:Nat}:∀{s:HStep},Z8n m B g o s→∀a∈Z8d g o s,isI m a
 | .mk _ _ _ _ _ _ _,h,a,ha=>by
  rw [Z8n] at h
  rw [Z8d] at ha
  rcases List.mem_cons.1 ha with rfl|ha
  ·exact h.1.1
  rcases List.mem_cons.1 ha with rfl|ha
  ·exact h.1.2.1
  rcases List.mem_cons.1 ha with rfl|ha
  ·exact h.1.2.2
  exact (List.mem_append.1 ha).elim (Z9w h.2.1.2 a) (Z9v h.2.2.2 a)
theorem Znl {g o:Nat}:∀{s:HBlock},Z66 m B g o s→∀a∈Z5t g o s,isI m a
 | .mk _ _ _,h,a,ha=>by
  rw [Z66] at h
  rw [Z5t] at ha
  rcases List.mem_append.1 ha with ha|ha
  ·exact Z7d h.1.2 a ha
  ·rw [List.mem_singleton.1 ha];exact h.2
theorem Z7d {g:Nat}:∀{o:Nat} {xs:List HStep},Z2o m B g o xs→∀a∈Zd g o xs,isI m a
 | _,[],_,a,ha=>by rw [Zd] at ha;cases ha
 | _,_::_,h,a,ha=>by
  rw [Z2o] at h
  rw [Zd] at ha
  exact (List.mem_append.1 ha).elim (Zr0 h.1 a) (Z7d h.2 a)
theorem Z9v {g:Nat}:∀{o:Nat} {xs:List HBlock},Z2f m B g o xs→∀a∈Z09 g o xs,isI m a
 | _,[],_,a,ha=>by rw [Z09] at ha;cases ha
 | _,_::_,h,a,ha=>by
  rw [Z2f] at h
  rw [Z09] at ha
  exact (List.mem_append.1 ha).elim (Znl h.1 a) (Z9v h.2 a)
end
theorem Zjm {g o:Nat} {r:HRoutine} (h:Zd5 m B g o r):∀a∈Z5g g o r,isI m a:=by
 intro a ha
 rcases List.mem_append.1 ha with ha|ha
 ·exact Z9w h.1.2 a ha
 rcases List.mem_append.1 ha with ha|ha
 ·exact Z9w h.2.1.2 a ha
 rcases List.mem_cons.1 ha with rfl|ha
 ·exact h.2.2.1
 rcases List.mem_append.1 ha with ha|ha
 ·exact Z7d h.2.2.2.1.2 a ha
 ·rw [List.mem_singleton.1 ha];exact h.2.2.2.2
theorem Zb2 {g:Nat}:∀{o:Nat} {rs:List HRoutine},Z4c m B g o rs→∀a∈Z0h g o rs,isI m a
 | _,[],_,a,ha=>by cases ha
 | _,_::_,h,a,ha=>(List.mem_append.1 ha).elim (Zjm h.1 a) (Zb2 h.2 a)
end
def Zn (g lo hi:Nat) (X:List Nat) (a:Adr):Prop:=(a.1=g∧lo≤a.2∧a.2<hi)∨a.1∈X
structure Nd (g lo hi:Nat) (X:List Nat) (as1:List Adr):Prop where
 nd:(X.Nodup∧g∉X)→as1.Nodup
 zn:∀a∈as1,Zn g lo hi X a
theorem Nd.nil (g lo:Nat):Nd g lo lo [] []:=⟨fun _=>.nil,fun a ha=>by cases ha⟩
theorem Nd.app {g l1 h1 l2 h2:Nat} {X Y:List Nat} {as1 bs:List Adr} (ha:Nd g l1 h1 X as1) (hb:Nd g l2 h2 Y bs) (hlt:h1≤l2) (hl:l1≤l2) (hh:h1≤h2):Nd g l1 h2 (X++Y) (as1++bs):=by
 refine ⟨fun ⟨hd,hg⟩=>?_,fun a hm=>?_⟩
 ·have hdd:=List.nodup_append.1 hd
  have hg1:g∉X:=fun q=>hg (List.mem_append.2 (.inl q))
  have hg2:g∉Y:=fun q=>hg (List.mem_append.2 (.inr q))
  refine List.nodup_append.2 ⟨ha.nd ⟨hdd.1,hg1⟩,hb.nd ⟨hdd.2.1,hg2⟩,fun a h1 b h2 e=>?_⟩
  subst e
  rcases ha.zn a h1 with q1|q1<;>rcases hb.zn a h2 with q2|q2
  ·omega
  ·exact hg2 (q1.1▸q2)
  ·exact hg1 (q2.1▸q1)
  ·exact hdd.2.2 _ q1 _ q2 rfl
 ·rcases List.mem_append.1 hm with h|h
  ·rcases ha.zn a h with q|q
   ·exact .inl ⟨q.1,q.2.1,by omega⟩
   ·exact .inr (List.mem_append.2 (.inl q))
  ·rcases hb.zn a h with q|q
   ·exact .inl ⟨q.1,by omega,q.2.2⟩
   ·exact .inr (List.mem_append.2 (.inr q))
theorem Nd.one (g o:Nat):Nd g o (o+1) [] [(g,o)]:=⟨fun _=>by simp,fun a ha=>by rw [List.mem_singleton.1 ha];exact .inl ⟨rfl,Nat.le_refl _,Nat.lt_succ_self _⟩⟩
theorem Nd.sub {g lo c hi:Nat} {v:Value} {k:Nat} {X:List Nat} {as1:List Adr} {B:List Nat} {n:Nat} (h:Nd (vblk v) lo hi X as1) (hd:HdOk B v n) (he:n=0→as1=[]):Nd g c c (X++blks [(v,k)]) as1:=by
 rcases Nat.eq_zero_or_pos n with h0|h0
 ·rw [he h0];exact ⟨fun _=>.nil,fun a ha=>by cases ha⟩
 ·have hm:=hd.own h0 k
  have e:blks [(v,k)]=[vblk v]:=by
   obtain ⟨_,cap,e⟩:=hd.blk h0
   rw [e];rfl
  refine ⟨fun ⟨hx,_⟩=>h.nd ?_,fun a ha=>.inr ?_⟩
  ·have hdd:=List.nodup_append.1 hx
   exact ⟨hdd.1,fun q=>hdd.2.2 _ q _ hm rfl⟩
  ·rcases h.zn a ha with q|q
   ·rw [q.1];exact List.mem_append.2 (.inr hm)
   ·exact List.mem_append.2 (.inl q)
theorem Nd.perm {g lo hi:Nat} {X Y:List Nat} {as1:List Adr} (h:Nd g lo hi X as1) (p:X.Perm Y):Nd g lo hi Y as1:=
 ⟨fun ⟨a,b⟩=>h.nd ⟨p.nodup_iff.2 a,fun q=>b (p.mem_iff.1 q)⟩,fun a ha=>(h.zn a ha).imp id (fun q=>p.mem_iff.1 q)⟩
theorem Zzb (g:Nat):∀(n o:Nat),Nd g o (o+n) [] (adI g o n)
 | 0,o=>Nd.nil g o
 | n+1,o=>by
  have h:=(Nd.one g o).app (Zzb g n (o+1)) (Nat.le_refl _) om om
  rw [show o+1+n=o+(n+1) by omega] at h
  exact h
section
variable {m:Mem} {B:List Nat}
theorem Zyx {g c n:Nat} {v:Value} (h:HdOk B v n):Nd g c c (blks [(v,1)]) (adI (vblk v) 0 n):=by
 have:=(Zzb (vblk v) n 0).sub (g:=g) (c:=c) (k:=1) h (fun e=>by rw [e];rfl)
 simpa using this
theorem Zlf {g c:Nat}:∀{o:Nat} {cs:List HCon} {b:Nat},Zac m B b o cs→Nd g c c (blks (Z13 cs)) (Z30 cs)
 | _,[],_,_=>Nd.nil g c
 | _,x::r,_,h=>by
  have e:Z13 (x::r)=[(x.fv,1)]++Z13 r:=rfl
  rw [e,Z40]
  exact (Zyx h.1.1.2).app (Zlf h.2) (Nat.le_refl _) (Nat.le_refl _) (Nat.le_refl _)
theorem Zib {g:Nat}:∀{o:Nat} {ds:List HDecl},Z88 m B g o ds→Nd g o (o+3*ds.length) (blks (Z0f ds)) (Z12 g o ds)
 | o,[],_=>Nd.nil g o
 | o,x::r,h=>by
  have e:Z0f (x::r)=(Z13 x.cons++[(x.cv,3-2)])++Z0f r:=rfl
  rw [e,Z40,Z40]
  have h1:Nd g (o+2) (o+2) (blks (Z13 x.cons)++blks [(x.cv,3-2)]) (Z30 x.cons):=by
   refine Nd.sub (lo:=0) (hi:=0) (v:=x.cv) (Zlf h.1.2.2.2) h.1.2.2.1.2 fun q=>?_
   rw [List.length_eq_zero_iff.1 q];rfl
  have h2:=(Nd.one g o).app ((Nd.one g (o+1)).app h1 om om om) om om om
  have h3:=h2.app (Zib (o:=o+3) h.2) om om om
  rw [show o+3+3*r.length=o+3*(x::r).length by simp;omega] at h3
  exact h3
mutual
theorem Zt4 {g:Nat} {o:Nat}:∀{s:HStep},Z8n m B g o s→Nd g o (o+5) (blks (Z1p s)) (Z8d g o s)
 | .mk op num into args av kids kv,h=>by
  rw [Z8n] at h
  rw [Z1p,Z8d]
  have e:(av,1)::(Zp kids++[(kv,2)])=[(av,1)]++(Zp kids++[(kv,2)]):=rfl
  rw [e,Z40,Z40]
  have h1:Nd g (o+5) (o+5) (blks (Zp kids)++blks [(kv,2)]) (Z09 (vblk kv) 0 kids):=by
   refine Nd.sub (v:=kv) (Zg9 h.2.2.2) h.2.2.1.2 fun q=>?_
   rw [List.length_eq_zero_iff.1 q,Z09]
  have h0:Nd g (o+3) (o+3) (blks [(av,1)]) (adI (vblk av) 0 args.length):=Zyx h.2.1.1.2
  exact (Nd.one g o).app ((Nd.one g (o+1)).app ((Nd.one g (o+2)).app (h0.app h1 om om om) om om om) om om om) om om om
theorem Zqz {g:Nat} {o:Nat}:∀{s:HBlock},Z66 m B g o s→Nd g o (o+2) (blks (Z06 s)) (Z5t g o s)
 | .mk steps sv result,h=>by
  rw [Z66] at h
  rw [Z06,Z5t,Z40]
  have h1:Nd g o o (blks (Zs steps)++blks [(sv,5)]) (Zd (vblk sv) 0 steps):=by
   refine Nd.sub (v:=sv) (Zdp h.1.2) h.1.1.2 fun q=>?_
   rw [List.length_eq_zero_iff.1 q,Zd]
  have h2:=h1.app (Nd.one g (o+1)) om om om
  rw [List.append_nil] at h2
  exact h2
theorem Zdp {g:Nat}:∀{o:Nat} {xs:List HStep},Z2o m B g o xs→Nd g o (o+5*xs.length) (blks (Zs xs)) (Zd g o xs)
 | o,[],_=>by rw [Zs,Zd];exact Nd.nil g o
 | o,x::r,h=>by
  rw [Z2o] at h
  rw [Zs,Zd,Z40]
  have h3:=(Zt4 h.1).app (Zdp (o:=o+5) h.2) om om om
  rw [show o+5+5*r.length=o+5*(x::r).length by simp;omega] at h3
  exact h3
theorem Zg9 {g:Nat}:∀{o:Nat} {xs:List HBlock},Z2f m B g o xs→Nd g o (o+2*xs.length) (blks (Zp xs)) (Z09 g o xs)
 | o,[],_=>by rw [Zp,Z09];exact Nd.nil g o
 | o,x::r,h=>by
  rw [Z2f] at h
  rw [Zp,Z09,Z40]
  have h3:=(Zqz h.1).app (Zg9 (o:=o+2) h.2) om om om
  rw [show o+2+2*r.length=o+2*(x::r).length by simp;omega] at h3
  exact h3
end
theorem Zc6 {g:Nat}:∀{o:Nat} {rs:List HRoutine},Z4c m B g o rs→Nd g o (o+5*rs.length) (blks (Ze rs)) (Z0h g o rs)
 | o,[],_=>Nd.nil g o
 | o,x::r,h=>by
  have e:Ze (x::r)=([(x.pv,1)]++([(x.lv,1)]++Z06 x.body))++Ze r:=rfl
  rw [e,Z40,Z40,Z40,Zao,Z40]
  have h1:Nd g (o+3) (o+3) (blks (Zs x.body.steps)++blks [(x.body.sv,5)]) (Zd (vblk x.body.sv) 0 x.body.steps):=by
   refine Nd.sub (v:=x.body.sv) (Zdp h.1.2.2.2.1.2) h.1.2.2.2.1.1.2 fun q=>?_
   rw [List.length_eq_zero_iff.1 q,Zd]
  have h2:=h1.app (Nd.one g (o+4)) om om om
  rw [List.append_nil] at h2
  have h3:=(Nd.one g (o+2)).app h2 om om om
  have h4:Nd g (o+1) (o+1) (blks [(x.lv,1)]) (adI (vblk x.lv) 0 x.lent.length):=Zyx h.1.2.1.1.2
  have h5:Nd g o o (blks [(x.pv,1)]) (adI (vblk x.pv) 0 x.params.length):=Zyx h.1.1.1.2
  have h6:=(h5.app (h4.app h3 om om om) om om om).app (Zc6 (o:=o+5) h.2) om om om
  rw [show o+5+5*r.length=o+5*(x::r).length by simp;omega] at h6
  exact h6
theorem Znm {y:HNormal} (h:Z46 m B y) (hn:(blks (Zz y)).Nodup):(Z0c y).Nodup:=by
 have e:Zz y=(Z0f y.decls++[(y.dv,3)])++(Ze y.routines++[(y.rv,5)]):=by simp [Zz]
 rw [e,Z40,Z40,Z40] at hn
 obtain ⟨g,hg⟩:∃g,g∉(blks (Z0f y.decls)++blks [(y.dv,3)])++(blks (Ze y.routines)++blks [(y.rv,5)]):=by
  generalize (blks (Z0f y.decls)++blks [(y.dv,3)])++(blks (Ze y.routines)++blks [(y.rv,5)])=l
  refine ⟨l.sum+1,fun q=>?_⟩
  have:∀(l:List Nat) (x:Nat),x∈l→x≤l.sum:=by
   intro l
   induction l with
   | nil=>intro x hx;cases hx
   | cons a r ih=>
    intro x hx
    rw [List.sum_cons]
    rcases List.mem_cons.1 hx with rfl|hx
    ·omega
    ·have:=ih x hx;omega
  have:=this l _ q
  omega
 have h1:Nd g 0 0 (blks (Z0f y.decls)++blks [(y.dv,3)]) (Z12 (vblk y.dv) 0 y.decls):=by
  refine Nd.sub (v:=y.dv) (Zib h.1.2) h.1.1 fun q=>?_
  rw [List.length_eq_zero_iff.1 q];rfl
 have h2:Nd g 0 0 (blks (Ze y.routines)++blks [(y.rv,5)]) (Z0h (vblk y.rv) 0 y.routines):=by
  refine Nd.sub (v:=y.rv) (Zc6 h.2.2) h.2.1 fun q=>?_
  rw [List.length_eq_zero_iff.1 q];rfl
 exact (h1.app h2 om om om).nd ⟨hn,hg⟩
end
end Go.Abs
end
section
namespace Go.Abs
theorem Z7 {α:Type} {xs:List α} {k:Nat} {x:α} (h:xs[k]? = some x):xs.drop k=x::xs.drop (k+1):=by
 have hk:=(List.getElem?_eq_some_iff.1 h).1
 rw [List.drop_eq_getElem_cons hk]
 congr 1
 rw [List.getElem?_eq_getElem hk] at h
 exact Option.some.inj h
theorem Zv {α:Type} {xs:List α} {k:Nat} (h:xs.length≤k):xs.drop k=[]:=List.drop_eq_nil_of_le h
theorem Z1z {α:Type} {xs:List α} {k:Nat} {x:α} (h:xs[k]? = some x):xs.take (k+1)=xs.take k++[x]:=by
 rw [List.take_add_one,h];rfl
def Zu:List Decl→Nat
 | []=>0
 | d::ds=>d.cons.length+Zu ds
theorem Z5h (xs ys:List Decl):Zu (xs++ys)=Zu xs+Zu ys:=by
 induction xs with
 | nil=>simp [Zu]
 | cons d ds ih=>simp [Zu,ih];omega
structure DOk (ds:List Decl):Prop where
 len:ds.length≤4
 cons:∀d∈ds,d.cons.length≤3
 fields:∀d∈ds,∀c∈d.cons,c.fields.length≤3
theorem Ztq {ds:List Decl} {m:Nat} (h:∀d∈ds,d.cons.length≤m):Zu ds≤ds.length*m:=by
 induction ds with
 | nil=>simp [Zu]
 | cons d ds ih=>
  have h1:=h d (by simp)
  have h2:=ih (fun x hx=>h x (by simp [hx]))
  simp only [Zu,List.length_cons,Nat.add_mul];omega
theorem DOk.sum {ds:List Decl} (h:DOk ds):Zu ds≤12:=by
 have:=Ztq h.cons
 have:=h.len
 have:ds.length*3≤4*3:=Nat.mul_le_mul_right 3 h.len
 omega
theorem DOk.take {ds:List Decl} (h:DOk ds) (k:Nat):DOk (ds.take k):=
 ⟨by have:=h.len;simp;omega,fun d hd=>h.cons d (List.mem_of_mem_take hd),fun d hd=>h.fields d (List.mem_of_mem_take hd)⟩
theorem DOk.cons_at {ds:List Decl} (h:DOk ds) {k:Nat} {d:Decl} (hd:ds[k]? = some d):d.cons.length≤3:=h.cons d (List.mem_of_getElem? hd)
theorem DOk.fields_at {ds:List Decl} (h:DOk ds) {k j:Nat} {d:Decl} {c:Con} (hd:ds[k]? = some d) (hc:d.cons[j]? = some c):c.fields.length≤3:=
 h.fields d (List.mem_of_getElem? hd) c (List.mem_of_getElem? hc)
def Z3t (c:Int):List Decl→Nat→Nat→Int × List Int
 | [],_,_=>(-1,[])
 | d::ds,i,first=>
  if (first:Int)≤c∧c≤((first+d.cons.length:Nat):Int)-1 then ((i:Int)+1,(d.cons[(c-first).toNat]?.map (·.fields)).getD []) else Z3t c ds (i+1) (first+d.cons.length)
def Z0a (ds:List Decl) (c:Int):Int:=(Z3t c ds 0 0).1
def Z1 (ds:List Decl) (c:Int):List Int:=(Z3t c ds 0 0).2
theorem Za1 {c:Int}:∀{ds:List Decl} {i first:Nat},(Z3t c ds i first=(-1,[]) ∨
  ∃k d x,ds[k]? = some d∧(first+Zu (ds.take k):Int)≤c∧c<first+Zu (ds.take k)+d.cons.length∧d.cons[(c-(first+Zu (ds.take k))).toNat]? = some x∧Z3t c ds i first=((i:Int)+k+1,x.fields))
 | [],_,_=>.inl rfl
 | d::ds,i,first=>by
  rw [Z3t]
  split
  ·rename_i h
   have hlt:(c-first).toNat<d.cons.length:=by omega
   refine .inr ⟨0,d,d.cons[(c-first).toNat],rfl,by simp [Zu];omega,by simp [Zu];omega,?_,?_⟩
   ·simp [Zu]
   ·rw [List.getElem?_eq_getElem hlt];simp
  ·rcases Za1 (c:=c) (ds:=ds) (i:=i+1) (first:=first+d.cons.length) with h|⟨k,e,x,h1,h2,h3,h4,h5⟩
   ·exact .inl h
   ·refine .inr ⟨k+1,e,x,by simpa using h1,by simp [Zu];omega,by simp [Zu];omega,?_,?_⟩
    ·rw [←h4];congr 3;simp [Zu];omega
    ·rw [h5];congr 1;omega
theorem Za3 {ds:List Decl} {c:Int} (h:¬Z0a ds c<1) :
  ∃k d x,ds[k]? = some d∧(Zu (ds.take k):Int)≤c∧d.cons[(c-Zu (ds.take k)).toNat]? = some x∧Z0a ds c=(k:Int)+1∧Z1 ds c=x.fields:=by
 rcases Za1 (c:=c) (ds:=ds) (i:=0) (first:=0) with h1|⟨k,d,x,h1,h2,_,h4,h5⟩
 ·simp [Z0a,h1] at h
 ·exact ⟨k,d,x,h1,by simpa using h2,by simpa using h4,by simp [Z0a,h5],by simp [Z1,h5]⟩
theorem Z7s {ds:List Decl} {c:Int} (h:Z0a ds c<1):Z1 ds c=[]∧Z0a ds c=-1:=by
 rcases Za1 (c:=c) (ds:=ds) (i:=0) (first:=0) with h1|⟨k,d,x,h1,h2,_,h4,h5⟩
 ·simp [Z1,Z0a,h1]
 ·simp [Z0a,h5] at h;omega
def Z17 (first:Int):Nat→List Int
 | 0=>[]
 | n+1=>first::Z17 (first+1) n
theorem Zd0 (first:Int) (n:Nat):Z17 first (n+1)=Z17 first n++[first+n]:=by
 induction n generalizing first with
 | zero=>simp [Z17]
 | succ n ih=>rw [Z17,ih (first+1),Z17];simp;omega
@[simp] theorem Zh6 (first:Int) (n:Nat):(Z17 first n).length=n:=by
 induction n generalizing first with
 | zero=>rfl
 | succ n ih=>simp [Z17,ih]
def Zb (ds:List Decl) (t:Int):List Int:=
 if 1≤t∧t≤ds.length then Z17 (Zu (ds.take (t-1).toNat)) (((ds[(t-1).toNat]?).map (·.cons.length)).getD 0) else []
def Z3r (frm to_:Int):List Decl→Nat→Int
 | [],_=>-1
 | d::ds,i=>if d.cons.length=0∧d.frm=frm∧d.to_=to_ then (i:Int)+1 else Z3r frm to_ ds (i+1)
def Z2d (ds:List Decl) (frm to_:Int):Int:=Z3r frm to_ ds 0
def Z02 (ds:List Decl) (t:Int):Bool:=decide (1≤t∧t≤ds.length)&&((ds[(t-1).toNat]?).map fun d=>decide (d.cons.length=0)).getD false
theorem Z75 {ds:List Decl} {t:Int} {x:Decl} (h:1≤t∧t≤ds.length) (hx:ds[(t-1).toNat]? = some x):((x.cons.length:Int)==0)=Z02 ds t:=by
 rw [Z02,hx,Bool.eq_iff_iff];simp [h]
theorem Z92 {ds:List Decl} {t:Int} (h:¬(1≤t∧t≤ds.length)):false=Z02 ds t:=by
 rw [Z02,Bool.eq_iff_iff];simp only [Bool.false_eq_true,Bool.and_eq_true,decide_eq_true_eq,h,false_and]
def Z1o (m:Nat) (xs:List Int):Bool:=xs.all fun t=>decide (0≤t∧t≤m)
end Go.Abs
end
section
namespace Go.Abs
structure Sg where
 params:List Int
 result:Int
abbrev aSg (f:Sg):AV:=.agg [.sl (Z6 f.params) none,.i f.result,.i 0,.i 0,.sl [] none]
def eSgs (fs:List Sg):List AV:=fs.map aSg
theorem Zjv {xs:List Sg} {j:Nat} {x:Sg} (h:xs[j]? = some x):(eSgs xs)[j]? = some (aSg x):=by simp [eSgs,h]
@[simp] theorem Zgn (xs:List Sg):(eSgs xs).length=xs.length:=by simp [eSgs]
theorem Zpn (xs:List Sg):∀y∈eSgs xs,y.leaves.length=5:=by intro y hy;simp only [eSgs,List.mem_map] at hy;obtain ⟨x,_,rfl⟩:=hy;rfl
theorem Zxp (xs:List Sg):(flat (eSgs xs)).all AV.one=true:=Z6b fun y hy=>by simp only [eSgs,List.mem_map] at hy;obtain ⟨x,_,rfl⟩:=hy;rfl
mutual
def Step.sz:Step→Nat
 | .mk _ _ _ args kids=>1+args.length+bsz kids
def Block.sz:Block→Nat
 | .mk steps _=>1+ssz steps
def ssz:List Step→Nat
 | []=>0
 | s::r=>s.sz+ssz r
def bsz:List Block→Nat
 | []=>0
 | b::r=>b.sz+bsz r
end
theorem Step.sz_pos (s:Step):1≤s.sz:=by cases s;rw [Step.sz];omega
theorem Block.sz_pos (b:Block):1≤b.sz:=by cases b;rw [Block.sz];omega
theorem Zp3 (l:List Step):l.length≤ssz l:=by
 induction l with
 | nil=>simp
 | cons s r ih=>have:=s.sz_pos;simp only [List.length_cons,ssz];omega
theorem Ztj (l:List Block):l.length≤bsz l:=by
 induction l with
 | nil=>simp
 | cons s r ih=>have:=s.sz_pos;simp only [List.length_cons,bsz];omega
theorem Zn5 {l:List Step} {k:Nat} {s:Step} (h:l[k]? = some s):s.sz≤ssz l:=by
 induction l generalizing k with
 | nil=>simp at h
 | cons t r ih=>
  cases k with
  | zero=>simp at h;subst h;simp only [ssz];omega
  | succ k=>have:=ih (k:=k) (by simpa using h);simp only [ssz];omega
theorem Zpf {l:List Block} {k:Nat} {s:Block} (h:l[k]? = some s):s.sz≤bsz l:=by
 induction l generalizing k with
 | nil=>simp at h
 | cons t r ih=>
  cases k with
  | zero=>simp at h;subst h;simp only [bsz];omega
  | succ k=>have:=ih (k:=k) (by simpa using h);simp only [bsz];omega
theorem Step.sz_eq (s:Step):s.sz=1+s.args.length+bsz s.kids:=by cases s;rw [Step.sz];rfl
theorem Block.sz_eq (b:Block):b.sz=1+ssz b.steps:=by cases b;rw [Block.sz];rfl
theorem Zl7 {b:Block} {k:Nat} {s:Step} (h:b.steps[k]? = some s):s.sz<b.sz:=by have:=Zn5 h;have:=b.sz_eq;omega
theorem Z9i {s:Step} {k:Nat} {b:Block} (h:s.kids[k]? = some b):b.sz<s.sz:=by have:=Zpf h;have:=s.sz_eq;omega
theorem Z83 (s:Step):s.args.length<s.sz:=by have:=s.sz_eq;omega
theorem Z64 (s:Step):s.kids.length<s.sz:=by have:=s.sz_eq;have:=Ztj s.kids;omega
theorem Z81 (b:Block):b.steps.length<b.sz:=by have:=b.sz_eq;have:=Zp3 b.steps;omega
structure DSz (ds:List Decl):Prop where
 len:ds.length≤4194304
 cons:∀d∈ds,d.cons.length≤4194304
 fields:∀d∈ds,∀c∈d.cons,c.fields.length≤4194304
theorem DSz.cons_at {ds:List Decl} (h:DSz ds) {k:Nat} {d:Decl} (hd:ds[k]? = some d):d.cons.length≤4194304:=h.cons d (List.mem_of_getElem? hd)
theorem DSz.fields_at {ds:List Decl} (h:DSz ds) {k j:Nat} {d:Decl} {c:Con} (hd:ds[k]? = some d) (hc:d.cons[j]? = some c):c.fields.length≤4194304:=
 h.fields d (List.mem_of_getElem? hd) c (List.mem_of_getElem? hc)
def Za2 (m:Nat) (c:Con):Bool:=decide (c.fields.length≤3)&&Z1o m c.fields
def Zca (d:Decl):List Decl→Bool
 | []=>false
 | e::r=>if e.cons.length=0∧e.frm=d.frm∧e.to_=d.to_ then true else Zca d r
def Z4d (m:Nat):List Con→Bool
 | []=>true
 | c::r=>if Za2 m c=true then Z4d m r else false
def Z3h (ds:List Decl) (d:Decl) (i:Nat):Bool:=
 if 0<d.cons.length then (if d.cons.length≤3∧d.frm=0∧d.to_=0 then Z4d ds.length d.cons else false)
 else if Zca d (ds.take i)=true then false else decide (0≤d.frm∧d.frm≤ds.length)&&decide (0≤d.to_∧d.to_≤ds.length)
def Za5 (ds:List Decl) (i:Nat):Bool:=(ds[i]?.map fun d=>Z3h ds d i).getD false
theorem Z7e {ds:List Decl} {i:Nat} {d:Decl} (h:ds[i]? = some d):Za5 ds i=Z3h ds d i:=by rw [Za5,h];rfl
def Z3u (ds:List Decl):List Decl→Nat→Bool
 | [],_=>true
 | _::r,i=>if Za5 ds i=true then Z3u ds r (i+1) else false
def Z00 (ds:List Decl):Bool:=decide (ds.length≤4)&&Z3u ds ds 0
theorem Zgh {m:Nat} {cs:List Con}:Z4d m cs=true↔∀c∈cs,Za2 m c=true:=by
 induction cs with
 | nil=>simp [Z4d]
 | cons c r ih=>
  rw [Z4d]
  split
  ·rename_i h;simp [ih,h]
  ·rename_i h;simp [h]
theorem Zbi {ds:List Decl}:∀{l:List Decl} {i:Nat},Z3u ds l i=true↔∀j<l.length,Za5 ds (i+j)=true
 | [],i=>by simp [Z3u]
 | d::r,i=>by
  rw [Z3u]
  split
  ·rename_i h
   rw [Zbi (l:=r)]
   constructor
   ·intro hq j hj
    cases j with
    | zero=>exact h
    | succ j=>have:=hq j (by simpa using hj);rwa [show i+(j+1)=i+1+j by omega]
   ·intro hq j hj
    have:=hq (j+1) (by simpa using hj)
    rwa [show i+(j+1)=i+1+j by omega] at this
  ·rename_i h
   simp only [Bool.false_eq_true,false_iff]
   intro hq
   exact h (hq 0 (by simp))
theorem Zl9 {ds:List Decl} (h:Z00 ds=true):DOk ds:=by
 simp only [Z00,Bool.and_eq_true,decide_eq_true_eq] at h
 obtain ⟨h1,h2⟩:=h
 rw [Zbi] at h2
 have key:∀d∈ds,∃i,Z3h ds d i=true:=fun d hd=>by
  obtain ⟨i,hi⟩:=List.mem_iff_getElem?.1 hd
  have:=h2 i (List.getElem?_eq_some_iff.1 hi).1
  rw [Nat.zero_add,Z7e hi] at this
  exact ⟨i,this⟩
 have hc:∀d∈ds,0<d.cons.length→d.cons.length≤3∧Z4d ds.length d.cons=true:=fun d hd hp=>by
  obtain ⟨i,hi⟩:=key d hd
  rw [Z3h,if_pos hp] at hi
  split at hi
  ·rename_i h;exact ⟨h.1,hi⟩
  ·cases hi
 refine ⟨h1,fun d hd=>?_,fun d hd c hc'=>?_⟩
 ·by_cases hp:0<d.cons.length
  ·exact (hc d hd hp).1
  ·omega
 ·have:=Zgh.1 (hc d hd (List.length_pos_of_mem hc')).2 c hc'
  simp only [Za2,Bool.and_eq_true,decide_eq_true_eq] at this
  exact this.1
theorem DOk.sz {ds:List Decl} (h:DOk ds):DSz ds:=
 ⟨by have:=h.len;omega,fun d hd=>by have:=h.cons d hd;omega,fun d hd c hc=>by have:=h.fields d hd c hc;omega⟩
def Z9l (m:Nat) (f:Sg):Bool:=decide (f.params.length≤3)&&(Z1o m f.params&&decide (0≤f.result∧f.result≤m))
def Z6v (m:Nat):List Sg→Bool
 | []=>true
 | f::r=>if Z9l m f=true then Z6v m r else false
def Zfo:List Sg→Bool
 | []=>false
 | f::_=>decide (f.params.length=0)&&decide (f.result=0)
theorem Zoe {fs:List Sg} {x:Sg} (h:fs[0]? = some x):Zfo fs=(decide (x.params.length=0)&&decide (x.result=0)):=by
 cases fs with
 | nil=>simp at h
 | cons f r=>simp at h;subst h;rfl
def Z2x (ds:List Decl) (fs:List Sg):Bool:=
 Z00 ds&&(decide (1≤fs.length∧fs.length≤4)&&(Z6v ds.length fs&&Zfo fs))
def Z43 (ps:List Int):List Int→Option Int→Bool
 | [],_=>true
 | v::r,prev=>if (0≤v∧v≤(ps.length:Int)-1)∧ps[v.toNat]?≠some 0∧(∀p,prev=some p→p<v) then Z43 ps r (some v) else false
theorem Z96 {ps r:List Int} {v:Int} {prev:Option Int} (h:(0≤v∧v≤(ps.length:Int)-1)∧ps[v.toNat]?≠some 0∧(∀p,prev=some p→p<v)):Z43 ps (v::r) prev=Z43 ps r (some v):=by
 rw [Z43,if_pos h]
theorem Z7x {ps r:List Int} {v:Int} {prev:Option Int} (h:¬((0≤v∧v≤(ps.length:Int)-1)∧ps[v.toNat]?≠some 0∧(∀p,prev=some p→p<v))):Z43 ps (v::r) prev=false:=by
 rw [Z43,if_neg h]
def Z3d (ps ls:List Int):Bool:=Z43 ps ls none
def Z54:List Routine→Bool
 | []=>true
 | r::rs=>if Z3d r.params r.lent=true then Z54 rs else false
def Z5n (r:Routine):Sg:=⟨r.params,r.result⟩
def Z0g (n:Normal):Bool:=decide (n.routines.length≤4)&&(Z2x n.decls (n.routines.map Z5n)&&Z54 n.routines)
end Go.Abs
end
section
namespace Go.Abs
def atI {α:Type} (xs:List α) (i:Int):Option α:=if 0≤i∧i≤(xs.length:Int)-1 then xs[i.toNat]? else none
theorem Z6y {α:Type} {xs:List α} {i:Int} {x:α} (h:0≤i∧i≤(xs.length:Int)-1) (hx:xs[i.toNat]? = some x):atI xs i=some x:=by rw [atI,if_pos h,hx]
theorem Z5x {α:Type} {xs:List α} {i:Int} (h:¬(0≤i∧i≤(xs.length:Int)-1)):atI xs i=none:=by rw [atI,if_neg h]
theorem Z51 {α:Type} {xs:List α} {i:Int} {x:α} (h:atI xs i=some x):(0≤i∧i≤(xs.length:Int)-1)∧xs[i.toNat]? = some x:=by
 rw [atI] at h
 split at h
 ·rename_i h1;exact ⟨h1,h⟩
 ·cases h
def Z29 (vars:List Int):List Int→List Int→Bool
 | [],[]=>true
 | a::as1,t::ts=>if atI vars a=some t then Z29 vars as1 ts else false
 | _,_=>false
def Z1r (vars args types:List Int):Bool:=Z29 vars args types
theorem Zne {vars:List Int}:∀{args types:List Int},args.length≠types.length→Z29 vars args types=false
 | [],[],h=>absurd rfl h
 | [],_::_,_=>rfl
 | _::_,[],_=>rfl
 | a::as1,t::ts,h=>by
  rw [Z29]
  split
  ·exact Zne (by simpa using h)
  ·rfl
theorem Zsv {vars args types:List Int} {k:Nat} {a t:Int} (ha:args[k]? = some a) (ht:types[k]? = some t) (h:atI vars a=some t) :
  Z29 vars (args.drop k) (types.drop k)=Z29 vars (args.drop (k+1)) (types.drop (k+1)):=by
 rw [Z7 ha,Z7 ht,Z29,if_pos h]
theorem Znd {vars args types:List Int} {k:Nat} {a t:Int} (ha:args[k]? = some a) (ht:types[k]? = some t) (h:atI vars a≠some t) :
  Z29 vars (args.drop k) (types.drop k)=false:=by
 rw [Z7 ha,Z7 ht,Z29,if_neg h]
theorem Zx1 {vars args types:List Int} {k:Nat} (ha:args.length≤k) (ht:types.length≤k):Z29 vars (args.drop k) (types.drop k)=true:=by
 rw [Zv ha,Zv ht];rfl
def Z28 (op:Int):Bool:=op==0||(op==6||(op==8||(op==9||op==10)))
def Z01 (op:Int):Bool:=decide (0≤op∧op≤11)
def Z0w (op:Int):Bool:=decide (14≤op∧op≤17)
def Z11 (vars:List Int) (op into:Int):Bool:=
 if into=0 then true else if op=6 then ((atI vars (into-1)).map fun t=>decide (0<t)).getD false else false
def Z47 (ds:List Decl) (ps:List Int) (res:Int):Int:=Z2d ds (ps.getLast?.getD 0) res
def Z3b (ds:List Decl) (vars:List Int) (op:Int) (args:List Int) (r:Routine):Int:=
 if op=9 then (if Z1r vars args r.params=true then r.result else -1)
 else if r.params.length=0∨0<r.lent.length∨¬Z1r vars args (r.params.take (r.params.length-1))=true then -1
 else Z47 ds r.params r.result
def Z2m (n:Normal) (vars:List Int) (op num:Int) (args:List Int):Int:=
 match atI n.routines num with
 | none=>-1
 | some r=>Z3b n.decls vars op args r
def Z21 (ds:List Decl) (vars:List Int) (op:Int) (args:List Int):Int:=
 match args with
 | [a]=>match atI vars a with
  | some t=>if t=0 then -1 else if (op≠14∧op≠15)∧Z02 ds t=true then -1 else 0
  | none=>-1
 | _=>-1
def Z4e (ds:List Decl) (vars:List Int) (args:List Int):Int:=
 match args with
 | [a,b]=>match atI vars a with
  | some t=>if Z02 ds t=true then
    (match ds[(t-1).toNat]? with
     | some d=>if Z1r vars [b] [d.frm]=true then d.to_ else -1
     | none=>-1) else -1
  | none=>-1
 | _=>-1
def Zq (ds:List Decl) (op num:Int):List (List Int):=if op=7 then [[],[]] else (Zb ds num).map (Z1 ds)
mutual
def Z8 (n:Normal) (vars:List Int):Step→Int
 | .mk op num into args kids=>
  if (num≠0∧¬Z28 op=true)∨¬Z11 vars op into=true∨(0<kids.length∧op≠7∧op≠8) then -1
  else if op=0 then (if args.length=0∧(-999≤num∧num≤999) then 0 else -1)
  else if op=1∨op=2∨op=3∨op=4 then (if Z1r vars args [0,0]=true then 0 else -1)
  else if op=5 then (if Z1r vars args [0]=true then 0 else -1)
  else if op=6 then (if 0<Z0a n.decls num∧Z1r vars args (Z1 n.decls num)=true then Z0a n.decls num else -1)
  else if op=7 then (if Z1r vars args [0]=true then (if (Zq n.decls op num).length=0∨kids.length≠(Zq n.decls op num).length then -1 else Z1h n vars kids (Zq n.decls op num) true 0) else -1)
  else if op=8 then (if Z1r vars args [num]=true then (if (Zq n.decls op num).length=0∨kids.length≠(Zq n.decls op num).length then -1 else Z1h n vars kids (Zq n.decls op num) true 0) else -1)
  else if op=9∨op=10 then Z2m n vars op num args
  else if op=11 then Z4e n.decls vars args
  else if op=14∨op=15∨op=16∨op=17 then Z21 n.decls vars op args
  else -1
def Z1h (n:Normal) (vars:List Int):List Block→List (List Int)→Bool→Int→Int
 | [],_,_,t=>t
 | b::bs,more,first,t=>
  match more with
  | []=>-1
  | m::ms=>if Zc n (vars++m) b<0∨(first=false∧Zc n (vars++m) b≠t) then -1 else Z1h n vars bs ms false (Zc n (vars++m) b)
def Z0x (n:Normal):List Step→List Int→Option (List Int)
 | [],vars=>some vars
 | s::r,vars=>if Z8 n vars s<0 then none else Z0x n r (if Z01 s.op=true then vars++[Z8 n vars s] else vars)
def Zc (n:Normal) (vars:List Int):Block→Int
 | .mk steps result=>match Z0x n steps vars with
  | none=>-1
  | some vs=>(atI vs result).getD (-1)
end
def Z3p (n:Normal) (vars:List Int) (op num:Int) (kids:List Block):Int:=
 if (Zq n.decls op num).length=0∨kids.length≠(Zq n.decls op num).length then -1 else Z1h n vars kids (Zq n.decls op num) true 0
mutual
def Zmg:Step→Int→Int
 | .mk _ _ _ _ kids,left=>Z6z kids left
def Z3m:Block→Int→Int
 | .mk steps _,left=>Z6n steps left
def Z6n:List Step→Int→Int
 | [],left=>left
 | s::r,left=>if left<1 then -1 else if Zmg s (left-1)<0 then -1 else Z6n r (Zmg s (left-1))
def Z6z:List Block→Int→Int
 | [],left=>left
 | b::r,left=>if Z3m b left<0 then -1 else Z6z r (Z3m b left)
end
def Z1y (b:Block):Int:=if Z3m b 600<0 then -1 else 600-Z3m b 600
def Z36 (n:Normal):List Routine→Bool
 | []=>true
 | r::rs=>if ¬Z1y r.body<0∧Zc n r.params r.body=r.result then Z36 n rs else false
def Z0z (n:Normal):Bool:=Z0g n&&Z36 n n.routines
theorem Zka:(∀(s:Step) (l:Int),0≤l→Zmg s l≤l)∧(∀(b:Block) (l:Int),0≤l→Z3m b l≤l):=by
 have key:∀m:Nat,(∀s:Step,s.sz≤m→∀l:Int,0≤l→Zmg s l≤l)∧(∀b:Block,b.sz≤m→∀l:Int,0≤l→Z3m b l≤l):=by
  intro m
  induction m with
  | zero=>exact ⟨fun s h=>by have:=s.sz_pos;omega,fun s h=>by have:=s.sz_pos;omega⟩
  | succ m ih=>
   refine ⟨fun s hs l hl=>?_,fun b hb l hl=>?_⟩
   ·cases s with
    | mk op num into args kids=>
     rw [Zmg]
     have hk:bsz kids≤m:=by rw [Step.sz] at hs;omega
     clear hs
     induction kids generalizing l with
     | nil=>rw [Z6z];exact Int.le_refl _
     | cons b r ihr=>
      rw [bsz] at hk
      have:=ih.2 b om l hl
      rw [Z6z]
      split
      ·omega
      ·have:=ihr (Z3m b l) om om;omega
   ·cases b with
    | mk steps res=>
     rw [Z3m]
     have hk:ssz steps≤m:=by rw [Block.sz] at hb;omega
     clear hb
     induction steps generalizing l with
     | nil=>rw [Z6n];exact Int.le_refl _
     | cons s r ihr=>
      rw [ssz] at hk
      rw [Z6n]
      split
      ·omega
      ·have:=ih.1 s om (l-1) om
       split
       ·omega
       ·have:=ihr (Zmg s (l-1)) om om;omega
 exact ⟨fun s l hl=>(key s.sz).1 s (Nat.le_refl _) l hl,fun b l hl=>(key b.sz).2 b (Nat.le_refl _) l hl⟩
end Go.Abs
namespace Go.Abs
theorem Z01k {l:List Step} {k:Nat} {s:Step} (h:l[k]? = some s):k+s.sz≤ssz l:=by
 induction l generalizing k with
 | nil=>simp at h
 | cons t r ih=>
  cases k with
  | zero=>simp at h;subst h;simp only [ssz];omega
  | succ k=>have:=ih (k:=k) (by simpa using h);have:=t.sz_pos;simp only [ssz];omega
theorem Zfz {b:Block} {k:Nat} {s:Step} (h:b.steps[k]? = some s):k+s.sz<b.sz:=by have:=Z01k h;have:=b.sz_eq;omega
structure NOk (n:Normal):Prop where
 decls:DOk n.decls
 len:n.routines.length≤4
 params:∀r∈n.routines,r.params.length≤3
 lent:∀r∈n.routines,r.lent.length≤4194304
theorem NOk.params_at {n:Normal} (h:NOk n) {k:Nat} {r:Routine} (hr:n.routines[k]? = some r):r.params.length≤3:=h.params r (List.mem_of_getElem? hr)
theorem NOk.lent_at {n:Normal} (h:NOk n) {k:Nat} {r:Routine} (hr:n.routines[k]? = some r):r.lent.length≤4194304:=h.lent r (List.mem_of_getElem? hr)
theorem Zih {ds:List Decl} {num:Int} {k:Nat} {x:Int} (h:(Zb ds num)[k]? = some x):(Zq ds 8 num)[k]? = some (Z1 ds x):=by
 rw [Zq,if_neg om,List.getElem?_map,h];rfl
end Go.Abs
namespace Go.Abs
theorem Zh5 {ds:List Decl} (hd:DOk ds) (t:Int):(Zb ds t).length≤3:=by
 rw [Zb]
 split
 ·rename_i h
  obtain ⟨d,hd1⟩:=Z9 (xs:=ds) (j:=(t-1).toNat) om
  rw [hd1,Zh6]
  exact hd.cons_at hd1
 ·simp
theorem Z0u {ds:List Decl} (hd:DOk ds) (c:Int):(Z1 ds c).length≤3:=by
 by_cases h:Z0a ds c<1
 ·rw [(Z7s h).1];simp
 ·obtain ⟨k,d,x,h1,_,h3,_,h5⟩:=Za3 h
  rw [h5];exact hd.fields_at h1 h3
theorem Z5w {ds:List Decl} (hd:DOk ds) {op num:Int} {k:Nat} {m:List Int} (h:(Zq ds op num)[k]? = some m):m.length≤3:=by
 have hm:=List.mem_of_getElem? h
 rw [Zq] at hm
 split at hm
 ·simp at hm;subst hm;simp
 ·obtain ⟨c,_,rfl⟩:=List.mem_map.1 hm;exact Z0u hd c
theorem Zf4 {α:Type} {xs:List α} {x:α} (h:xs.length=1) (hx:xs[0]? = some x):xs=[x]:=by
 cases xs with
 | nil=>simp at h
 | cons a r=>
  cases r with
  | nil=>simp at hx;rw [hx]
  | cons b r=>simp at h
theorem Z59 {ds:List Decl} {us args:List Int} {op:Int} (h:args.length≠1):Z21 ds us op args=-1:=by
 cases args with
 | nil=>rfl
 | cons a r=>
  cases r with
  | nil=>simp at h
  | cons b r=>rfl
theorem Z5a {ds:List Decl} {us args:List Int} {op a:Int} (h:args=[a]) (hi:¬(0≤a∧a≤(us.length:Int)-1)):Z21 ds us op args=-1:=by
 subst h;rw [Z21];simp only [Z5x hi]
theorem Z60 {ds:List Decl} {us args:List Int} {op a t:Int} (h:args=[a]) (hi:0≤a∧a≤(us.length:Int)-1) (ht:us[a.toNat]? = some t) :
  Z21 ds us op args=if t=0 then -1 else if (op≠14∧op≠15)∧Z02 ds t=true then -1 else 0:=by
 subst h;rw [Z21];simp only [Z6y hi ht]
theorem Zs9 {n:Normal} {us args:List Int} {op num:Int} {r:Routine} (hi:0≤num∧num≤(n.routines.length:Int)-1) (hr:n.routines[num.toNat]? = some r) :
  Z2m n us op num args=Z3b n.decls us op args r:=by
 rw [Z2m];simp only [Z6y hi hr]
theorem Zou {n:Normal} {us args:List Int} {op num:Int} (hi:¬(0≤num∧num≤(n.routines.length:Int)-1)):Z2m n us op num args=-1:=by
 rw [Z2m];simp only [Z5x hi]
theorem Zit {xs:List Int} {x:Int} (h:xs[xs.length-1]? = some x):xs.getLast?.getD 0=x:=by
 rw [List.getLast?_eq_getElem?,h];rfl
theorem Zmd {n:Normal} {us:List Int} {bs:List Block} {ms:List (List Int)} {b:Block} {m:List Int} {k:Nat} {t:Int} (hb:bs[k]? = some b) (hm:ms[k]? = some m)
  (h:¬(Zc n (us++m) b<0∨(k:Int)>0∧Zc n (us++m) b≠t)) :
  Z1h n us (bs.drop k) (ms.drop k) (decide (k=0)) t=Z1h n us (bs.drop (k+1)) (ms.drop (k+1)) (decide (k+1=0)) (Zc n (us++m) b):=by
 rw [Z7 hb,Z7 hm,Z1h,if_neg]
 ·simp
 ·rintro (q|⟨q1,q2⟩)
  ·exact h (.inl q)
  ·exact h (.inr ⟨by simp at q1;omega,q2⟩)
theorem Zq0 {n:Normal} {us:List Int} {bs:List Block} {ms:List (List Int)} {b:Block} {m:List Int} {k:Nat} {t:Int} (hb:bs[k]? = some b) (hm:ms[k]? = some m)
  (h:Zc n (us++m) b<0∨(k:Int)>0∧Zc n (us++m) b≠t) :
  Z1h n us (bs.drop k) (ms.drop k) (decide (k=0)) t=-1:=by
 rw [Z7 hb,Z7 hm,Z1h,if_pos]
 rcases h with q|⟨q1,q2⟩
 ·exact .inl q
 ·exact .inr ⟨by simp;omega,q2⟩
theorem Zq1 {n:Normal} {us:List Int} {bs:List Block} {ms:List (List Int)} {k:Nat} {f:Bool} {t:Int} (hb:bs.length≤k):Z1h n us (bs.drop k) (ms.drop k) f t=t:=by
 rw [Zv hb,Z1h]
end Go.Abs
end
section
namespace Go.Abs
theorem Z3y (n:Normal) (us:List Int) (s:Step):Z8 n us s =
  if (s.num≠0∧¬Z28 s.op=true)∨¬Z11 us s.op s.into=true∨(0<s.kids.length∧s.op≠7∧s.op≠8) then -1
  else if s.op=0 then (if s.args.length=0∧(-999≤s.num∧s.num≤999) then 0 else -1)
  else if s.op=1∨s.op=2∨s.op=3∨s.op=4 then (if Z1r us s.args [0,0]=true then 0 else -1)
  else if s.op=5 then (if Z1r us s.args [0]=true then 0 else -1)
  else if s.op=6 then (if 0<Z0a n.decls s.num∧Z1r us s.args (Z1 n.decls s.num)=true then Z0a n.decls s.num else -1)
  else if s.op=7 then (if Z1r us s.args [0]=true then Z3p n us s.op s.num s.kids else -1)
  else if s.op=8 then (if Z1r us s.args [s.num]=true then Z3p n us s.op s.num s.kids else -1)
  else if s.op=9∨s.op=10 then Z2m n us s.op s.num s.args
  else if s.op=11 then Z4e n.decls us s.args
  else if s.op=14∨s.op=15∨s.op=16∨s.op=17 then Z21 n.decls us s.op s.args
  else -1:=by
 cases s with
 | mk op num into args kids=>rw [Z8];rfl
theorem Z8u (n:Normal) (us:List Int) (b:Block):Zc n us b=match Z0x n b.steps us with
  | none=>-1
  | some vs=>(atI vs b.result).getD (-1):=by
 cases b with
 | mk st r=>rw [Zc];rfl
theorem Z025 {α:Type} {xs:List α} {x:α} (h:xs.length=2) (hx:xs[0]? = some x):∃y,xs=[x,y]:=by
 match xs,h with
 | [a,b],_=>simp at hx;subst hx;exact ⟨b,rfl⟩
theorem Z26 {ds:List Decl} {us args:List Int} (h:args.length≠2):Z4e ds us args=-1:=by
 match args,h with
 | [],_=>rfl
 | [_],_=>rfl
 | [_,_],h=>simp at h
 | _::_::_::_,_=>rfl
theorem Z27 {ds:List Decl} {us args:List Int} {a:Int} (hl:args.length=2) (h:args[0]? = some a) (hi:¬(0≤a∧a≤(us.length:Int)-1)):Z4e ds us args=-1:=by
 obtain ⟨y,rfl⟩:=Z025 hl h;rw [Z4e];simp only [Z5x hi]
theorem Z2p {ds:List Decl} {us args:List Int} {a t:Int} (hl:args.length=2) (h:args[0]? = some a) (hi:0≤a∧a≤(us.length:Int)-1) (ht:us[a.toNat]? = some t) :
  Z4e ds us args=if Z02 ds t=true then
    (match ds[(t-1).toNat]? with
     | some d=>if Z1r us (args.drop 1) [d.frm]=true then d.to_ else -1
     | none=>-1) else -1:=by
 obtain ⟨y,rfl⟩:=Z025 hl h;rw [Z4e];simp only [Z6y hi ht];rfl
theorem Zzq {ds:List Decl} {us args:List Int} {a t:Int} {d:Decl} (hl:args.length=2) (h:args[0]? = some a) (hi:0≤a∧a≤(us.length:Int)-1) (ht:us[a.toNat]? = some t)
  (hA:Z02 ds t=true) (hd:ds[(t-1).toNat]? = some d):Z4e ds us args=if Z1r us (args.drop 1) [d.frm]=true then d.to_ else -1:=by
 rw [Z2p hl h hi ht,if_pos hA];simp only [hd]
theorem Ze1 {ds:List Decl} {t:Int} (h:Z02 ds t=true):1≤t∧t≤ds.length:=by
 simp only [Z02,Bool.and_eq_true,decide_eq_true_eq] at h;exact h.1
theorem Zq2 (b:Block) (l:Int):Z3m b l=Z6n b.steps l:=by cases b;rw [Z3m];rfl
theorem Zfs (s:Step) (l:Int):Zmg s l=Z6z s.kids l:=by cases s;rw [Zmg];rfl
end Go.Abs
end
section
namespace Go.Abs
structure NSz (n:Normal):Prop where
 decls:DSz n.decls
 len:n.routines.length≤4194304
 params:∀r∈n.routines,r.params.length≤4194304
 lent:∀r∈n.routines,r.lent.length≤4194304
 body:∀r∈n.routines,r.body.sz≤100000000
theorem Zbr {m:Nat} {fs:List Sg} (h:Z6v m fs=true):∀f∈fs,Z9l m f=true:=by
 induction fs with
 | nil=>simp
 | cons f r ih=>
  rw [Z6v] at h
  split at h
  ·rename_i h1
   intro g hg
   rcases List.mem_cons.1 hg with rfl|hg
   ·exact h1
   ·exact ih h g hg
  ·cases h
theorem Z97 {n:Normal} (hz:NSz n) (h:Z0g n=true):NOk n:=by
 simp only [Z0g,Z2x,Bool.and_eq_true,decide_eq_true_eq] at h
 obtain ⟨h1,⟨h2,h3,h4,h5⟩,h6⟩:=h
 refine ⟨Zl9 h2,h1,fun r hr=>?_,hz.lent⟩
 have:=Zbr h4 (Z5n r) (List.mem_map.2 ⟨r,hr,rfl⟩)
 simp only [Z9l,Bool.and_eq_true,decide_eq_true_eq] at this
 exact this.1
end Go.Abs
end
section
namespace Go.Abs
def gI (xs:List Int) (i:Int):Int:=xs[i.toNat]?.getD 0
theorem Z5e {xs:List Int} {i:Int} {x:Int} (h:xs[i.toNat]? = some x):gI xs i=x:=by rw [gI,h];rfl
structure Led where
 vars:List Int
 own:List Int
 par:List Int
 con:List Int
 fst:List Int
 tok:List Int
def Led.grow (L:Led) (t own par:Int):Led:=⟨L.vars++[t],L.own++[own],L.par++[par],L.con++[-1],L.fst++[-1],L.tok++[-1]⟩
def Z7o (L:Led) (v:Int):Option Led:=if gI L.own v<1 then none else some { L with own:=L.own.set v.toNat (gI L.own v-1) }
def Z7r (own par ln:List Int):Nat→Int→Bool
 | 0,_=>false
 | k+1,v=>if gI own v<1∧¬v∈ln then (if gI par v<0 then false else Z7r own par ln k (gI par v)) else true
def Z1i (L:Led) (ln:List Int) (v:Int):Bool:=Z7r L.own L.par ln (v.toNat+1) v
def addF:List Int→Int→List Int→List Int
 | own,_,[]=>own
 | own,p,f::r=>addF (if f≠0 then own.set p.toNat (gI own p+1) else own) (p+1) r
def Zay (ds:List Decl) (L:Led) (op x:Int):Option Led:=
 if gI L.con x<0∨(op=17∧0≤gI L.tok x) then none
 else match Z7o L x with
  | none=>none
  | some L1=>some { L1 with
    own:=addF L1.own (gI L.fst x) (Z1 ds (gI L.con x))
    tok:=if op=17 then L.tok.set x.toNat (Z1 ds (gI L.con x)).length else L.tok }
def Z2k (op:Int):Bool:=op==6||(op==9||(op==10||op==11))
def Zbo (n:Normal) (op num:Int):List Int:=if op=9 then ((n.routines[num.toNat]?).map (·.lent)).getD [] else []
def Z2g (n:Normal) (op num:Int) (i:Nat):Bool:=decide ((i:Int)∈Zbo n op num)
def Zav (n:Normal) (vars:List Int) (op num a:Int) (i:Nat):Bool:=Z2k op&&(gI vars a != 0&&!Z2g n op num i)
def Z3q (n:Normal) (op num:Int):List Int→Nat→Led→Option Led
 | [],_,L=>some L
 | a::r,i,L=>if Zav n L.vars op num a i=true then (match Z7o L a with
   | none=>none
   | some L1=>Z3q n op num r (i+1) L1) else Z3q n op num r (i+1) L
def Z49 (n:Normal) (op num:Int) (ln:List Int) (L:Led):List Int→Nat→Bool
 | [],_=>true
 | a::r,i=>if Z2g n op num i=true∧¬Z1i L ln a=true then false else Z49 n op num ln L r (i+1)
def Z52 (L:Led) (into:Int) (m:Nat):Option Led:=
 if 0<into then (if gI L.tok (into-1)≠m then none else some { L with tok:=L.tok.set (into-1).toNat (-1) }) else some L
def Z7p (n:Normal) (ln:List Int) (L:Led) (op num into:Int) (args:List Int):Option Led:=
 match Z3q n op num args 0 L with
 | none=>none
 | some L1=>if Z49 n op num ln L1 args 0=true then Z52 L1 into args.length else none
def Z34:List Int→List Int→Bool
 | o::os,t::ts=>if o≠0∨0≤t then false else Z34 os ts
 | _,_=>true
def Led.take (L:Led) (m:Nat):Led:=⟨L.vars.take m,L.own.take m,L.par.take m,L.con.take m,L.fst.take m,L.tok.take m⟩
def cutL (L:Led) (m:Nat):Option Led:=if Z34 (L.own.drop m) (L.tok.drop m)=true then some (L.take m) else none
def Z6r (L:Led) (par:Int):List Int→Led
 | []=>L
 | t::r=>Z6r (L.grow t 0 par) par r
def armL (ds:List Decl) (L:Led) (x c:Int):Led:=
 Z6r { L with con:=L.con.set x.toNat c,fst:=L.fst.set x.toNat L.vars.length } x (Z1 ds c)
def kidL (ds:List Decl) (L:Led) (op num:Int) (args:List Int) (i:Nat):Led:=
 if op=8 then armL ds L (gI args 0) (gI (Zb ds num) i) else L
def Z45 (lent:List Int):List Int→Nat→Led→Led
 | [],_,L=>L
 | t::r,i,L=>Z45 lent r (i+1) (L.grow t (if t≠0∧¬(i:Int)∈lent then 1 else 0) (-1))
def newL (r:Routine):Led:=Z45 r.lent r.params 0 ⟨[],[],[],[],[],[]⟩
def dupL (L:Led) (ln:List Int) (v:Int):Option Led:=if Z1i L ln v=true then some { L with own:=L.own.set v.toNat (gI L.own v+1) } else none
def Zaz (n:Normal) (ln:List Int) (L:Led) (op num into:Int) (args:List Int) (ch:Option Led):Option Led:=
 if op=14 then dupL L ln (gI args 0)
 else if op=15 then Z7o L (gI args 0)
 else if op=16∨op=17 then Zay n.decls L op (gI args 0)
 else if op=7∨op=8 then (if op=8∧¬Z1i L ln (gI args 0)=true then none else ch)
 else Z7p n ln L op num into args
def finL (L:Led) (op t:Int) (r:Option Led):Option Led:=
 match r with
 | none=>none
 | some L1=>if Z01 op=true then some (L1.grow t (if t≠0 then 1 else 0) (-1)) else some L1
def Zkg (L:Led) (first:Option Led) (rest:Led→Bool):Option Led:=
 match first with
 | none=>none
 | some one=>if rest one=true then some { L with own:=one.own,tok:=one.tok } else none
def Zsj (one:Led) (two:Option Led) (rest:Bool):Bool:=
 match two with
 | none=>false
 | some two=>if one.own=two.own∧one.tok=two.tok then rest else false
def Zsr (r:Option Led) (f:Led→Option Led):Option Led:=match r with|none=>none|some L=>f L
def endL (m:Nat) (res:Int) (L:Led):Option Led:=Zsr (if gI L.vars res≠0 then Z7o L res else some L) fun L2=>cutL L2 m
mutual
def Z7n (n:Normal) (ln:List Int) (L:Led):Step→Option Led
 | .mk op num into args kids=>finL L op (Z8 n L.vars (.mk op num into args kids)) (Zaz n ln L op num into args (Z5s n ln L op num args kids))
def Z5s (n:Normal) (ln:List Int) (L:Led) (op num:Int) (args:List Int):List Block→Option Led
 | []=>none
 | b::bs=>Zkg L (Z2s n ln (kidL n.decls L op num args 0) L.vars.length b) fun one=>Zax n ln L op num args one bs 1
def Zax (n:Normal) (ln:List Int) (L:Led) (op num:Int) (args:List Int) (one:Led):List Block→Nat→Bool
 | [],_=>true
 | b::bs,i=>Zsj one (Z2s n ln (kidL n.decls L op num args i) L.vars.length b) (Zax n ln L op num args one bs (i+1))
def Z2y (n:Normal) (ln:List Int) (L:Led):List Step→Option Led
 | []=>some L
 | s::r=>Zsr (Z7n n ln L s) fun L1=>Z2y n ln L1 r
def Z2s (n:Normal) (ln:List Int) (L:Led) (m:Nat):Block→Option Led
 | .mk steps result=>Zsr (Z2y n ln L steps) (endL m result)
end
theorem Zfx (n:Normal) (ln:List Int) (L:Led) (s:Step):Z7n n ln L s=finL L s.op (Z8 n L.vars s) (Zaz n ln L s.op s.num s.into s.args (Z5s n ln L s.op s.num s.args s.kids)):=by
 cases s with
 | mk op num into args kids=>rw [Z7n];rfl
theorem Z3s (n:Normal) (ln:List Int) (L:Led) (m:Nat) (b:Block):Z2s n ln L m b=Zsr (Z2y n ln L b.steps) (endL m b.result):=by
 cases b with
 | mk st r=>rw [Z2s];rfl
def Z1g (n:Normal) (r:Routine):Bool:=
 match Z2s n r.lent (newL r) r.params.length r.body with
 | none=>false
 | some L=>(cutL L 0).isSome
def Z2j (n:Normal):List Routine→Bool
 | []=>true
 | r::rs=>if Z1g n r=true then Z2j n rs else false
def Z1u (n:Normal):Bool:=Z0z n&&Z2j n n.routines
structure LLen (L:Led):Prop where
 own:L.own.length=L.vars.length
 par:L.par.length=L.vars.length
 con:L.con.length=L.vars.length
 fst:L.fst.length=L.vars.length
 tok:L.tok.length=L.vars.length
structure LOk (ds:List Decl) (L:Led) (q:Int):Prop where
 len:LLen L
 down:∀j:Int,0≤j→j<L.vars.length→gI L.par j<j
 arm:∀x:Int,0≤x→x<L.vars.length→0≤gI L.con x→0≤gI L.fst x∧gI L.fst x+(Z1 ds (gI L.con x)).length≤L.vars.length
 nn:∀x∈L.own,0≤x
 bd:∀x∈L.own,x≤q
end Go.Abs
end
section
namespace Go.Abs
end Go.Abs
namespace Go.Abs
theorem Zy9 {n:Normal} {op num:Int} {r:Routine} (h:op=9) (hr:n.routines[num.toNat]? = some r):Zbo n op num=r.lent:=by
 rw [Zbo,if_pos h,hr];rfl
end Go.Abs
namespace Go.Abs
theorem Znp {own par ln:List Int} {N:Int} (hd:∀j:Int,0≤j→j<N→gI par j<j):∀(k:Nat) (v:Int),0≤v→v<N→v.toNat+1≤k→Z7r own par ln k v=Z7r own par ln (v.toNat+1) v:=by
 intro k
 induction k using Nat.strongRecOn with
 | ind k ih=>
  intro v h0 hN hk
  cases k with
  | zero=>omega
  | succ k=>
   rw [Z7r,Z7r]
   split
   ·split
    ·rfl
    ·have hdv:=hd v h0 hN
     rw [ih k om (gI par v) om om om]
     rw [ih v.toNat om (gI par v) om om om]
   ·rfl
theorem Zpb {own par ln:List Int} {N j x1 x2:Int} {r:Bool} (h1:gI own j=x1) (h2:gI par j=x2) (hj:0≤j∧j<N) (hx:x1<1∧¬j∈ln) (h0:¬x2<0) (hd:∀i:Int,0≤i→i<N→gI par i<i)
  (h:Z7r own par ln (j.toNat+1) j=r):Z7r own par ln (x2.toNat+1) x2=r:=by
 rw [Z7r,h1,h2,if_pos hx,if_neg h0] at h
 have hdv:=hd j hj.1 hj.2
 rw [←h,Znp hd j.toNat x2 om om om]
theorem Zid {own par ln:List Int} {j x1 x2:Int} {r:Bool} (h1:gI own j=x1) (h2:gI par j=x2) (hx:x1<1∧¬j∈ln) (h0:x2<0) (h:Z7r own par ln (j.toNat+1) j=r):false=r:=by
 rw [Z7r,h1,h2,if_pos hx,if_pos h0] at h;exact h
theorem Zie {own par ln:List Int} {j x1:Int} {r:Bool} (h1:gI own j=x1) (hx:¬(x1<1∧¬j∈ln)) (h:Z7r own par ln (j.toNat+1) j=r):true=r:=by
 rw [Z7r,h1,if_neg hx] at h;exact h
end Go.Abs
namespace Go.Abs
theorem Z37 {L L':Led} {v:Int} (h:Z7o L v=some L'):1≤gI L.own v∧L'.vars=L.vars∧L'.par=L.par∧L'.con=L.con∧L'.fst=L.fst∧L'.tok=L.tok∧L'.own=L.own.set v.toNat (gI L.own v-1):=by
 rw [Z7o] at h
 split at h
 ·cases h
 ·cases h;exact ⟨by omega,rfl,rfl,rfl,rfl,rfl,rfl⟩
theorem Zuf {xs:List Int} {v:Int} (h:gI xs v≠0):gI xs v∈xs:=by
 rw [gI] at h ⊢
 cases hx:xs[v.toNat]? with
 | none=>rw [hx] at h;exact absurd rfl h
 | some y=>exact List.mem_of_getElem? hx
theorem Z3a {xs:List Int} {i:Nat} {a x:Int} (h:x∈xs.set i a):x∈xs∨x=a:=List.mem_or_eq_of_mem_set h
theorem LOk.take {ds:List Decl} {L L':Led} {q v:Int} (hk:LOk ds L q) (h:Z7o L v=some L'):LOk ds L' q:=by
 obtain ⟨t1,t2,t3,t4,t5,t6,t7⟩:=Z37 h
 obtain ⟨f1,f2,f3,f4,f5⟩:=hk.len
 have hm:=Zuf (xs:=L.own) (v:=v) om
 refine ⟨⟨by rw [t7,t2,List.length_set];exact f1,by rw [t3,t2];exact f2,by rw [t4,t2];exact f3,by rw [t5,t2];exact f4,by rw [t6,t2];exact f5⟩,?_,?_,?_,?_⟩
 ·rw [t2,t3];exact hk.down
 ·rw [t2,t4,t5];exact hk.arm
 ·rw [t7];intro x hx
  rcases Z3a hx with hx|rfl
  ·exact hk.nn x hx
  ·omega
 ·rw [t7];intro x hx
  rcases Z3a hx with hx|rfl
  ·exact hk.bd x hx
  ·have:=hk.bd _ hm;omega
end Go.Abs
end
section
namespace Go.Abs
theorem Z8c {us:List Int}:∀{args tys:List Int},Z29 us args tys=true→args.length=tys.length∧∀a∈args,0≤a∧a<us.length
 | [],[],_=>⟨rfl,by simp⟩
 | [],_::_,h=>by cases h
 | _::_,[],h=>by cases h
 | a::as1,t::ts,h=>by
  rw [Z29] at h
  split at h
  ·rename_i h1
   obtain ⟨q1,q2⟩:=Z8c h
   refine ⟨by simp [q1],fun x hx=>?_⟩
   rcases List.mem_cons.1 hx with rfl|hx
   ·have:=(Z51 h1).1;omega
   ·exact q2 x hx
  ·cases h
theorem Zet {n:Normal} {us:List Int}:∀{bs:List Block} {ms:List (List Int)} {f:Bool} {t:Int},0≤t→0≤Z1h n us bs ms f t →
  ∀(i:Nat) (b:Block) (m:List Int),bs[i]? = some b→ms[i]? = some m→0≤Zc n (us++m) b
 | [],_,_,_,_,_,i,b,m,hb,_=>by simp at hb
 | b::bs,[],_,_,_,h,_,_,_,_,hm=>by simp at hm
 | b::bs,m::ms,f,t,ht,h,i,c,l,hc,hl=>by
  rw [Z1h] at h
  split at h
  ·omega
  ·rename_i hq
   have h0:0≤Zc n (us++m) b:=by
    rcases Int.lt_or_le (Zc n (us++m) b) 0 with q|q
    ·exact absurd (.inl q) hq
    ·exact q
   cases i with
   | zero=>simp at hc hl;subst hc hl;exact h0
   | succ i=>exact Zet h0 h i c l (by simpa using hc) (by simpa using hl)
structure SFacts (n:Normal) (us:List Int) (s:Step):Prop where
 args:∀a∈s.args,0≤a∧a<us.length
 one:(s.op=7∨s.op=8∨(14≤s.op∧s.op≤17))→∃a,s.args=[a]
 num:s.op=9→0≤s.num∧s.num<n.routines.length
 into:s.into≠0→1≤s.into∧s.into≤us.length
 kids:(s.op=7∨s.op=8)→s.kids.length=(Zq n.decls s.op s.num).length∧(Zq n.decls s.op s.num).length≠0 ∧
  ∀(i:Nat) (b:Block) (m:List Int),s.kids[i]? = some b→(Zq n.decls s.op s.num)[i]? = some m→0≤Zc n (us++m) b
theorem Zmc {n:Normal} {us:List Int} {op num:Int} {kids:List Block} (h:0≤Z3p n us op num kids) :
  kids.length=(Zq n.decls op num).length∧(Zq n.decls op num).length≠0∧∀(i:Nat) (b:Block) (m:List Int),kids[i]? = some b→(Zq n.decls op num)[i]? = some m→0≤Zc n (us++m) b:=by
 rw [Z3p] at h
 split at h
 ·omega
 ·rename_i hq
  exact ⟨by omega,by omega,Zet (Int.le_refl 0) h⟩
theorem Zq3 {xs:List Int} (h:xs.length=1):∃a,xs=[a]:=by
 match xs,h with
 | [a],_=>exact ⟨a,rfl⟩
theorem Z5d {n:Normal} {us:List Int} {s:Step} (h:0≤Z8 n us s):SFacts n us s:=by
 rw [Z3y] at h
 split at h
 ·omega
 rename_i h0
 have hinto:s.into≠0→1≤s.into∧s.into≤us.length:=by
  intro hi
  have hv:Z11 us s.op s.into=true:=by
   cases q:Z11 us s.op s.into with
   | true=>rfl
   | false=>exact absurd (.inr (.inl (by rw [q];simp))) h0
  rw [Z11,if_neg hi] at hv
  split at hv
  ·cases ha:atI us (s.into-1) with
   | none=>rw [ha] at hv;cases hv
   | some t=>have:=(Z51 ha).1;omega
  ·cases hv
 have mk:(∀a∈s.args,0≤a∧a<us.length)→((s.op=7∨s.op=8∨(14≤s.op∧s.op≤17))→∃a,s.args=[a])→(s.op=9→0≤s.num∧s.num<n.routines.length) →
   ((s.op=7∨s.op=8)→0≤Z3p n us s.op s.num s.kids)→SFacts n us s:=fun a b c d=>⟨a,b,c,hinto,fun q=>Zmc (d q)⟩
 have ty:∀{tys},Z1r us s.args tys=true→s.args.length=tys.length∧∀a∈s.args,0≤a∧a<us.length:=fun q=>Z8c q
 split at h
 ·rename_i h1
  split at h
  ·rename_i h2
   exact mk (by rw [List.eq_nil_of_length_eq_zero h2.1];simp) om om om
  ·omega
 split at h
 ·split at h
  ·rename_i h1 h2;exact mk (ty h2).2 om om om
  ·omega
 split at h
 ·split at h
  ·rename_i h1 h2;exact mk (ty h2).2 om om om
  ·omega
 split at h
 ·split at h
  ·rename_i h1 h2;exact mk (ty h2.2).2 om om om
  ·omega
 split at h
 ·split at h
  ·rename_i h1 h2;exact mk (ty h2).2 (fun _=>Zq3 (by simpa using (ty h2).1)) om (fun _=>h)
  ·omega
 split at h
 ·split at h
  ·rename_i h1 h2;exact mk (ty h2).2 (fun _=>Zq3 (by simpa using (ty h2).1)) om (fun _=>h)
  ·omega
 split at h
 ·rename_i hop
  rw [Z2m] at h
  cases hr:atI n.routines s.num with
  | none=>rw [hr] at h;simp at h
  | some r=>
   rw [hr] at h
   simp only at h
   have hn:=(Z51 hr).1
   rw [Z3b] at h
   split at h
   ·split at h
    ·rename_i h2;exact mk (ty h2).2 om om om
    ·omega
   ·split at h
    ·omega
    ·rename_i h2
     have h3:Z1r us s.args (r.params.take (r.params.length-1))=true:=by
      cases q:Z1r us s.args (r.params.take (r.params.length-1)) with
      | true=>rfl
      | false=>exact absurd (.inr (.inr (by rw [q];simp))) h2
     exact mk (ty h3).2 om om om
 split at h
 ·rename_i hop
  rcases he:s.args with _|⟨a,_|⟨b,_|⟨c,r⟩⟩⟩
  ·rw [he,show Z4e n.decls us []=-1 from rfl] at h;omega
  ·rw [he,show Z4e n.decls us [a]=-1 from rfl] at h;omega
  ·rw [he,Z4e] at h
   cases ha:atI us a with
   | none=>rw [ha] at h;simp at h
   | some t=>
    rw [ha] at h
    simp only at h
    split at h
    ·cases hd:n.decls[(t-1).toNat]? with
     | none=>rw [hd] at h;simp at h
     | some d=>
      rw [hd] at h
      simp only at h
      split at h
      ·rename_i h3
       have h4:=(Z8c h3).2 b (by simp)
       have h5:=(Z51 ha).1
       refine mk (fun x hx=>?_) om om om
       rw [he] at hx
       rcases List.mem_cons.1 hx with rfl|hx
       ·omega
       ·rw [List.mem_singleton.1 hx];exact h4
      ·omega
    ·omega
  ·rw [he,show Z4e n.decls us (a::b::c::r)=-1 from rfl] at h;omega
 split at h
 ·rename_i hop
  rcases he:s.args with _|⟨a,_|⟨b,r⟩⟩
  ·rw [he,show Z21 n.decls us s.op []=-1 from rfl] at h;omega
  ·rw [he,Z21] at h
   cases ha:atI us a with
   | none=>rw [ha] at h;simp at h
   | some t=>
    have h5:=(Z51 ha).1
    refine mk (fun x hx=>?_) (fun _=>⟨a,he⟩) om om
    rw [he] at hx
    rw [List.mem_singleton.1 hx];omega
  ·rw [he,show Z21 n.decls us s.op (a::b::r)=-1 from rfl] at h;omega
 ·omega
def Z4w (n:Normal) (us:List Int) (s:Step):List Int:=if Z01 s.op=true then us++[Z8 n us s] else us
theorem Zgj {L L':Led} {ln:List Int} {v:Int} (h:dupL L ln v=some L'):L'.vars=L.vars∧L'.par=L.par∧L'.con=L.con∧L'.fst=L.fst∧L'.tok=L.tok∧L'.own=L.own.set v.toNat (gI L.own v+1):=by
 rw [dupL] at h
 split at h
 ·cases h;exact ⟨rfl,rfl,rfl,rfl,rfl,rfl⟩
 ·cases h
theorem Zjn:∀(fs:List Int) (own:List Int) (p:Int),(addF own p fs).length=own.length
 | [],own,p=>rfl
 | f::r,own,p=>by rw [addF,Zjn r];split<;>simp
theorem Z00g {xs:List Int} {q v:Int} (h:∀x∈xs,x≤q) (hq:0≤q):gI xs v≤q:=by
 by_cases h0:gI xs v=0
 ·omega
 ·exact h _ (Zuf h0)
theorem Z00h {xs:List Int} {v:Int} (h:∀x∈xs,0≤x):0≤gI xs v:=by
 by_cases h0:gI xs v=0
 ·omega
 ·exact h _ (Zuf h0)
theorem Zno:∀(fs:List Int) (own:List Int) (p:Int),(∀x∈own,0≤x)→∀x∈addF own p fs,0≤x
 | [],own,p,h=>h
 | f::r,own,p,h=>by
  rw [addF]
  refine Zno r _ _ fun x hx=>?_
  split at hx
  ·rcases Z3a hx with hx|rfl
   ·exact h x hx
   ·have:=Z00h (v:=p) h;omega
  ·exact h x hx
theorem Znn:∀(fs:List Int) (own:List Int) (p q:Int),0≤q→(∀x∈own,x≤q)→∀x∈addF own p fs,x≤q+fs.length
 | [],own,p,q,hq,h=>by intro x hx;have:=h x hx;simp;omega
 | f::r,own,p,q,hq,h=>by
  intro x hx
  rw [addF] at hx
  have:=Znn r _ _ (q+1) om (fun y hy=>by
   split at hy
   ·rcases Z3a hy with hy|rfl
    ·have:=h y hy;omega
    ·have:=Z00g (v:=p) h hq;omega
   ·have:=h y hy;omega) x hx
  simp only [List.length_cons];omega
theorem Ze7 {ds:List Decl} {L L':Led} {op v:Int} (h:Zay ds L op v=some L'):L'.vars=L.vars∧L'.par=L.par∧L'.con=L.con∧L'.fst=L.fst∧L'.tok.length=L.tok.length ∧
  ∃L1,Z7o L v=some L1∧L'.own=addF L1.own (gI L.fst v) (Z1 ds (gI L.con v)):=by
 rw [Zay] at h
 split at h
 ·cases h
 ·cases ht:Z7o L v with
  | none=>rw [ht] at h;cases h
  | some L1=>
   rw [ht] at h
   simp only at h
   obtain ⟨t1,t2,t3,t4,t5,t6,t7⟩:=Z37 ht
   cases h
   refine ⟨t2,t3,t4,t5,?_,L1,rfl,rfl⟩
   split
   ·rw [List.length_set]
   ·rfl
theorem Z73 {n:Normal} {op num:Int} {ds:List Decl} {q:Int}:∀{as1:List Int} {i:Nat} {L L':Led},LOk ds L q→Z3q n op num as1 i L=some L'→LOk ds L' q∧L'.vars=L.vars∧L'.par=L.par∧L'.con=L.con∧L'.fst=L.fst∧L'.tok=L.tok
 | [],i,L,L',hk,h=>by rw [Z3q] at h;cases h;exact ⟨hk,rfl,rfl,rfl,rfl,rfl⟩
 | a::r,i,L,L',hk,h=>by
  rw [Z3q] at h
  split at h
  ·cases ht:Z7o L a with
   | none=>rw [ht] at h;cases h
   | some L1=>
    rw [ht] at h
    obtain ⟨t1,t2,t3,t4,t5,t6,t7⟩:=Z37 ht
    obtain ⟨k1,k2,k3,k4,k5,k6⟩:=Z73 (hk.take ht) h
    exact ⟨k1,k2.trans t2,k3.trans t3,k4.trans t4,k5.trans t5,k6.trans t6⟩
  ·exact Z73 hk h
theorem LOk.le {ds:List Decl} {L:Led} {q q':Int} (h:LOk ds L q) (hq:q≤q'):LOk ds L q':=⟨h.len,h.down,h.arm,h.nn,fun x hx=>Int.le_trans (h.bd x hx) hq⟩
theorem LOk.turn {ds:List Decl} {L L':Led} {q q':Int} (hk:LOk ds L q) (h1:L'.vars=L.vars) (h2:L'.par=L.par) (h3:L'.con=L.con) (h4:L'.fst=L.fst) (h5:L'.tok.length=L.tok.length) (h6:L'.own.length=L.own.length)
  (h7:∀x∈L'.own,0≤x) (h8:∀x∈L'.own,x≤q'):LOk ds L' q':=by
 obtain ⟨f1,f2,f3,f4,f5⟩:=hk.len
 refine ⟨⟨by rw [h6,h1];exact f1,by rw [h2,h1];exact f2,by rw [h3,h1];exact f3,by rw [h4,h1];exact f4,by rw [h5,h1];exact f5⟩,?_,?_,h7,h8⟩
 ·rw [h1,h2];exact hk.down
 ·rw [h1,h3,h4];exact hk.arm
theorem Z5r {xs ys:List Int} {j:Int} (h:j.toNat<xs.length):gI (xs++ys) j=gI xs j:=by
 rw [gI,gI,List.getElem?_append_left h]
theorem Zpw {xs:List Int} {y:Int} {j:Int} (h:j.toNat=xs.length):gI (xs++[y]) j=y:=by
 rw [gI,h];simp
theorem LOk.grow {ds:List Decl} {L:Led} {q t o p:Int} (hk:LOk ds L q) (hp:p<L.vars.length) (ho:0≤o∧o≤q):LOk ds (L.grow t o p) q:=by
 obtain ⟨f1,f2,f3,f4,f5⟩:=hk.len
 refine ⟨⟨by simp [Led.grow,f1],by simp [Led.grow,f2],by simp [Led.grow,f3],by simp [Led.grow,f4],by simp [Led.grow,f5]⟩,?_,?_,?_,?_⟩
 ·intro j hj hl
  simp only [Led.grow,List.length_append,List.length_singleton] at hl ⊢
  by_cases hlt:j<L.vars.length
  ·rw [Z5r om];exact hk.down j hj hlt
  ·rw [Zpw om];omega
 ·intro x hx hl
  simp only [Led.grow,List.length_append,List.length_singleton] at hl ⊢
  by_cases hlt:x<L.vars.length
  ·rw [Z5r om,Z5r om]
   intro hc
   have:=hk.arm x hx hlt hc
   exact ⟨this.1,by omega⟩
  ·rw [Zpw om];omega
 ·intro x hx
  simp only [Led.grow,List.mem_append,List.mem_singleton] at hx
  rcases hx with hx|rfl
  ·exact hk.nn x hx
  ·exact ho.1
 ·intro x hx
  simp only [Led.grow,List.mem_append,List.mem_singleton] at hx
  rcases hx with hx|rfl
  ·exact hk.bd x hx
  ·exact ho.2
theorem Zpx {xs:List Int} {k:Nat} {a:Int} {j:Int} (h:xs.length≤j.toNat∧j.toNat<xs.length+k):gI (xs++List.replicate k a) j=a:=by
 rw [gI,List.getElem?_append_right h.1,List.getElem?_replicate,if_pos om];rfl
theorem Z6l {xs:List Int} {x j c:Int} (h:j.toNat=x.toNat) (hl:x.toNat<xs.length):gI (xs.set x.toNat c) j=c:=by
 rw [gI,h,List.getElem?_set_self hl];rfl
theorem Z5k {xs:List Int} {x j c:Int} (h:j.toNat≠x.toNat):gI (xs.set x.toNat c) j=gI xs j:=by
 rw [gI,gI,List.getElem?_set_ne (fun q=>h q.symm)]
theorem Zan {p:Int}:∀(fs:List Int) (L:Led),Z6r L p fs=⟨L.vars++fs,L.own++List.replicate fs.length 0,L.par++List.replicate fs.length p,L.con++List.replicate fs.length (-1),
  L.fst++List.replicate fs.length (-1),L.tok++List.replicate fs.length (-1)⟩
 | [],L=>by simp [Z6r]
 | t::r,L=>by rw [Z6r,Zan r];simp [Led.grow,List.replicate_succ]
theorem Zzr {ds:List Decl} {L:Led} {q x c:Int} (hk:LOk ds L q) (hq:0≤q) (hx:0≤x∧x<L.vars.length):LOk ds (armL ds L x c) q∧(armL ds L x c).vars=L.vars++Z1 ds c:=by
 obtain ⟨f1,f2,f3,f4,f5⟩:=hk.len
 rw [armL,Zan]
 refine ⟨⟨⟨by simp [f1],by simp [f2],by simp [f3],by simp [f4],by simp [f5]⟩,?_,?_,?_,?_⟩,rfl⟩
 ·intro j hj hl
  simp only [List.length_append] at hl ⊢
  by_cases hlt:j<L.vars.length
  ·rw [Z5r om];exact hk.down j hj hlt
  ·rw [Zpx om];omega
 ·intro y hy hl
  simp only [List.length_append] at hl ⊢
  by_cases hlt:y<L.vars.length
  ·rw [Z5r (by simp;omega),Z5r (by simp;omega)]
   by_cases he:y.toNat=x.toNat
   ·rw [Z6l he om,Z6l he om]
    intro _
    exact ⟨by omega,by simp⟩
   ·rw [Z5k he,Z5k he]
    intro hc
    have:=hk.arm y hy hlt hc
    exact ⟨this.1,by omega⟩
  ·rw [Zpx (by simp;omega)];omega
 ·intro y hy
  simp only [List.mem_append,List.mem_replicate] at hy
  rcases hy with hy|⟨_,rfl⟩
  ·exact hk.nn y hy
  ·exact Int.le_refl 0
 ·intro y hy
  simp only [List.mem_append,List.mem_replicate] at hy
  rcases hy with hy|⟨_,rfl⟩
  ·exact hk.bd y hy
  ·exact hq
theorem Zbn {n:Normal} {L:Led} {q:Int} {s:Step} {i:Nat} {m:List Int} (hk:LOk n.decls L q) (hq:0≤q) (hf:SFacts n L.vars s) (hop:s.op=7∨s.op=8) (hm:(Zq n.decls s.op s.num)[i]? = some m) :
  LOk n.decls (kidL n.decls L s.op s.num s.args i) q∧(kidL n.decls L s.op s.num s.args i).vars=L.vars++m:=by
 rw [kidL]
 split
 ·rename_i h8
  obtain ⟨a,ha⟩:=hf.one om
  have hb:=hf.args a (by rw [ha];simp)
  have hg:gI s.args 0=a:=by rw [ha];rfl
  rw [Zq,if_neg om,List.getElem?_map] at hm
  cases hc:(Zb n.decls s.num)[i]? with
  | none=>rw [hc] at hm;cases hm
  | some c=>
   rw [hc] at hm
   cases hm
   have hgc:gI (Zb n.decls s.num) (i:Int)=c:=by rw [gI];simp [hc]
   rw [hg,hgc]
   exact Zzr hk hq hb
 ·rename_i h8
  rw [Zq,if_pos om] at hm
  have:m=[]:=by
   match i,hm with
   | 0,hm=>simpa using hm.symm
   | 1,hm=>simpa using hm.symm
   | i+2,hm=>simp at hm
  subst this
  exact ⟨hk,by simp⟩
theorem Zf1 {n:Normal}:∀{l:List Step} {us vs:List Int},Z0x n l us=some vs→us.length≤vs.length
 | [],us,vs,h=>by rw [Z0x] at h;cases h;exact Nat.le_refl _
 | s::r,us,vs,h=>by
  rw [Z0x] at h
  split at h
  ·cases h
  ·have:=Zf1 h
   split at this
   ·simp only [List.length_append,List.length_singleton] at this;omega
   ·exact this
theorem Ziu {n:Normal} {ln:List Int} {L L':Led} {op num into q:Int} {args:List Int} {ds:List Decl} (hk:LOk ds L q) (h:Z7p n ln L op num into args=some L'):LOk ds L' q∧L'.vars=L.vars:=by
 rw [Z7p] at h
 cases ht:Z3q n op num args 0 L with
 | none=>rw [ht] at h;cases h
 | some L1=>
  rw [ht] at h
  simp only at h
  obtain ⟨k1,k2,k3,k4,k5,k6⟩:=Z73 hk ht
  split at h
  ·rw [Z52] at h
   split at h
   ·split at h
    ·cases h
    ·cases h
     exact ⟨k1.turn rfl rfl rfl rfl (by simp) rfl k1.nn k1.bd,k2⟩
   ·cases h;exact ⟨k1,k2⟩
  ·cases h
theorem Ztt {L L':Led} {m:Nat} (h:cutL L m=some L'):L'=L.take m∧Z34 (L.own.drop m) (L.tok.drop m)=true:=by
 rw [cutL] at h
 split at h
 ·rename_i hz;cases h;exact ⟨rfl,hz⟩
 ·cases h
theorem Z7c {r:Option Led} {f:Led→Option Led} {L:Led} (h:Zsr r f=some L):∃L1,r=some L1∧f L1=some L:=by
 cases r with
 | none=>cases h
 | some L1=>exact ⟨L1,rfl,h⟩
theorem Zgz (n:Normal) (hn:NOk n) (ln:List Int):∀m:Nat,
  (∀(s:Step) (L L':Led) (q:Int),s.sz≤m→LOk n.decls L q→0≤q→0≤Z8 n L.vars s→Z7n n ln L s=some L'→LOk n.decls L' (q+4*s.sz)∧L'.vars=Z4w n L.vars s) ∧
  (∀(b:Block) (L O:Led) (q:Int) (k:Nat),b.sz≤m→LOk n.decls L q→0≤q→0≤Zc n L.vars b→k≤L.vars.length→Z2s n ln L k b=some O →
   (O.own.length=k∧O.tok.length=k∧(∀x∈O.own,0≤x∧x≤q+4*b.sz))∧LLen O∧O.vars.length=k):=by
 intro m
 induction m with
 | zero=>exact ⟨fun s _ _ _ h=>by have:=s.sz_pos;omega,fun s _ _ _ _ h=>by have:=s.sz_pos;omega⟩
 | succ m ih=>
  have hs:∀(s:Step) (L L':Led) (q:Int),s.sz≤m+1→LOk n.decls L q→0≤q→0≤Z8 n L.vars s→Z7n n ln L s=some L'→LOk n.decls L' (q+4*s.sz)∧L'.vars=Z4w n L.vars s:=by
   intro s L L' q hsz hk hq hty h
   have hp:=s.sz_pos
   have hf:=Z5d hty
   obtain ⟨f1,f2,f3,f4,f5⟩:=hk.len
   rw [Zfx] at h
   unfold finL at h
   cases hpk:Zaz n ln L s.op s.num s.into s.args (Z5s n ln L s.op s.num s.args s.kids) with
   | none=>rw [hpk] at h;cases h
   | some L1=>
    rw [hpk] at h
    simp only at h
    have key:LOk n.decls L1 (q+4*s.sz)∧L1.vars=L.vars:=by
     rw [Zaz] at hpk
     split at hpk
     ·obtain ⟨d1,d2,d3,d4,d5,d6⟩:=Zgj hpk
      refine ⟨hk.turn d1 d2 d3 d4 (by rw [d5]) (by rw [d6,List.length_set]) ?_ ?_,d1⟩
      ·rw [d6];intro x hx
       rcases Z3a hx with hx|rfl
       ·exact hk.nn x hx
       ·have:=Z00h (v:=gI s.args 0) hk.nn;omega
      ·rw [d6];intro x hx
       rcases Z3a hx with hx|rfl
       ·have:=hk.bd x hx;omega
       ·have:=Z00g (v:=gI s.args 0) hk.bd hq;omega
     split at hpk
     ·exact ⟨(hk.take hpk).le om,(Z37 hpk).2.1⟩
     split at hpk
     ·rename_i hop
      obtain ⟨d1,d2,d3,d4,d5,Lt,ht,d6⟩:=Ze7 hpk
      have hkt:=hk.take ht
      have h3:=Z0u hn.decls (gI L.con (gI s.args 0))
      refine ⟨hk.turn d1 d2 d3 d4 d5 ?_ ?_ ?_,d1⟩
      ·rw [d6,Zjn,(Z37 ht).2.2.2.2.2.2,List.length_set]
      ·rw [d6];exact Zno _ _ _ hkt.nn
      ·rw [d6];intro x hx
       have:=Znn _ _ _ q hq hkt.bd x hx;omega
     split at hpk
     ·rename_i hop
      split at hpk
      ·cases hpk
      ·cases hks:s.kids with
       | nil=>rw [hks,Z5s] at hpk;cases hpk
       | cons b bs=>
        rw [hks,Z5s] at hpk
        unfold Zkg at hpk
        cases hb:Z2s n ln (kidL n.decls L s.op s.num s.args 0) L.vars.length b with
        | none=>rw [hb] at hpk;cases hpk
        | some one=>
         rw [hb] at hpk
         simp only at hpk
         split at hpk
         ·cases hpk
          obtain ⟨q1,q2,q3⟩:=hf.kids hop
          have hks0:s.kids[0]? = some b:=by rw [hks];rfl
          obtain ⟨a0,ha0⟩:=Z9 (xs:=Zq n.decls s.op s.num) (j:=0) om
          obtain ⟨k1,k2⟩:=Zbn hk hq hf hop ha0
          have hbz:=Z9i hks0
          obtain ⟨⟨r1,r2,r3⟩,_⟩:=ih.2 b _ one q L.vars.length om k1 hq (by rw [k2];exact q3 0 b a0 hks0 ha0) (by rw [k2];simp) hb
          refine ⟨hk.turn rfl rfl rfl rfl (by simp only;omega) (by simp only;omega) (fun x hx=>(r3 x hx).1) (fun x hx=>?_),rfl⟩
          have:=(r3 x hx).2;omega
         ·cases hpk
     ·obtain ⟨k1,k2⟩:=Ziu hk hpk
      exact ⟨k1.le om,k2⟩
    split at h
    ·rename_i hd
     cases h
     refine ⟨key.1.grow om ?_,by rw [Z4w,if_pos hd];simp [Led.grow,key.2]⟩
     split<;>omega
    ·rename_i hd
     cases h
     exact ⟨key.1,by rw [Z4w,if_neg hd];exact key.2⟩
  refine ⟨hs,?_⟩
  intro b L O q k hsz hk hq hty hkl h
  have hsteps:∀(l:List Step) (L L':Led) (q:Int) (vs:List Int),ssz l≤m→LOk n.decls L q→0≤q→Z0x n l L.vars=some vs→Z2y n ln L l=some L'→LOk n.decls L' (q+4*ssz l)∧L'.vars=vs:=by
   intro l
   induction l with
   | nil=>intro L L' q vs _ hk _ h1 h2;rw [Z0x] at h1;rw [Z2y] at h2;cases h1;cases h2;exact ⟨by simpa [ssz] using hk,rfl⟩
   | cons s r ihr=>
    intro L L' q vs hz hk hq h1 h2
    rw [ssz] at hz
    rw [Z2y] at h2
    obtain ⟨L1,e1,e2⟩:=Z7c h2
    rw [Z0x] at h1
    split at h1
    ·cases h1
    ·rename_i h0
     obtain ⟨k1,k2⟩:=hs s L L1 q om hk hq om e1
     obtain ⟨k3,k4⟩:=ihr L1 L' (q+4*s.sz) vs om k1 om (by rw [k2];exact h1) e2
     exact ⟨k3.le (by rw [ssz];omega),k4⟩
  have hbz:=b.sz_eq
  rw [Z3s] at h
  obtain ⟨L1,e1,e2⟩:=Z7c h
  rw [Z8u] at hty
  cases hv:Z0x n b.steps L.vars with
  | none=>rw [hv] at hty;simp at hty
  | some vs=>
   obtain ⟨k1,k2⟩:=hsteps b.steps L L1 q vs om hk hq hv e1
   have hlen:=Zf1 hv
   rw [endL] at e2
   obtain ⟨L2,e3,e4⟩:=Z7c e2
   have k3:LOk n.decls L2 (q+4*ssz b.steps)∧L2.vars=L1.vars:=by
    split at e3
    ·exact ⟨k1.take e3,(Z37 e3).2.1⟩
    ·cases e3;exact ⟨k1,rfl⟩
   obtain ⟨rfl,_⟩:=Ztt e4
   obtain ⟨g1,g2,g3,g4,g5⟩:=k3.1.len
   have hl2:L2.vars.length=vs.length:=by rw [k3.2,k2]
   refine ⟨⟨by simp [Led.take];omega,by simp [Led.take];omega,fun x hx=>?_⟩,⟨by simp [Led.take];omega,by simp [Led.take];omega,by simp [Led.take];omega,by simp [Led.take];omega,by simp [Led.take];omega⟩,by simp [Led.take];omega⟩
   have hx':x∈L2.own:=List.mem_of_mem_take hx
   have:=k3.1.nn x hx'
   have:=k3.1.bd x hx'
   omega
theorem Zfy {n:Normal} (hn:NOk n) {ln:List Int} {s:Step} {L L':Led} {q:Int} (hk:LOk n.decls L q) (hq:0≤q) (hty:0≤Z8 n L.vars s) (h:Z7n n ln L s=some L'):LOk n.decls L' (q+4*s.sz)∧L'.vars=Z4w n L.vars s:=
 (Zgz n hn ln s.sz).1 s L L' q (Nat.le_refl _) hk hq hty h
theorem Zlo {n:Normal} (hn:NOk n) {ln:List Int} {b:Block} {L O:Led} {q:Int} {k:Nat} (hk:LOk n.decls L q) (hq:0≤q) (hty:0≤Zc n L.vars b) (hkl:k≤L.vars.length) (h:Z2s n ln L k b=some O) :
  O.own.length=k∧O.tok.length=k∧(∀x∈O.own,0≤x∧x≤q+4*b.sz):=
 ((Zgz n hn ln b.sz).2 b L O q k (Nat.le_refl _) hk hq hty hkl h).1
theorem Z7y {n:Normal} (hn:NOk n) {ln:List Int} {s:Step} {L L1:Led} {q:Int} (hk:LOk n.decls L q) (hq:0≤q) (hf:SFacts n L.vars s)
  (hpk:Zaz n ln L s.op s.num s.into s.args (Z5s n ln L s.op s.num s.args s.kids)=some L1):LOk n.decls L1 (q+4*s.sz)∧L1.vars=L.vars:=by
 have hp:=s.sz_pos
 obtain ⟨f1,f2,f3,f4,f5⟩:=hk.len
 rw [Zaz] at hpk
 split at hpk
 ·obtain ⟨d1,d2,d3,d4,d5,d6⟩:=Zgj hpk
  refine ⟨hk.turn d1 d2 d3 d4 (by rw [d5]) (by rw [d6,List.length_set]) ?_ ?_,d1⟩
  ·rw [d6];intro x hx
   rcases Z3a hx with hx|rfl
   ·exact hk.nn x hx
   ·have:=Z00h (v:=gI s.args 0) hk.nn;omega
  ·rw [d6];intro x hx
   rcases Z3a hx with hx|rfl
   ·have:=hk.bd x hx;omega
   ·have:=Z00g (v:=gI s.args 0) hk.bd hq;omega
 split at hpk
 ·exact ⟨(hk.take hpk).le om,(Z37 hpk).2.1⟩
 split at hpk
 ·rename_i hop
  obtain ⟨d1,d2,d3,d4,d5,Lt,ht,d6⟩:=Ze7 hpk
  have hkt:=hk.take ht
  have h3:=Z0u hn.decls (gI L.con (gI s.args 0))
  refine ⟨hk.turn d1 d2 d3 d4 d5 ?_ ?_ ?_,d1⟩
  ·rw [d6,Zjn,(Z37 ht).2.2.2.2.2.2,List.length_set]
  ·rw [d6];exact Zno _ _ _ hkt.nn
  ·rw [d6];intro x hx
   have:=Znn _ _ _ q hq hkt.bd x hx;omega
 split at hpk
 ·rename_i hop
  split at hpk
  ·cases hpk
  ·cases hks:s.kids with
   | nil=>rw [hks,Z5s] at hpk;cases hpk
   | cons b bs=>
    rw [hks,Z5s] at hpk
    unfold Zkg at hpk
    cases hb:Z2s n ln (kidL n.decls L s.op s.num s.args 0) L.vars.length b with
    | none=>rw [hb] at hpk;cases hpk
    | some one=>
     rw [hb] at hpk
     simp only at hpk
     split at hpk
     ·cases hpk
      obtain ⟨q1,q2,q3⟩:=hf.kids hop
      have hks0:s.kids[0]? = some b:=by rw [hks];rfl
      obtain ⟨a0,ha0⟩:=Z9 (xs:=Zq n.decls s.op s.num) (j:=0) om
      obtain ⟨k1,k2⟩:=Zbn hk hq hf hop ha0
      have hbz:=Z9i hks0
      obtain ⟨r1,r2,r3⟩:=Zlo hn k1 hq (by rw [k2];exact q3 0 b a0 hks0 ha0) (by rw [k2];simp) hb
      refine ⟨hk.turn rfl rfl rfl rfl (by simp only;omega) (by simp only;omega) (fun x hx=>(r3 x hx).1) (fun x hx=>?_),rfl⟩
      have:=(r3 x hx).2;omega
     ·cases hpk
 ·obtain ⟨k1,k2⟩:=Ziu hk hpk
  exact ⟨k1.le om,k2⟩
end Go.Abs
end
section
namespace Go.Abs
theorem Zzu {ds:List Decl} {op num:Int} {i:Nat} {m:List Int} (h8:op=8) (h:(Zq ds op num)[i]? = some m):∃c,(Zb ds num)[i]? = some c∧m=Z1 ds c:=by
 rw [Zq,if_neg om,List.getElem?_map] at h
 cases hc:(Zb ds num)[i]? with
 | none=>rw [hc] at h;cases h
 | some c=>rw [hc] at h;cases h;exact ⟨c,rfl,rfl⟩
theorem Zy6 {ds:List Decl} {L:Led} {op num x c:Int} {args:List Int} {i:Nat} (h8:op=8) (hx:args[0]? = some x) (hc:(Zb ds num)[i]? = some c):kidL ds L op num args i=armL ds L x c:=by
 have h1:gI args 0=x:=by rw [gI];simp [hx]
 have h2:gI (Zb ds num) (i:Int)=c:=by rw [gI];simp [hc]
 rw [kidL,if_pos h8,h1,h2]
theorem Z00s {ds:List Decl} {L:Led} {op num:Int} {args:List Int} {i:Nat} (h8:¬op=8):kidL ds L op num args i=L:=by rw [kidL,if_neg h8]
theorem Zy7 {n:Normal} {ln:List Int} {L:Led} {op num:Int} {args:List Int} {kids:List Block} {kb:Block} (h:kids[0]? = some kb) :
  Z5s n ln L op num args kids=Zkg L (Z2s n ln (kidL n.decls L op num args 0) L.vars.length kb) fun one=>Zax n ln L op num args one (kids.drop 1) 1:=by
 cases kids with
 | nil=>simp at h
 | cons b bs=>simp at h;subst h;rw [Z5s];rfl
theorem Z8j {n:Normal} {ln:List Int} {L one:Led} {op num:Int} {args:List Int} {kids:List Block} {kb:Block} {k:Nat} (h:kids[k]? = some kb) :
  Zax n ln L op num args one (kids.drop k) k=Zsj one (Z2s n ln (kidL n.decls L op num args k) L.vars.length kb) (Zax n ln L op num args one (kids.drop (k+1)) (k+1)):=by
 rw [Z7 h,Zax]
def Z5z (n:Normal) (ln:List Int) (L:Led) (s:Step):Option Led:=
 if s.op=8∧¬Z1i L ln (gI s.args 0)=true then none else Z5s n ln L s.op s.num s.args s.kids
theorem Zny {n:Normal} {ln:List Int} {L:Led} {s:Step} (h8:s.op=8) (ha:¬Z1i L ln (gI s.args 0)=true):Z5z n ln L s=none:=by rw [Z5z,if_pos ⟨h8,ha⟩]
theorem Zlp {n:Normal} {ln:List Int} {L:Led} {s:Step} {kb:Block} (h:¬(s.op=8∧¬Z1i L ln (gI s.args 0)=true)) (hk:s.kids[0]? = some kb) :
  Z5z n ln L s=Zkg L (Z2s n ln (kidL n.decls L s.op s.num s.args 0) L.vars.length kb) fun one=>Zax n ln L s.op s.num s.args one (s.kids.drop 1) 1:=by
 rw [Z5z,if_neg h,Zy7 hk]
theorem gI0 {xs:List Int} {x:Int} (h:xs[0]? = some x):gI xs 0=x:=by rw [gI];simp [h]
end Go.Abs
namespace Go.Abs
theorem LLen.grow {L:Led} {t o p:Int} (h:LLen L):LLen (L.grow t o p):=by
 obtain ⟨f1,f2,f3,f4,f5⟩:=h
 exact ⟨by simp [Led.grow,f1],by simp [Led.grow,f2],by simp [Led.grow,f3],by simp [Led.grow,f4],by simp [Led.grow,f5]⟩
theorem LLen.arm {L:Led} {i j:Nat} {c d:Int} (h:LLen L):LLen ⟨L.vars,L.own,L.par,L.con.set i c,L.fst.set j d,L.tok⟩:=by
 obtain ⟨f1,f2,f3,f4,f5⟩:=h
 exact ⟨f1,f2,by simp [f3],by simp [f4],f5⟩
end Go.Abs
namespace Go.Abs
theorem Zv0 {n:Normal} (hn:NOk n) {ln:List Int} {L O:Led} {q:Int} {s:Step} {i:Nat} {kb:Block} {m:List Int} (hk:LOk n.decls L q) (hq:0≤q) (hf:SFacts n L.vars s) (hop:s.op=7∨s.op=8)
  (_:s.kids[i]? = some kb) (harm:(Zq n.decls s.op s.num)[i]? = some m) (hbt:0≤Zc n (L.vars++m) kb) (h:Z2s n ln (kidL n.decls L s.op s.num s.args i) L.vars.length kb=some O) :
  O.own.length=L.vars.length∧O.tok.length=L.vars.length:=by
 obtain ⟨k1,k2⟩:=Zbn hk hq hf hop harm
 obtain ⟨r1,r2,_⟩:=Zlo hn k1 hq (by rw [k2];exact hbt) (by rw [k2];simp) h
 exact ⟨r1,r2⟩
theorem Zmy {one two:Led} {r:Bool} (h:¬(¬one.own=two.own∨¬one.tok=two.tok)):Zsj one (some two) r=r:=if_pos ⟨Classical.not_not.1 fun q=>h (.inl q),Classical.not_not.1 fun q=>h (.inr q)⟩
theorem Zqk {one two:Led} {r:Bool} (h:¬one.own=two.own∨¬one.tok=two.tok):Zsj one (some two) r=false:=if_neg fun q=>h.elim (fun z=>z q.1) fun z=>z q.2
theorem Zml {L one:Led} {f:Led→Bool} (h:f one=true):Zkg L (some one) f=some ⟨L.vars,one.own,L.par,L.con,L.fst,one.tok⟩:=if_pos h
theorem Zcy {L one:Led} {f:Led→Bool} (h:f one=false):Zkg L (some one) f=none:=if_neg (by rw [h];simp)
end Go.Abs
namespace Go.Abs
section
variable {n:Normal} {ln:List Int} {L:Led} {s:Step}
abbrev Zbp (n:Normal) (ln:List Int) (L:Led) (s:Step):Option Led:=Zaz n ln L s.op s.num s.into s.args (Z5s n ln L s.op s.num s.args s.kids)
theorem Zvp {x:Int} (h:s.op=14) (hx:gI s.args 0=x):Zbp n ln L s=dupL L ln x:=hx▸if_pos h
theorem Zvq {x:Int} (h:s.op=15) (hx:gI s.args 0=x):Zbp n ln L s=Z7o L x:=by rw [←hx,Zbp,Zaz,if_neg om,if_pos h]
theorem Zqa {x:Int} (h:s.op=16∨s.op=17) (hx:gI s.args 0=x):Zbp n ln L s=Zay n.decls L s.op x:=by rw [←hx,Zbp,Zaz,if_neg om,if_neg om,if_pos h]
theorem Zvr (h:s.op=7∨s.op=8):Zbp n ln L s=Z5z n ln L s:=by rw [Zbp,Zaz,if_neg om,if_neg om,if_neg om,if_pos h,Z5z]
theorem Z030 (h1:¬s.op=14) (h2:¬s.op=15) (h3:¬(s.op=16∨s.op=17)) (h4:¬(s.op=7∨s.op=8)):Zbp n ln L s=Z7p n ln L s.op s.num s.into s.args:=by
 rw [Zbp,Zaz,if_neg h1,if_neg h2,if_neg h3,if_neg h4]
theorem Z02l {v:Int} (h:¬Z1i L ln v=true):dupL L ln v=none:=if_neg h
theorem Z007 {v x:Int} (h:¬¬Z1i L ln v=true) (hx:gI L.own v=x):dupL L ln v=some ⟨L.vars,L.own.set v.toNat (x+1),L.par,L.con,L.fst,L.tok⟩:=by rw [dupL,if_pos (Classical.not_not.1 h),hx]
theorem Z1l (n:Normal) (ln:List Int) (L:Led) (s:Step):Z7n n ln L s=finL L s.op (Z8 n L.vars s) (Zbp n ln L s):=Zfx n ln L s
theorem fin1 {X:Led} {op t:Int} (h:Z01 op=true∧t≠0):finL L op t (some X)=some (X.grow t 1 (-1)):=by
 unfold finL;simp only [h.1,↓reduceIte];rw [if_pos h.2]
theorem fin2 {X:Led} {op t:Int} (h:¬(Z01 op=true∧t≠0)) (h2:Z01 op=true):finL L op t (some X)=some (X.grow 0 0 (-1)):=by
 have ht:t=0:=Classical.not_not.1 fun q=>h ⟨h2,q⟩
 subst ht
 unfold finL;simp only [h2,↓reduceIte];rfl
theorem fin3 {X:Led} {op t:Int} (h:¬Z01 op=true):finL L op t (some X)=some X:=by
 unfold finL;simp only [if_neg h]
end
end Go.Abs
namespace Go.Abs
theorem Z4i {n:Normal} {us:List Int} {b:Block} (h:0≤Zc n us b):∃vs t,Z0x n b.steps us=some vs∧atI vs b.result=some t∧0≤t:=by
 rw [Z8u] at h
 cases hv:Z0x n b.steps us with
 | none=>rw [hv] at h;simp at h
 | some vs=>
  rw [hv] at h
  simp only at h
  cases ha:atI vs b.result with
  | none=>rw [ha] at h;simp at h
  | some t=>rw [ha] at h;exact ⟨vs,t,rfl,ha,h⟩
theorem Z67 {n:Normal} {us vs:List Int} {s:Step} {r:List Step} (h:Z0x n (s::r) us=some vs):0≤Z8 n us s∧Z0x n r (Z4w n us s)=some vs:=by
 rw [Z0x] at h
 split at h
 ·cases h
 ·exact ⟨by omega,h⟩
theorem Z8m (n:Normal) (us:List Int) (s:Step):us.length≤(Z4w n us s).length∧(Z4w n us s).length≤us.length+s.sz:=by
 have:=s.sz_pos
 rw [Z4w];split
 ·simp only [List.length_append,List.length_singleton];omega
 ·omega
end Go.Abs
namespace Go.Abs
theorem Z009 {X L:Led} {m:Nat} {r x:Int} (hg:gI L.vars r=x) (h:x≠0) (ht:Z7o L r=some X):endL m r L=cutL X m:=by rw [endL,hg,if_pos h,ht];rfl
theorem Zxr {L:Led} {m:Nat} {r x:Int} (hg:gI L.vars r=x) (h:x≠0) (ht:Z7o L r=none):endL m r L=none:=by rw [endL,hg,if_pos h,ht];rfl
theorem Zlw {L:Led} {m:Nat} {r x:Int} (hg:gI L.vars r=x) (h:¬x≠0):endL m r L=cutL L m:=by rw [endL,hg,if_neg h];rfl
end Go.Abs
namespace Go.Abs
theorem Zj8 {ds:List Decl} {lent:List Int}:∀{ps:List Int} {i:Nat} {L:Led},LOk ds L 1→LOk ds (Z45 lent ps i L) 1∧(Z45 lent ps i L).vars=L.vars++ps
 | [],i,L,hk=>⟨hk,by simp [Z45]⟩
 | t::r,i,L,hk=>by
  rw [Z45]
  obtain ⟨k1,k2⟩:=Zj8 (lent:=lent) (ps:=r) (i:=i+1) (hk.grow (t:=t) (o:=if t≠0∧¬(i:Int)∈lent then 1 else 0) (p:=-1) om (by split<;>omega))
  exact ⟨k1,by rw [k2];simp [Led.grow]⟩
theorem Zos (ds:List Decl) (r:Routine):LOk ds (newL r) 1∧(newL r).vars=r.params:=by
 have h:LOk ds (⟨[],[],[],[],[],[]⟩:Led) 1:=⟨⟨rfl,rfl,rfl,rfl,rfl⟩,fun j h1 h2=>by simp at h2;omega,fun j h1 h2=>by simp at h2;omega,by simp,by simp⟩
 obtain ⟨k1,k2⟩:=Zj8 (lent:=r.lent) (ps:=r.params) (i:=0) h
 exact ⟨k1,by rw [newL,k2];rfl⟩
theorem cut0 {L:Led} (h:cutL L 0=none):(cutL L 0).isSome=false:=by rw [h];rfl
theorem cut1 {L L':Led} (h:cutL L 0=some L'):(cutL L 0).isSome=true:=by rw [h];rfl
theorem Zr7 {n:Normal} (hn:NOk n) {ln:List Int} {b:Block} {L O:Led} {q:Int} {k:Nat} (hk:LOk n.decls L q) (hq:0≤q) (hty:0≤Zc n L.vars b) (hkl:k≤L.vars.length) (h:Z2s n ln L k b=some O) :
  LLen O∧O.vars.length=k:=
 ((Zgz n hn ln b.sz).2 b L O q k (Nat.le_refl _) hk hq hty hkl h).2
end Go.Abs
namespace Go.Abs
theorem Zb9 {n:Normal}:∀{l:List Routine},Z36 n l=true→∀r∈l,¬Z1y r.body<0∧Zc n r.params r.body=r.result
 | [],_,r,h=>by simp at h
 | a::l,h,r,hr=>by
  rw [Z36] at h
  split at h
  ·rename_i h1
   rcases List.mem_cons.1 hr with rfl|hr
   ·exact h1
   ·exact Zb9 h r hr
  ·cases h
theorem Z68 {n:Normal} (hz:NSz n) (h:Z0z n=true):NOk n∧∀r∈n.routines,0≤Zc n r.params r.body:=by
 simp only [Z0z,Bool.and_eq_true] at h
 refine ⟨Z97 hz h.1,fun r hr=>?_⟩
 rw [(Zb9 h.2 r hr).2]
 have h1:=h.1
 simp only [Z0g,Z2x,Bool.and_eq_true] at h1
 have:=Zbr h1.2.1.2.2.1 (Z5n r) (List.mem_map.2 ⟨r,hr,rfl⟩)
 simp only [Z9l,Bool.and_eq_true,decide_eq_true_eq,Z5n] at this
 exact (of_decide_eq_true this.2.2).1
end Go.Abs
end
section
namespace Go.Abs
theorem Zgm {xs:List Int} (h:Z6 xs=[]):xs=[]:=by cases xs with|nil=>rfl|cons x r=>cases h
theorem Zu0 {xs:List Con} (h:Z1f xs=[]):xs=[]:=by cases xs with|nil=>rfl|cons x r=>cases h
theorem Zrf {xs:List Decl} (h:Zt xs=[]):xs=[]:=by cases xs with|nil=>rfl|cons x r=>cases h
def Zb6 (i:Int):List Int→Nat→Int
 | [],_=>-1
 | x::r,k=>if i=x then (k:Int) else Zb6 i r (k+1)
def Zm9 (xs:List Int) (i:Int):Int:=Zb6 i xs 0
theorem Ziy (i:Int):∀(xs:List Int) (k:Nat),(0≤Zb6 i xs k↔i∈xs)∧-1≤Zb6 i xs k
 | [],k=>by simp [Zb6]
 | x::r,k=>by
  rw [Zb6]
  obtain ⟨h1,h2⟩:=Ziy i r (k+1)
  split
  ·rename_i h;subst h;simp<;>omega
  ·rename_i h;simp [h1,h,h2]
theorem Zrt (xs:List Int) (i:Int):decide (Zm9 xs i≥0)=decide (i∈xs):=by
 rw [decide_eq_decide];exact (Ziy i xs 0).1
end Go.Abs
namespace Go.Abs
theorem Zm0 (xss:List (List Int)) (k:Nat):(xss.take k).flatten.length≤xss.flatten.length:=by
 conv=>rhs;rw [←List.take_append_drop k xss,List.flatten_append,List.length_append]
 omega
end Go.Abs
namespace Go.Abs
theorem Zgr {xss:List (List Int)} {k:Nat} {x:List Int} (h:xss[k]? = some x):(xss.take (k+1)).flatten=(xss.take k).flatten++x:=by rw [Z1z h,List.flatten_append];simp
theorem Zis {xss:List (List Int)} {k:Nat} {x:List Int} (h:xss[k]? = some x):(xss.take k).flatten.length+x.length≤xss.flatten.length:=by
 have:=Zm0 xss (k+1)
 rw [Zgr h,List.length_append] at this
 exact this
end Go.Abs
end
section
namespace Go.Abs
theorem Zrc {c:Int} {ds:List Decl} {k:Nat} {d:Decl} {r:Int × List Int} (h:ds[k]? = some d) (hn:¬(c-Zu (ds.take k)≥0∧c-Zu (ds.take k)<d.cons.length))
  (hr:Z3t c (ds.drop k) k (Zu (ds.take k))=r):Z3t c (ds.drop (k+1)) (k+1) (Zu (ds.take (k+1)))=r:=by
 rw [Z7 h,Z3t,if_neg om] at hr
 rw [Z1z h,Z5h,←hr];rfl
end Go.Abs
namespace Go.Abs
theorem Zo2 {c:Int} {ds:List Decl} {k:Nat} {d:Decl} {x:Con} (h:ds[k]? = some d) (hn:c-Zu (ds.take k)≥0∧c-Zu (ds.take k)<d.cons.length)
  (hx:d.cons[(c-Zu (ds.take k)).toNat]? = some x):Z3t c (ds.drop k) k (Zu (ds.take k))=((k:Int)+1,x.fields):=by
 rw [Z7 h,Z3t,if_pos om,hx];rfl
def AtC (c:Int) (z:Nat) (v:Int):Prop:=v=c-z∨(c<0∧c-z < -9223372036854775808∧v=c-z+18446744073709551616)
theorem Z026 {c:Int} {z l:Nat} {v:Int} (h:AtC c z v) (hz:z≤100) (hl:l≤3) (hc:-9223372036854775808≤c∧c≤9223372036854775807):AtC c (z+l) (wrp (v-l)):=by
 unfold AtC at *;rw [wrp,IntKind.wrap_i64];omega
theorem Zo1 {c v:Int} {ds:List Decl} {k:Nat} {d:Decl} {r:Int × List Int} (h:ds[k]? = some d) (ha:AtC c (Zu (ds.take k)) v) (hn:¬(v≥0∧v<d.cons.length))
  (hr:Z3t c (ds.drop k) k (Zu (ds.take k))=r):Z3t c (ds.drop (k+1)) (k+1) (Zu (ds.take (k+1)))=r:=Zrc h (by unfold AtC at ha;omega) hr
theorem Zlr {c v:Int} {ds:List Decl} {k:Nat} {d:Decl} {x:Con} (h:ds[k]? = some d) (ha:AtC c (Zu (ds.take k)) v) (hz:Zu (ds.take k)≤100) (hl:d.cons.length≤3) (hc:-9223372036854775808≤c)
  (hn:v≥0∧v<d.cons.length) (hx:d.cons[v.toNat]? = some x):Z3t c (ds.drop k) k (Zu (ds.take k))=((k:Int)+1,x.fields):=by
 have:v=c-(Zu (ds.take k):Int):=by unfold AtC at ha;omega
 subst this
 exact Zo2 h hn hx
def Z2b (ds:List Decl) (t:Int):Decl:=if Z02 ds t=true then (ds[(t-1).toNat]?).getD ⟨0,0,[]⟩ else ⟨0,0,[]⟩
end Go.Abs
namespace Go.Abs
abbrev Ztv (ds:List Decl) (d:Decl):Prop:=
 (((¬(0≤d.frm∧d.frm≤ds.length))∨(¬(0≤d.to_∧d.to_≤ds.length)))∨((d.cons.length:Int)>3))∨(((d.cons.length:Int)>0)∧((d.frm≠0)∨(d.to_≠0)))
theorem Zo4 {ds:List Decl} {d:Decl} {i:Nat} (h:Ztv ds d):Z3h ds d i=false:=by
 rw [Z3h]
 split
 ·rw [if_neg];rintro ⟨h1,h2,h3⟩
  rcases h with ((h|h)|h)|h<;>omega
 ·split
  ·rfl
  ·rcases h with ((h|h)|h)|h
   ·rw [decide_eq_false h];rfl
   ·rw [decide_eq_false h,Bool.and_false]
   ·omega
   ·omega
theorem Zo5 {ds:List Decl} {d:Decl} {i:Nat} (hl:0<d.cons.length) (h:Z4d ds.length d.cons=false):Z3h ds d i=false:=by
 rw [Z3h,if_pos hl];split
 ·exact h
 ·rfl
theorem Zo6 {ds:List Decl} {d:Decl} {i:Nat} (hl:d.cons.length=0) (h:Zca d (ds.take i)=true):Z3h ds d i=false:=by
 rw [Z3h,if_neg om,if_pos h]
theorem Zo7 {ds:List Decl} {d:Decl} {i:Nat} (h1:¬Ztv ds d) (h2:Z4d ds.length d.cons=true) (h3:d.cons.length=0→Zca d (ds.take i)=false):Z3h ds d i=true:=by
 rw [Z3h]
 have ha:0≤d.frm∧d.frm≤ds.length:=Classical.not_not.1 fun q=>h1 (.inl (.inl (.inl q)))
 have hb:0≤d.to_∧d.to_≤ds.length:=Classical.not_not.1 fun q=>h1 (.inl (.inl (.inr q)))
 have hc:¬(d.cons.length:Int)>3:=fun q=>h1 (.inl (.inr q))
 split
 ·rename_i hl
  have hd:¬(d.frm≠0∨d.to_≠0):=fun q=>h1 (.inr ⟨by omega,q⟩)
  rw [if_pos ⟨by omega,by omega,by omega⟩];exact h2
 ·rw [if_neg (by rw [h3 om];simp),decide_eq_true ha,decide_eq_true hb];rfl
theorem Zhq {ds:List Decl} {k:Nat} {d:Decl} (h:ds[k]? = some d) (hA:Z3h ds d k=false) (c:Z3u ds (ds.drop k) k=Z3u ds ds 0):false=Z00 ds:=by
 rw [Z00,←c,Z7 h,Z3u,Z7e h,hA,if_neg (by simp),Bool.and_false]
theorem Zz5 {ds:List Decl} {k:Nat} {d:Decl} {r:Bool} (h:ds[k]? = some d) (hA:Z3h ds d k=true) (c:Z3u ds (ds.drop k) k=r):Z3u ds (ds.drop (k+1)) (k+1)=r:=by
 rw [Z7 h,Z3u,Z7e h,hA,if_pos rfl] at c;exact c
theorem Zx2 {ds:List Decl} {k:Nat} (hl:ds.length≤4) (hk:ds.length≤k) (c:Z3u ds (ds.drop k) k=Z3u ds ds 0):true=Z00 ds:=by
 rw [Z00,←c,Zv hk,decide_eq_true hl];rfl
theorem Ztp {m:Nat} {c:Con} (h:((c.fields.length:Int)>3)∨(¬(Z1o m c.fields=true))):Za2 m c=false:=by
 rw [Za2]
 rcases h with h|h
 ·rw [decide_eq_false om];rfl
 ·rw [Bool.eq_false_iff.2 h,Bool.and_false]
theorem Zrd {m:Nat} {c:Con} (h:¬(((c.fields.length:Int)>3)∨(¬(Z1o m c.fields=true)))):Za2 m c=true:=by
 rw [Za2,Classical.not_not.1 fun q=>h (.inr q),decide_eq_true (by have:¬(c.fields.length:Int)>3:=fun q=>h (.inl q);omega)];rfl
end Go.Abs
end
section
namespace Go.Abs
structure Sg3 where
 pms:List Int
 lnt:List Int
 res:Int
abbrev lSg3 (f:Sg3):List AV:=[nInt f.pms,nInt f.lnt,.i f.res]
abbrev aSg3 (f:Sg3):AV:=.agg (lSg3 f)
def Z5q (fs:List Sg3):List AV:=fs.map aSg3
abbrev nSg3 (xs:List Sg3):AV:=.sl (Z5q xs) none
abbrev oSg3 (xs:List Sg3) (v:Value):AV:=.sl (Z5q xs) (some v)
theorem Z7g {xs:List Sg3} {j:Nat} {x:Sg3} (h:xs[j]? = some x):(Z5q xs)[j]? = some (aSg3 x):=by simp [Z5q,h]
@[simp] theorem Z6k (xs:List Sg3):(Z5q xs).length=xs.length:=by simp [Z5q]
theorem Zlv (xs:List Sg3):∀y∈Z5q xs,y.leaves.length=3:=by intro y hy;simp only [Z5q,List.mem_map] at hy;obtain ⟨x,_,rfl⟩:=hy;rfl
theorem Zu4 (xs:List Sg3):(flat (Z5q xs)).all AV.one=true:=Z6b fun y hy=>by simp only [Z5q,List.mem_map] at hy;obtain ⟨x,_,rfl⟩:=hy;rfl
def Z4 (r:Routine):Sg3:=⟨r.params,r.lent,r.result⟩
def Z87 (m:Nat) (f:Sg3):Bool:=Z9l m ⟨f.pms,f.res⟩&&Z3d f.pms f.lnt
def Z65 (m:Nat):List Sg3→Bool
 | []=>true
 | f::r=>if Z87 m f=true then Z65 m r else false
def Zk1:List Sg3→Bool
 | []=>false
 | f::_=>decide (f.pms.length=0)&&decide (f.res=0)
def Z2w (ds:List Decl) (fs:List Sg3):Bool:=Z00 ds&&(decide (1≤fs.length∧fs.length≤4)&&(Zk1 fs&&Z65 ds.length fs))
theorem Zio {fs:List Sg3} {x:Sg3} (h:fs[0]? = some x):Zk1 fs=(decide (x.pms.length=0)&&decide (x.res=0)):=by
 cases fs with
 | nil=>simp at h
 | cons f r=>simp at h;subst h;rfl
theorem Zn0 (m:Nat):∀rs:List Routine,Z65 m (rs.map Z4)=(Z6v m (rs.map Z5n)&&Z54 rs)
 | []=>rfl
 | r::rs=>by
  simp only [List.map_cons,Z65,Z6v,Z54,Z87,Zn0 m rs]
  simp only [Z4,Z5n]
  by_cases h1:Z9l m { params:=r.params,result:=r.result }=true<;>by_cases h2:Z3d r.params r.lent=true<;>simp [h1,h2]
theorem Zh3 (n:Normal):Z0g n=(decide (n.routines.length≤4)&&Z2w n.decls (n.routines.map Z4)):=by
 have hf:Zk1 (n.routines.map Z4)=Zfo (n.routines.map Z5n):=by
  cases n.routines with
  | nil=>rfl
  | cons r rs=>rfl
 rw [Z0g,Z2w,Z2x,Zn0,hf]
 simp only [List.length_map]
 cases decide (n.routines.length≤4)<;>cases Z00 n.decls<;>cases decide (1≤n.routines.length∧n.routines.length≤4)<;>cases Z6v n.decls.length (n.routines.map Z5n) <;>
  cases Zfo (n.routines.map Z5n)<;>cases Z54 n.routines<;>rfl
theorem Zfw {rs:List Routine} {j:Nat} {x:Sg3} (h:(rs.map Z4)[j]? = some x):∃r,rs[j]? = some r∧x=Z4 r:=by
 rw [List.getElem?_map] at h
 cases hr:rs[j]? with
 | none=>rw [hr] at h;cases h
 | some r=>rw [hr] at h;cases h;exact ⟨r,rfl,rfl⟩
theorem Zv9 {ps ls:List Int} {j:Nat} {v:Int} {r:Bool} (h:ls[j]? = some v) (hg:(0≤v∧v≤(ps.length:Int)-1)∧ps[v.toNat]?≠some 0∧(∀p,(if j=0 then none else ls[j-1]?)=some p→p<v))
  (hr:Z43 ps (ls.drop j) (if j=0 then none else ls[j-1]?)=r):Z43 ps (ls.drop (j+1)) (if j+1=0 then none else ls[j+1-1]?)=r:=by
 rw [Z7 h,Z96 hg] at hr
 rw [if_neg om,show j+1-1=j from rfl,h];exact hr
theorem Zkd {ps ls:List Int} {j:Nat} {v:Int} {r:Bool} (h:ls[j]? = some v) (hg:¬((0≤v∧v≤(ps.length:Int)-1)∧ps[v.toNat]?≠some 0∧(∀p,(if j=0 then none else ls[j-1]?)=some p→p<v)))
  (hr:Z43 ps (ls.drop j) (if j=0 then none else ls[j-1]?)=r):r=false:=by
 rw [Z7 h,Z7x hg] at hr;exact hr.symm
theorem Zd4 {m:Nat} {fs:List Sg3} {k:Nat} {f:Sg3} {r:Bool} (h:fs[k]? = some f) (hb:Z87 m f=false) (hr:Z65 m (fs.drop k)=r):r=false:=by
 rw [Z7 h,Z65,hb,if_neg (by simp)] at hr;exact hr.symm
theorem Zyq {m:Nat} {fs:List Sg3} {k:Nat} {f:Sg3} {r:Bool} (h:fs[k]? = some f) (hb:Z87 m f=true) (hr:Z65 m (fs.drop k)=r):Z65 m (fs.drop (k+1))=r:=by
 rw [Z7 h,Z65,if_pos hb] at hr;exact hr
end Go.Abs
namespace Go.Abs
section
variable {ds:List Decl} {fs:List Sg3} {x:Sg3}
theorem Z01w (h:((¬(Z00 ds=true))∨((fs.length:Int)<1))∨((fs.length:Int)>4)):false=Z2w ds fs:=by
 rw [Z2w]
 rcases h with (h|h)|h
 ·rw [Bool.eq_false_iff.2 h];rfl
 ·rw [decide_eq_false (p:=1≤fs.length∧fs.length≤4) om];simp
 ·rw [decide_eq_false (p:=1≤fs.length∧fs.length≤4) om];simp
theorem Zx3 (hx:fs[0]? = some x) (h:((x.pms.length:Int)>0)∨x.res≠0):false=Z2w ds fs:=by
 rw [Z2w,Zio hx]
 rcases h with h|h
 ·rw [decide_eq_false (p:=x.pms.length=0) om];simp
 ·rw [decide_eq_false (p:=x.res=0) h];simp
theorem Zla (h:Z65 ds.length fs=false):false=Z2w ds fs:=by rw [Z2w,h];simp
theorem Z01x (h:¬(((¬(Z00 ds=true))∨((fs.length:Int)<1))∨((fs.length:Int)>4))) (hx:fs[0]? = some x) (h1:¬((x.pms.length:Int)>0)) (h2:¬x.res≠0) (h3:Z65 ds.length fs=true) :
  true=Z2w ds fs:=by
 have hv:Z00 ds=true:=Classical.not_not.1 fun q=>h (.inl (.inl q))
 have ha:¬(fs.length:Int)<1:=fun q=>h (.inl (.inr q))
 have hb:¬(fs.length:Int)>4:=fun q=>h (.inr q)
 rw [Z2w,Zio hx,hv,h3,decide_eq_true (p:=1≤fs.length∧fs.length≤4) om,decide_eq_true (p:=x.pms.length=0) om,decide_eq_true (p:=x.res=0) (Classical.not_not.1 h2)];rfl
abbrev Zzk (m:Nat) (x:Sg3):Prop:=(((x.pms.length:Int)>3)∨(¬(Z1o m x.pms=true)))∨(¬(0≤x.res∧x.res≤m))
theorem Z016 {m:Nat} (h:Zzk m x):Z87 m x=false:=by
 rw [Z87,Z9l]
 rcases h with (h|h)|h
 ·rw [decide_eq_false (p:=x.pms.length≤3) om];simp
 ·rw [Bool.eq_false_iff.2 h];simp
 ·rw [decide_eq_false h];simp
theorem Zox {m:Nat} (h:Z3d x.pms x.lnt=false):Z87 m x=false:=by rw [Z87,h,Bool.and_false]
theorem Z017 {m:Nat} (h:¬Zzk m x) (hl:Z3d x.pms x.lnt=true):Z87 m x=true:=by
 have h1:¬(x.pms.length:Int)>3:=fun q=>h (.inl (.inl q))
 rw [Z87,Z9l,hl,decide_eq_true (p:=x.pms.length≤3) om,Classical.not_not.1 fun q=>h (.inl (.inr q)),decide_eq_true (Classical.not_not.1 fun q=>h (.inr q))];rfl
end
end Go.Abs
end
section
namespace Go.Abs
def Z24 (us:List Int):List Int→Option (List Int)
 | []=>some []
 | a::r=>match atI us a with
  | none=>none
  | some t=>match Z24 us r with
   | none=>none
   | some ts=>some (t::ts)
theorem Zhp {us:List Int}:∀{args ts:List Int},Z24 us args=some ts→∀tys,Z1r us args tys=true↔ts=tys
 | [],ts,h,tys=>by
  rw [Z24] at h;cases h
  cases tys with
  | nil=>simp [Z1r,Z29]
  | cons t r=>simp [Z1r,Z29]
 | a::r,ts,h,tys=>by
  rw [Z24] at h
  cases ha:atI us a with
  | none=>rw [ha] at h;cases h
  | some t=>
   rw [ha] at h
   cases hr:Z24 us r with
   | none=>rw [hr] at h;cases h
   | some tr=>
    rw [hr] at h;cases h
    cases tys with
    | nil=>simp [Z1r,Z29]
    | cons t2 r2=>
     rw [Z1r,Z29,ha]
     have:=Zhp hr r2
     rw [Z1r] at this
     by_cases he:t=t2
     ·subst he;simp [this]
     ·rw [if_neg (fun q=>he (Option.some.inj q))];simp [he]
theorem Zig {us:List Int}:∀{args ts:List Int},Z24 us args=some ts→ts.length=args.length
 | [],ts,h=>by rw [Z24] at h;cases h;rfl
 | a::r,ts,h=>by
  rw [Z24] at h
  cases ha:atI us a with
  | none=>rw [ha] at h;cases h
  | some t=>
   rw [ha] at h
   cases hr:Z24 us r with
   | none=>rw [hr] at h;cases h
   | some tr=>rw [hr] at h;cases h;simp [Zig hr]
theorem Zgf {us:List Int} {b t:Int}:∀{xs ts:List Int},Z24 us xs=some ts→atI us b=some t→Z24 us (xs++[b])=some (ts++[t])
 | [],ts,h,hb=>by rw [Z24] at h;cases h;simp [Z24,hb]
 | a::r,ts,h,hb=>by
  rw [Z24] at h
  cases ha:atI us a with
  | none=>rw [ha] at h;cases h
  | some u=>
   rw [ha] at h
   cases hr:Z24 us r with
   | none=>rw [hr] at h;cases h
   | some tr=>
    rw [hr] at h;cases h
    rw [List.cons_append,Z24,ha,Zgf hr hb];rfl
def Zlj (n:Normal) (num:Int):List Int→Option Int
 | [a,b]=>if Z02 n.decls a=true∧b=(Z2b n.decls a).frm∧num=0 then some (Z2b n.decls a).to_ else none
 | _=>none
def Z0p (n:Normal) (op num:Int) (ts:List Int):Option Int:=
 if op=0 then (if (-999≤num∧num≤999)∧ts.length=0 then some 0 else none)
 else if op=1∨op=2∨op=3∨op=4 then (if num=0∧ts=[0,0] then some 0 else none)
 else if op=5 then (if num=0∧ts=[0] then some 0 else none)
 else if op=11 then Zlj n num ts
 else if op=6 then (if 0≤Z0a n.decls num∧ts=Z1 n.decls num then some (Z0a n.decls num) else none)
 else if op=9 then (match atI n.routines num with
  | none=>none
  | some r=>if ts=r.params then some r.result else none)
 else if op=10 then (match atI n.routines num with
  | none=>none
  | some r=>if r.params.length≠0∧0≤Z47 n.decls r.params r.result∧ts=r.params.take (r.params.length-1) then some (Z47 n.decls r.params r.result) else none)
 else none
theorem Zaj {n:Normal} {num:Int} {ts:List Int} (h:ts.length≠2):Zlj n num ts=none:=by
 match ts,h with
 | [],_=>rfl
 | [_],_=>rfl
 | [_,_],h=>simp at h
 | _::_::_::_,_=>rfl
structure NTy (n:Normal):Prop where
 result:∀r∈n.routines,0≤r.result
 params:∀r∈n.routines,∀p∈r.params,0≤p
 decl:∀d∈n.decls,d.cons.length=0→0≤d.frm∧0≤d.to_
 fields:∀c,∀f∈Z1 n.decls c,0≤f
abbrev Zuv (us:List Int) (s:Step):Prop:=s.into≠0∧(((s.op≠6∨s.into<1)∨s.into>us.length)∨gI us (s.into-1)=0)
theorem Z00r {us:List Int} {op into:Int} (hnn:∀t∈us,0≤t) (h:¬(into≠0∧(((op≠6∨into<1)∨into>us.length)∨gI us (into-1)=0))):Z11 us op into=true:=by
 rw [Z11]
 split
 ·rfl
 ·rename_i h0
  have h1:¬(((op≠6∨into<1)∨into>us.length)∨gI us (into-1)=0):=fun q=>h ⟨h0,q⟩
  have h2:op=6:=Classical.not_not.1 fun q=>h1 (.inl (.inl (.inl q)))
  have h3:¬into<1:=fun q=>h1 (.inl (.inl (.inr q)))
  have h4:¬into>us.length:=fun q=>h1 (.inl (.inr q))
  have h5:¬gI us (into-1)=0:=fun q=>h1 (.inr q)
  obtain ⟨t,ht⟩:=Z9 (xs:=us) (j:=(into-1).toNat) om
  rw [if_pos h2,Z6y om ht]
  rw [Z5e ht] at h5
  have:=hnn t (List.mem_of_getElem? ht)
  simp;omega
theorem Zy5 {us:List Int} {op into:Int} (h:into≠0∧(((op≠6∨into<1)∨into>us.length)∨gI us (into-1)=0)):Z11 us op into=false:=by
 obtain ⟨h0,h⟩:=h
 rw [Z11,if_neg h0]
 split
 ·rename_i h6
  cases ha:atI us (into-1) with
  | none=>rfl
  | some t=>
   obtain ⟨a1,a2⟩:=Z51 ha
   rcases h with ((h|h)|h)|h
   ·exact absurd h6 h
   ·omega
   ·omega
   ·rw [Z5e a2] at h;subst h;rfl
 ·rfl
theorem Zl6 {n:Normal} {us:List Int} {s:Step} (h:Zuv us s):Z8 n us s=-1:=by
 rw [Z3y,if_pos (.inr (.inl (by rw [Zy5 h];simp)))]
end Go.Abs
namespace Go.Abs
theorem Zuy {α:Type} {c:Prop} [Decidable c] {v:α}:(if c then some v else none).isSome=decide c:=by split<;>simp_all
theorem Zw7 {n:Normal} (hty:NTy n) {op num:Int} {ts:List Int} {x:Int} (h:Z0p n op num ts=some x):0≤x:=by
 unfold Z0p at h
 split at h
 ·split at h<;>cases h;exact Int.le_refl 0
 split at h
 ·split at h<;>cases h;exact Int.le_refl 0
 split at h
 ·split at h<;>cases h;exact Int.le_refl 0
 split at h
 ·rcases ts with _|⟨a,_|⟨b,_|⟨c,r⟩⟩⟩
  ·cases h
  ·cases h
  ·rw [Zlj] at h
   split at h
   ·rename_i hq
    cases h
    rw [Z2b,if_pos hq.1]
    have hA:=hq.1
    simp only [Z02,Bool.and_eq_true,decide_eq_true_eq] at hA
    cases hd:n.decls[(a-1).toNat]? with
    | none=>rw [hd] at hA;simp at hA
    | some d=>
     rw [hd] at hA
     exact (hty.decl d (List.mem_of_getElem? hd) (by simpa using hA.2)).2
   ·cases h
  ·cases h
 split at h
 ·split at h
  ·rename_i hq;cases h;exact hq.1
  ·cases h
 split at h
 ·cases ha:atI n.routines num with
  | none=>rw [ha] at h;cases h
  | some r=>
   rw [ha] at h
   simp only at h
   split at h
   ·cases h;exact hty.result r (List.mem_of_getElem? (Z51 ha).2)
   ·cases h
 split at h
 ·cases ha:atI n.routines num with
  | none=>rw [ha] at h;cases h
  | some r=>
   rw [ha] at h
   simp only at h
   split at h
   ·rename_i hq;cases h;exact hq.2.1
   ·cases h
 ·cases h
def Zfg (n:Normal) (us:List Int) (s:Step) (ts:List Int):Int:=
 if Z0w s.op=true then (match ts with
  | [t]=>if t≠0∧s.num=0∧s.kids.length=0∧¬((s.op=16∨s.op=17)∧Z02 n.decls t=true) then 0 else -1
  | _=>-1)
 else if s.op=7 then (if ts=[0]∧s.num=0 then Z3p n us s.op s.num s.kids else -1)
 else if s.op=8 then (if ts=[s.num] then Z3p n us s.op s.num s.kids else -1)
 else if 0<s.kids.length∨(s.op=10∧0<(((atI n.routines s.num).map (·.lent)).getD []).length) then -1
 else (Z0p n s.op s.num ts).getD (-1)
theorem Zuz {p q:Prop} [Decidable p] [Decidable q] {a b:Int} (h:p↔q):ite p a b=ite q a b:=by
 by_cases hp:p
 ·rw [if_pos hp,if_pos (h.1 hp)]
 ·rw [if_neg hp,if_neg (fun z=>hp (h.2 z))]
theorem Z6p {n:Normal} {us:List Int} {s:Step} {ts:List Int} (hnn:∀t∈us,0≤t) (hts:Z24 us s.args=some ts) (hi:¬Zuv us s):Z8 n us s=Zfg n us s ts:=by
 have hv:=Z00r hnn hi
 have ht:=Zhp hts
 have hl:=Zig hts
 have hfirst:((s.num≠0∧¬Z28 s.op=true)∨¬Z11 us s.op s.into=true∨(0<s.kids.length∧s.op≠7∧s.op≠8))↔((s.num≠0∧¬Z28 s.op=true)∨(0<s.kids.length∧s.op≠7∧s.op≠8)):=by
  rw [hv];simp
 rw [Z3y,Zuz hfirst]
 unfold Zfg
 by_cases hc:Z0w s.op=true
 ·have hop:14≤s.op∧s.op≤17:=by simpa [Z0w] using hc
  have hnum:Z28 s.op=false:=by simp [Z28];omega
  rw [if_pos hc]
  by_cases hb:s.num≠0∨0<s.kids.length
  ·rw [if_pos (by rcases hb with hb|hb;exact .inl ⟨hb,by rw [hnum];simp⟩;exact .inr ⟨hb,by omega,by omega⟩)]
   split
   ·rw [if_neg];rintro ⟨h1,h2,h3,h4⟩;omega
   ·rfl
  ·rw [if_neg (by rintro (⟨h1,_⟩|⟨h1,_⟩)<;>exact hb (by first|exact .inl h1|exact .inr h1)),if_neg om,if_neg om,if_neg om,if_neg om,if_neg om,if_neg om,if_neg om,if_neg om,if_pos om]
   have hb1:s.num=0:=Classical.not_not.1 fun q=>hb (.inl q)
   have hb2:s.kids.length=0:=by have:¬0<s.kids.length:=fun q=>hb (.inr q);omega
   rcases he:s.args with _|⟨a,_|⟨b,r⟩⟩
   ·rw [he] at hts;rw [Z24] at hts;cases hts;rfl
   ·rw [he] at hts
    rw [Z24] at hts
    cases ha:atI us a with
    | none=>rw [ha] at hts;cases hts
    | some t=>
     rw [ha,Z24] at hts;cases hts
     rw [Z21,ha]
     simp only
     by_cases ht0:t=0
     ·rw [if_pos ht0,if_neg (fun q=>q.1 ht0)]
     ·rw [if_neg ht0]
      by_cases hA:Z02 n.decls t=true
      ·by_cases h16:s.op=16∨s.op=17
       ·rw [if_pos ⟨by omega,hA⟩,if_neg (fun q=>q.2.2.2 ⟨h16,hA⟩)]
       ·rw [if_neg (by rintro ⟨q,_⟩;omega),if_pos ⟨ht0,hb1,hb2,fun q=>h16 q.1⟩]
      ·rw [if_neg (fun q=>hA q.2),if_pos ⟨ht0,hb1,hb2,fun q=>hA q.2⟩]
   ·rw [he] at hl
    rw [show Z21 n.decls us s.op (a::b::r)=-1 from rfl]
    match ts,hl with
    | [t],hl=>simp at hl
    | [],hl=>simp at hl
    | _::_::_,_=>rfl
 have hop:¬(14≤s.op∧s.op≤17):=by simpa [Z0w] using hc
 by_cases h7:s.op=7
 ·have hnum:Z28 s.op=false:=by simp [Z28];omega
  conv=>rhs;rw [if_neg hc,if_pos h7]
  by_cases hb:s.num=0
  ·rw [if_neg (fun q=>q.elim (fun z=>z.1 hb) fun z=>z.2.1 h7),if_neg om,if_neg om,if_neg om,if_neg om,if_pos h7]
   by_cases hq:ts=[0]
   ·rw [if_pos ((ht _).2 hq),if_pos ⟨hq,hb⟩]
   ·rw [if_neg (fun q=>hq ((ht _).1 q)),if_neg (fun q=>hq q.1)]
  ·rw [if_pos (.inl ⟨hb,by rw [hnum];simp⟩),if_neg (fun q=>hb q.2)]
 by_cases h8:s.op=8
 ·have hnum:Z28 s.op=true:=by simp [Z28,h8]
  conv=>rhs;rw [if_neg hc,if_neg h7,if_pos h8]
  rw [if_neg (fun q=>q.elim (fun z=>z.2 hnum) fun z=>z.2.2 h8),if_neg om,if_neg om,if_neg om,if_neg om,if_neg h7,if_pos h8]
  by_cases hq:ts=[s.num]
  ·rw [if_pos ((ht _).2 hq),if_pos hq]
  ·rw [if_neg (fun q=>hq ((ht _).1 q)),if_neg hq]
 conv=>rhs;rw [if_neg hc,if_neg h7,if_neg h8]
 by_cases hk:0<s.kids.length
 ·rw [if_pos (.inr ⟨hk,h7,h8⟩),if_pos (.inl hk)]
 by_cases hlent:s.op=10∧0<(((atI n.routines s.num).map (·.lent)).getD []).length
 ·conv=>rhs;rw [if_pos (.inr hlent)]
  have hnum:Z28 s.op=true:=by simp [Z28,hlent.1]
  have h10:=hlent.1
  rw [if_neg (fun q=>q.elim (fun z=>z.2 hnum) fun z=>hk z.1),if_neg om,if_neg om,if_neg om,if_neg om,if_neg h7,if_neg h8,if_pos (.inr h10),Z2m]
  cases ha:atI n.routines s.num with
  | none=>rfl
  | some r=>
   have h2:=hlent.2
   rw [ha] at h2
   simp only [Option.map_some,Option.getD_some] at h2
   simp only
   rw [Z3b,if_neg om,if_pos (.inr (.inl h2))]
 conv=>rhs;rw [if_neg (fun q=>Or.elim q hk hlent)]
 have sf:∀{X:Option Int},Z0p n s.op s.num ts=X→Z8 n us s=X.getD (-1)→Z8 n us s=(Z0p n s.op s.num ts).getD (-1):=fun a b=>by rw [a];exact b
 have hL:=Z3y n us s
 rw [Zuz hfirst] at hL
 rw [←hL]
 by_cases hnb:s.num≠0∧¬Z28 s.op=true
 ·have hnn2:¬(s.op=0∨(s.op=6∨(s.op=8∨(s.op=9∨s.op=10)))):=fun q=>hnb.2 (by simpa [Z28] using q)
  refine sf (X:=none) ?_ (by rw [hL,if_pos (.inl hnb)];rfl)
  unfold Z0p
  rw [if_neg om]
  split
  ·rw [if_neg (fun q=>hnb.1 q.1)]
  split
  ·rw [if_neg (fun q=>hnb.1 q.1)]
  split
  ·by_cases hl2:ts.length=2
   ·match ts,hl2 with
    | [a,b],_=>exact if_neg fun q=>hnb.1 q.2.2
   ·exact Zaj hl2
  rw [if_neg om,if_neg om,if_neg om]
 rw [if_neg (fun q=>q.elim hnb fun z=>hk z.1)] at hL
 have hnumf:¬(s.op=0∨(s.op=6∨(s.op=8∨(s.op=9∨s.op=10))))→s.num=0:=fun q=>Classical.not_not.1 fun z=>hnb ⟨z,fun y=>q (by simpa [Z28] using y)⟩
 by_cases h0:s.op=0
 ·rw [if_pos h0] at hL
  by_cases hq:s.args.length=0∧(-999≤s.num∧s.num≤999)
  ·exact sf (by unfold Z0p;rw [if_pos h0,if_pos ⟨hq.2,by omega⟩]) (by rw [hL,if_pos hq];rfl)
  ·exact sf (by unfold Z0p;rw [if_pos h0,if_neg (fun q=>hq ⟨by omega,q.1⟩)]) (by rw [hL,if_neg hq];rfl)
 rw [if_neg h0] at hL
 by_cases h1:s.op=1∨s.op=2∨s.op=3∨s.op=4
 ·rw [if_pos h1] at hL
  by_cases hq:ts=[0,0]
  ·exact sf (by unfold Z0p;rw [if_neg h0,if_pos h1,if_pos ⟨hnumf om,hq⟩]) (by rw [hL,if_pos ((ht _).2 hq)];rfl)
  ·exact sf (by unfold Z0p;rw [if_neg h0,if_pos h1,if_neg (fun q=>hq q.2)]) (by rw [hL,if_neg (fun q=>hq ((ht _).1 q))];rfl)
 rw [if_neg h1] at hL
 by_cases h5:s.op=5
 ·rw [if_pos h5] at hL
  by_cases hq:ts=[0]
  ·exact sf (by unfold Z0p;rw [if_neg h0,if_neg h1,if_pos h5,if_pos ⟨hnumf om,hq⟩]) (by rw [hL,if_pos ((ht _).2 hq)];rfl)
  ·exact sf (by unfold Z0p;rw [if_neg h0,if_neg h1,if_pos h5,if_neg (fun q=>hq q.2)]) (by rw [hL,if_neg (fun q=>hq ((ht _).1 q))];rfl)
 rw [if_neg h5] at hL
 by_cases h6:s.op=6
 ·rw [if_pos h6] at hL
  have hct:0<Z0a n.decls s.num↔0≤Z0a n.decls s.num:=by
   rcases Int.lt_or_le (Z0a n.decls s.num) 1 with q|q
   ·have:=(Z7s q).2;omega
   ·omega
  by_cases hq:0≤Z0a n.decls s.num∧ts=Z1 n.decls s.num
  ·exact sf (by unfold Z0p;rw [if_neg h0,if_neg h1,if_neg h5,if_neg om,if_pos h6,if_pos hq]) (by rw [hL,if_pos ⟨hct.2 hq.1,(ht _).2 hq.2⟩];rfl)
  ·exact sf (by unfold Z0p;rw [if_neg h0,if_neg h1,if_neg h5,if_neg om,if_pos h6,if_neg hq]) (by rw [hL,if_neg (fun q=>hq ⟨hct.1 q.1,(ht _).1 q.2⟩)];rfl)
 rw [if_neg h6,if_neg h7,if_neg h8] at hL
 by_cases h9:s.op=9
 ·rw [if_pos (.inl h9),Z2m] at hL
  cases ha:atI n.routines s.num with
  | none=>exact sf (by unfold Z0p;rw [if_neg h0,if_neg h1,if_neg h5,if_neg om,if_neg h6,if_pos h9,ha]) (by rw [hL,ha];rfl)
  | some r=>
   rw [ha] at hL
   simp only at hL
   rw [Z3b,if_pos h9] at hL
   have hF:∀{X:Option Int},(if ts=r.params then some r.result else none)=X→Z0p n s.op s.num ts=X:=fun q=>by
    unfold Z0p;rw [if_neg h0,if_neg h1,if_neg h5,if_neg om,if_neg h6,if_pos h9,ha];exact q
   by_cases hq:ts=r.params
   ·exact sf (hF (if_pos hq)) (by rw [hL,if_pos ((ht _).2 hq)];rfl)
   ·exact sf (hF (if_neg hq)) (by rw [hL,if_neg (fun q=>hq ((ht _).1 q))];rfl)
 by_cases h10:s.op=10
 ·rw [if_pos (.inr h10),Z2m] at hL
  cases ha:atI n.routines s.num with
  | none=>exact sf (by unfold Z0p;rw [if_neg h0,if_neg h1,if_neg h5,if_neg om,if_neg h6,if_neg h9,if_pos h10,ha]) (by rw [hL,ha];rfl)
  | some r=>
   rw [ha] at hL hlent
   simp only [Option.map_some,Option.getD_some] at hL hlent
   rw [Z3b,if_neg h9] at hL
   have hF:∀{X:Option Int},(if r.params.length≠0∧0≤Z47 n.decls r.params r.result∧ts=r.params.take (r.params.length-1) then some (Z47 n.decls r.params r.result) else none)=X→Z0p n s.op s.num ts=X:=fun q=>by
    unfold Z0p;rw [if_neg h0,if_neg h1,if_neg h5,if_neg om,if_neg h6,if_neg h9,if_pos h10,ha];exact q
   by_cases hp:r.params.length=0
   ·exact sf (hF (if_neg fun q=>q.1 hp)) (by rw [hL,if_pos (.inl hp)];rfl)
   by_cases hq:ts=r.params.take (r.params.length-1)
   ·rw [if_neg (fun z=>z.elim hp fun z=>z.elim (fun z=>hlent ⟨h10,z⟩) fun z=>z ((ht _).2 hq))] at hL
    by_cases har:0≤Z47 n.decls r.params r.result
    ·exact sf (hF (if_pos ⟨hp,har,hq⟩)) hL
    ·refine sf (hF (if_neg fun q=>har q.2.1)) ?_
     have key:∀(l:List Decl) (i:Nat) (f t:Int),¬0≤Z3r f t l i→Z3r f t l i=-1:=by
      intro l
      induction l with
      | nil=>intro i f t _;rfl
      | cons d r ih=>
       intro i f t hn
       rw [Z3r] at hn ⊢
       split
       ·rename_i hh;rw [if_pos hh] at hn;omega
       ·rename_i hh;rw [if_neg hh] at hn;exact ih _ _ _ hn
     exact hL.trans (key _ _ _ _ har)
   ·exact sf (hF (if_neg fun q=>hq q.2.2)) (by rw [hL,if_pos (.inr (.inr fun q=>hq ((ht _).1 q)))];rfl)
 rw [if_neg om] at hL
 by_cases h11:s.op=11
 ·rw [if_pos h11] at hL
  have hn0:=hnumf om
  have hF:∀{X:Option Int},Zlj n s.num ts=X→Z0p n s.op s.num ts=X:=fun q=>by
   unfold Z0p;rw [if_neg h0,if_neg h1,if_neg h5,if_pos h11];exact q
  rcases he:s.args with _|⟨a,_|⟨b,_|⟨c,r⟩⟩⟩
  ·rw [he] at hts hL;rw [Z24] at hts;cases hts;exact sf (hF rfl) hL
  ·rw [he] at hl hL
   exact sf (hF (Zaj (by simp at hl;omega))) hL
  ·rw [he] at hts hL
   rw [Z24] at hts
   cases ha:atI us a with
   | none=>rw [ha] at hts;cases hts
   | some t=>
    rw [ha,Z24] at hts
    cases hb:atI us b with
    | none=>rw [hb] at hts;cases hts
    | some t2=>
     rw [hb,Z24] at hts;cases hts
     rw [Z4e,ha] at hL
     simp only at hL
     by_cases hA:Z02 n.decls t=true
     ·rw [if_pos hA] at hL
      have hA2:=hA
      simp only [Z02,Bool.and_eq_true,decide_eq_true_eq] at hA2
      cases hd:n.decls[(t-1).toNat]? with
      | none=>rw [hd] at hA2;simp at hA2
      | some d=>
       rw [hd] at hL
       simp only at hL
       have hD:Z2b n.decls t=d:=by rw [Z2b,if_pos hA,hd];rfl
       have h2:=Zhp (us:=us) (args:=[b]) (ts:=[t2]) (by rw [Z24,hb,Z24]) [d.frm]
       by_cases hq:t2=d.frm
       ·exact sf (hF (if_pos ⟨hA,by rw [hD];exact hq,hn0⟩)) (by rw [hL,if_pos (h2.2 (by rw [hq])),hD];rfl)
       ·exact sf (hF (if_neg fun q=>hq (by rw [hD] at q;exact q.2.1))) (by rw [hL,if_neg (fun q=>hq (by simpa using h2.1 q))];rfl)
     ·exact sf (hF (if_neg fun q=>hA q.1)) (by rw [hL,if_neg hA];rfl)
  ·rw [he] at hl hL
   exact sf (hF (Zaj (by simp at hl;omega))) hL
 rw [if_neg h11,if_neg om] at hL
 exact sf (X:=none) (by unfold Z0p;rw [if_neg h0,if_neg h1,if_neg h5,if_neg h11,if_neg h6,if_neg h9,if_neg h10]) hL
end Go.Abs
namespace Go.Abs
theorem Zh4:∀(n:Nat) (f:Int) (k:Nat) (x:Int),(Z17 f n)[k]? = some x→x=f+k∧k<n
 | 0,f,k,x,h=>by simp [Z17] at h
 | n+1,f,k,x,h=>by
  rw [Z17] at h
  cases k with
  | zero=>simp at h;subst h;exact ⟨by omega,by omega⟩
  | succ k=>have:=Zh4 n (f+1) k x (by simpa using h);exact ⟨by omega,by omega⟩
theorem Zls {ds:List Decl} (hd:DOk ds) {t:Int} {k:Nat} {x:Int} (h:(Zb ds t)[k]? = some x):0≤x∧x≤100:=by
 rw [Zb] at h
 split at h
 ·rename_i ht
  obtain ⟨d,hd1⟩:=Z9 (xs:=ds) (j:=(t-1).toNat) om
  rw [hd1] at h
  have:=Zh4 _ _ _ _ h
  have h3:=hd.cons_at hd1
  have h4:=(hd.take (t-1).toNat).sum
  simp only [Option.map_some,Option.getD_some] at this
  omega
 ·simp at h
end Go.Abs
namespace Go.Abs
section
variable {S:Option Int} {c:Prop} [Decidable c] {v:Int} {b:Bool}
theorem sfb (h:S=if c then some v else none) (hb:b=true↔c):b=S.isSome:=by rw [h,Zuy,Bool.eq_iff_iff,hb,decide_eq_true_iff]
theorem sfp (h:S=if c then some v else none):∀x,S=some x→v=x:=by
 intro x hx;rw [h] at hx;split at hx
 ·exact Option.some.inj hx
 ·cases hx
theorem sfn (h:S=none):false=S.isSome:=by rw [h];rfl
theorem sfnp (h:S=none):∀x,S=some x→v=x:=by intro x hx;rw [h] at hx;cases hx
end
section
variable {n:Normal} {op num:Int} {ts:List Int}
theorem sf0 (h:op=0):Z0p n op num ts=if (-999≤num∧num≤999)∧ts.length=0 then some 0 else none:=by unfold Z0p;rw [if_pos h]
theorem sf1 (h:op=1∨op=2∨op=3∨op=4):Z0p n op num ts=if num=0∧ts=[0,0] then some 0 else none:=by unfold Z0p;rw [if_neg om,if_pos h]
theorem sf5 (h:op=5):Z0p n op num ts=if num=0∧ts=[0] then some 0 else none:=by unfold Z0p;rw [if_neg om,if_neg om,if_pos h]
theorem sf11 (h:op=11):Z0p n op num ts=Zlj n num ts:=by unfold Z0p;rw [if_neg om,if_neg om,if_neg om,if_pos h]
theorem Z03u (h:op=11) (hl:(ts.length:Int)≠2):Z0p n op num ts=none:=(sf11 h).trans (Zaj om)
theorem Z01a (h:op=11) {a b:Int} (hl:¬(ts.length:Int)≠2) (ha:ts[0]? = some a) (hb:ts[1]? = some b) :
  Z0p n op num ts=if Z02 n.decls a=true∧b=(Z2b n.decls a).frm∧num=0 then some (Z2b n.decls a).to_ else none:=by
 rw [sf11 h]
 match ts,hl,ha,hb with
 | [x,y],_,ha,hb=>simp at ha hb;subst ha;subst hb;rfl
 | [],hl,_,_=>simp at hl
 | [_],hl,_,_=>simp at hl
 | _::_::_::_,hl,_,_=>simp at hl;omega
theorem Z03t (h:op=11) {a:Int} (hl:¬(ts.length:Int)≠2) (ha:ts[0]? = some a) (hn:¬Z02 n.decls a=true):Z0p n op num ts=none:=by
 obtain ⟨b,hb⟩:=Z9 (xs:=ts) (j:=1) om
 rw [Z01a h hl ha hb,if_neg fun q=>hn q.1]
theorem sf6 (h:op=6):Z0p n op num ts=if 0≤Z0a n.decls num∧ts=Z1 n.decls num then some (Z0a n.decls num) else none:=by
 unfold Z0p;rw [if_neg om,if_neg om,if_neg om,if_neg om,if_pos h]
theorem sf9n (h:op=9∨op=10) (hr:num<0∨num≥(((n.routines.map Z4).length:Nat):Int)):Z0p n op num ts=none:=by
 have ha:atI n.routines num=none:=Z5x (by simp at hr;omega)
 unfold Z0p
 rw [if_neg om,if_neg om,if_neg om,if_neg om,if_neg om]
 rcases h with h|h
 ·rw [if_pos h,ha]
 ·rw [if_neg om,if_pos h,ha]
theorem sf9 (h:op=9) {x:Sg3} (hr:¬(num<0∨num≥(((n.routines.map Z4).length:Nat):Int))) (hx:(n.routines.map Z4)[num.toNat]? = some x) :
  Z0p n op num ts=if ts=x.pms then some x.res else none:=by
 obtain ⟨r,h1,rfl⟩:=Zfw hx
 have ha:atI n.routines num=some r:=Z6y (by simp at hr;omega) h1
 unfold Z0p
 rw [if_neg om,if_neg om,if_neg om,if_neg om,if_neg om,if_pos h,ha];rfl
theorem Z03s (h:op=10) {x:Sg3} (hr:¬(num<0∨num≥(((n.routines.map Z4).length:Nat):Int))) (hx:(n.routines.map Z4)[num.toNat]? = some x) (hp:(x.pms.length:Int)-1<0) :
  Z0p n op num ts=none:=by
 obtain ⟨r,h1,rfl⟩:=Zfw hx
 have ha:atI n.routines num=some r:=Z6y (by simp at hr;omega) h1
 have hp':r.params.length=0:=by simp only [Z4] at hp;omega
 unfold Z0p
 rw [if_neg om,if_neg om,if_neg om,if_neg om,if_neg om,if_neg om,if_pos h,ha]
 exact if_neg fun q=>q.1 hp'
theorem sf10 (h:op=10) {x:Sg3} {l:Int} (hr:¬(num<0∨num≥(((n.routines.map Z4).length:Nat):Int))) (hx:(n.routines.map Z4)[num.toNat]? = some x) (hp:¬(x.pms.length:Int)-1<0)
  (hl:x.pms[((x.pms.length:Int)-1).toNat]? = some l) :
  Z0p n op num ts=if 0≤Z2d n.decls l x.res∧ts=x.pms.take ((x.pms.length:Int)-1).toNat then some (Z2d n.decls l x.res) else none:=by
 obtain ⟨r,h1,rfl⟩:=Zfw hx
 have ha:atI n.routines num=some r:=Z6y (by simp at hr;omega) h1
 simp only [Z4] at hp hl ⊢
 have hq:((r.params.length:Int)-1).toNat=r.params.length-1:=by omega
 have ht:r.params.take ((r.params.length:Int)-1).toNat=r.params.take (r.params.length-1):=congrArg (fun k=>r.params.take k) hq
 have hl':r.params[r.params.length-1]? = some l:=by rw [←hl];exact congrArg (fun k=>r.params[k]?) hq.symm
 have hlast:Z47 n.decls r.params r.result=Z2d n.decls l r.result:=by rw [Z47,Zit hl']
 unfold Z0p
 rw [if_neg om,if_neg om,if_neg om,if_neg om,if_neg om,if_neg om,if_pos h,ha]
 simp only [hlast]
 by_cases hc:0≤Z2d n.decls l r.result∧ts=r.params.take (r.params.length-1)
 ·rw [if_pos ⟨by omega,hc⟩]
  exact (if_pos ⟨hc.1,hc.2.trans ht.symm⟩).symm
 ·rw [if_neg fun q=>hc q.2]
  exact (if_neg (fun q=>hc ⟨q.1,q.2.trans ht⟩)).symm
theorem sfd (h0:¬op=0) (h1:¬(op=1∨op=2∨op=3∨op=4)) (h5:¬op=5) (h11:¬op=11) (h6:¬op=6) (h9:¬(op=9∨op=10)):Z0p n op num ts=none:=by
 unfold Z0p;rw [if_neg h0,if_neg h1,if_neg h5,if_neg h11,if_neg h6,if_neg om,if_neg om]
end
end Go.Abs
end
section
namespace Go.Abs
mutual
def Step.rng:Step→Prop
 | .mk _ num _ _ kids=>(-9223372036854775808≤num∧num≤9223372036854775807)∧brng kids
def Block.rng:Block→Prop
 | .mk steps _=>srng steps
def srng:List Step→Prop
 | []=>True
 | s::r=>s.rng∧srng r
def brng:List Block→Prop
 | []=>True
 | b::r=>b.rng∧brng r
end
theorem Step.rng_eq (s:Step):s.rng=((-9223372036854775808≤s.num∧s.num≤9223372036854775807)∧brng s.kids):=by cases s;rw [Step.rng];rfl
theorem Block.rng_eq (b:Block):b.rng=srng b.steps:=by cases b;rw [Block.rng];rfl
theorem Zl3:∀{xs:List Step} {k:Nat} {s:Step},srng xs→xs[k]? = some s→s.rng
 | [],k,s,_,h=>by simp at h
 | x::r,0,s,hr,h=>by rw [srng] at hr;simp at h;subst h;exact hr.1
 | x::r,k+1,s,hr,h=>by rw [srng] at hr;exact Zl3 (k:=k) hr.2 (by simpa using h)
theorem Zfi:∀{xs:List Block} {k:Nat} {b:Block},brng xs→xs[k]? = some b→b.rng
 | [],k,s,_,h=>by simp at h
 | x::r,0,s,hr,h=>by rw [brng] at hr;simp at h;subst h;exact hr.1
 | x::r,k+1,s,hr,h=>by rw [brng] at hr;exact Zfi (k:=k) hr.2 (by simpa using h)
theorem Zek {us:List Int}:∀{args:List Int},Z24 us args=none→∀tys,Z1r us args tys=false
 | [],h,tys=>by rw [Z24] at h;cases h
 | a::r,h,tys=>by
  cases tys with
  | nil=>simp [Z1r,Z29]
  | cons t ts=>
   rw [Z24] at h
   rw [Z1r,Z29]
   cases ha:atI us a with
   | none=>simp
   | some u=>
    rw [ha] at h
    cases hr:Z24 us r with
    | none=>
     have:=Zek hr ts
     rw [Z1r] at this
     by_cases he:u=t
     ·subst he;simpa using this
     ·rw [if_neg (fun q=>he (Option.some.inj q))]
    | some tr=>rw [hr] at h;cases h
theorem Zi7 {n:Normal} {us:List Int} {s:Step} (h:Z24 us s.args=none):Z8 n us s=-1:=by
 have ht:=Zek h
 rw [Z3y]
 split
 ·rfl
 split
 ·rw [if_neg];rintro ⟨q,_⟩
  have:s.args=[]:=List.length_eq_zero_iff.1 q
  rw [this,Z24] at h;cases h
 split
 ·rw [if_neg (by rw [ht];simp)]
 split
 ·rw [if_neg (by rw [ht];simp)]
 split
 ·rw [if_neg (by rw [ht];simp)]
 split
 ·rw [if_neg (by rw [ht];simp)]
 split
 ·rw [if_neg (by rw [ht];simp)]
 split
 ·rw [Z2m]
  cases atI n.routines s.num with
  | none=>rfl
  | some r=>
   simp only
   rw [Z3b]
   split
   ·rw [if_neg (by rw [ht];simp)]
   ·rw [if_pos (.inr (.inr (by rw [ht];simp)))]
 split
 ·match hA:s.args with
  | []=>rfl
  | [_]=>rfl
  | [a,b]=>
   rw [Z4e]
   rw [hA,Z24] at h
   cases ha:atI us a with
   | none=>rfl
   | some t=>
    rw [ha] at h
    simp only at h ⊢
    split
    ·cases n.decls[(t-1).toNat]? with
     | none=>rfl
     | some d=>
      simp only
      rw [if_neg]
      cases hb:Z24 us [b] with
      | none=>rw [Zek hb];simp
      | some tr=>rw [hb] at h;cases h
    ·rfl
  | _::_::_::_=>rfl
 split
 ·match hA:s.args with
  | []=>rfl
  | [a]=>
   rw [Z21]
   rw [hA,Z24] at h
   cases ha:atI us a with
   | none=>rfl
   | some t=>rw [ha,Z24] at h;cases h
  | _::_::_=>rfl
 ·rfl
theorem Zif {us:List Int} {a:Int}:∀{xs:List Int} {k:Nat},xs[k]? = some a→atI us a=none→Z24 us xs=none
 | [],k,h,_=>by simp at h
 | x::r,0,h,ha=>by simp at h;subst h;rw [Z24,ha]
 | x::r,k+1,h,ha=>by
  have:=Zif (xs:=r) (k:=k) (by simpa using h) ha
  rw [Z24]
  cases atI us x with
  | none=>rfl
  | some t=>simp only [this]
theorem Zv1 {n:Normal} {us:List Int} {ks:List Block} {ms:List (List Int)} (h:0<ks.length) (t:Int) :
  Z1h n us (ks.drop 0) (ms.drop 0) (decide (0=0)) t=Z1h n us ks ms true 0:=by
 cases ks with
 | nil=>simp at h
 | cons b bs=>
  cases ms with
  | nil=>rw [List.drop_zero,List.drop_zero,Z1h,Z1h]
  | cons m r=>
   simp only [List.drop_zero,decide_true]
   rw [Z1h,Z1h];simp
theorem Ztk {b:Block}:∀{ks:List Block} {k:Nat},ks[k]? = some b→b.sz≤bsz ks
 | [],k,h=>by simp at h
 | x::r,0,h=>by simp at h;subst h;rw [bsz];omega
 | x::r,k+1,h=>by have:=Ztk (ks:=r) (k:=k) (by simpa using h);rw [bsz];omega
theorem Zdj (us m:List Int):[us,m].flatten=us++m:=by simp
theorem Zze {xs:List Int} {i:Int} (h:i.toNat<xs.length):xs[i.toNat]? = some (gI xs i):=by rw [gI,List.getElem?_eq_getElem h];rfl
theorem Zk3 {xs:List Int} (h:0<xs.length):xs[0]? = some (gI xs 0):=Zze (i:=0) h
def sgI (n:Normal) (num:Int):Sg3:=((n.routines.map Z4)[num.toNat]?).getD ⟨[],[],0⟩
theorem Zw6 {n:Normal} {i:Int} (h:i.toNat<(n.routines.map Z4).length):(n.routines.map Z4)[i.toNat]? = some (sgI n i):=by rw [sgI,List.getElem?_eq_getElem h];rfl
theorem Zmm {us m:List Int} (h1:∀t∈us,0≤t) (h2:∀t∈m,0≤t):∀t∈us++m,0≤t:=fun t h=>(List.mem_append.1 h).elim (h1 t) (h2 t)
theorem Z58 {us:List Int} {args ts:List Int} {k:Nat} (h:Z24 us (args.take k)=some ts) (hk:args.length≤k):Z24 us args=some ts:=by
 rw [List.take_of_length_le hk] at h;exact h
theorem Zns {us:List Int} {args ts:List Int} {k:Nat} {a t:Int} (h:Z24 us (args.take k)=some ts) (ha:args[k]? = some a) (ht:atI us a=some t):Z24 us (args.take (k+1))=some (ts++[t]):=by
 rw [Z1z ha];exact Zgf h ht
theorem Zzj {ts:List Int} (h:(ts.length:Int)=1):ts=[gI ts 0]:=by
 match ts,h with
 | [a],_=>rfl
section
variable {n:Normal} {us ts:List Int} {s:Step}
theorem Zcs {p1 p2 p3 p4 p5:Prop}:(p1∧(p2∨(p3∨(p4∨p5))))↔(p1∧(((p2∨p3)∨p4)∨p5)):=by simp only [or_assoc]
def cntI (n:Normal) (s:Step) (ts:List Int):Int:=match ts with
  | [t]=>if t≠0∧s.num=0∧s.kids.length=0∧¬((s.op=16∨s.op=17)∧Z02 n.decls t=true) then 0 else -1
  | _=>-1
theorem Z80:Zfg n us s ts =
 if Z0w s.op=true then cntI n s ts
 else if s.op=7 then (if ts=[0]∧s.num=0 then Z3p n us s.op s.num s.kids else -1)
 else if s.op=8 then (if ts=[s.num] then Z3p n us s.op s.num s.kids else -1)
 else if 0<s.kids.length∨(s.op=10∧0<(((atI n.routines s.num).map (·.lent)).getD []).length) then -1
 else (Z0p n s.op s.num ts).getD (-1):=by unfold Zfg cntI;rfl
theorem Zpi (h:(ts.length:Int)=1):cntI n s ts=if gI ts 0≠0∧s.num=0∧s.kids.length=0∧¬((s.op=16∨s.op=17)∧Z02 n.decls (gI ts 0)=true) then 0 else -1:=by
 match ts,h with
 | [a],_=>rfl
theorem Zxg (h:(ts.length:Int)≠1):cntI n s ts=-1:=by
 match ts,h with
 | [],_=>rfl
 | [a],h=>exact absurd rfl h
 | _::_::_,_=>rfl
theorem Zwm (hS:Z8 n us s=Zfg n us s ts) (hc:Z0w s.op=true)
  (h:((((ts.length:Int)=1∧gI ts 0≠0)∧s.num=0)∧(s.kids.length:Int)=0)∧(s.op=16∨s.op=17)) :
  (!Z02 n.decls (gI ts 0))=decide (0≤Z8 n us s):=by
 obtain ⟨⟨⟨⟨h1,h2⟩,h3⟩,h4⟩,h5⟩:=h
 have h4':s.kids.length=0:=by omega
 rw [hS,Z80,if_pos hc,Zpi h1]
 cases hA:Z02 n.decls (gI ts 0)
 ·rw [if_pos ⟨h2,h3,h4',by simp⟩];rfl
 ·rw [if_neg (fun q=>q.2.2.2 ⟨h5,rfl⟩)];rfl
theorem Zwn (hS:Z8 n us s=Zfg n us s ts) (hc:Z0w s.op=true)
  (h:¬(((((ts.length:Int)=1∧gI ts 0≠0)∧s.num=0)∧(s.kids.length:Int)=0)∧(s.op=16∨s.op=17))) :
  ((((((ts.length:Int)==1)&&(gI ts 0 != 0))&&(s.num==0))&&((s.kids.length:Int)==0)))=decide (0≤Z8 n us s):=by
 rw [hS,Z80,if_pos hc]
 by_cases h1:(ts.length:Int)=1
 ·rw [Zpi h1]
  by_cases h2:(gI ts 0≠0∧s.num=0)∧(s.kids.length:Int)=0
  ·obtain ⟨⟨h2,h3⟩,h4⟩:=h2
   have h4':s.kids.length=0:=by omega
   rw [if_pos ⟨h2,h3,h4',fun q=>h ⟨⟨⟨⟨h1,h2⟩,h3⟩,h4⟩,q.1⟩⟩,beq_iff_eq.2 h1,bne_iff_ne.2 h2,beq_iff_eq.2 h3,beq_iff_eq.2 h4];rfl
  ·rw [if_neg (fun q=>h2 ⟨⟨q.1,q.2.1⟩,by have:=q.2.2.1;omega⟩)]
   show _=false
   rw [Bool.eq_false_iff];intro q
   obtain ⟨⟨⟨_,q1⟩,q2⟩,q3⟩:=(Zo (Zo (Zo beq_iff_eq bne_iff_ne) beq_iff_eq) beq_iff_eq).1 q
   exact h2 ⟨⟨q1,q2⟩,q3⟩
 ·rw [Zxg h1]
  show _=false
  rw [Bool.eq_false_iff];intro q
  obtain ⟨⟨⟨q1,_⟩,_⟩,_⟩:=(Zo (Zo (Zo beq_iff_eq bne_iff_ne) beq_iff_eq) beq_iff_eq).1 q
  exact h1 q1
theorem Z01l (hS:Z8 n us s=Zfg n us s ts) (hc:¬Z0w s.op=true) (h7:s.op=7)
  (h:(((ts.length:Int)≠1∨gI ts 0≠0)∨s.num≠0)∨(s.kids.length:Int)≠2):Z8 n us s=-1:=by
 rw [hS,Z80,if_neg hc,if_pos h7]
 split
 ·rename_i q
  obtain ⟨q1,q2⟩:=q
  rw [q1] at h
  rw [Z3p,if_pos]
  right
  rw [Zq,if_pos h7]
  have:gI [0] 0=0:=rfl
  simp [this] at h
  show s.kids.length≠2
  omega
 ·rfl
theorem Z036 (hS:Z8 n us s=Zfg n us s ts) (hc:¬Z0w s.op=true) (h7:s.op=7)
  (h:¬((((ts.length:Int)≠1∨gI ts 0≠0)∨s.num≠0)∨(s.kids.length:Int)≠2)):Z8 n us s=Z1h n us s.kids (List.replicate 2 []) true 0:=by
 have h1:(ts.length:Int)=1:=Classical.not_not.1 fun q=>h (.inl (.inl (.inl q)))
 have h2:gI ts 0=0:=Classical.not_not.1 fun q=>h (.inl (.inl (.inr q)))
 have h3:s.num=0:=Classical.not_not.1 fun q=>h (.inl (.inr q))
 have h4:(s.kids.length:Int)=2:=Classical.not_not.1 fun q=>h (.inr q)
 rw [hS,Z80,if_neg hc,if_pos h7,if_pos ⟨by rw [Zzj h1,h2],h3⟩,Z3p,if_neg]
 ·rw [Zq,if_pos h7];rfl
 ·rw [Zq,if_pos h7];simp;omega
theorem Z01m (hS:Z8 n us s=Zfg n us s ts) (hc:¬Z0w s.op=true) (h7:¬s.op=7) (h8:s.op=8)
  (h:(ts.length:Int)≠1∨(gI ts 0≠s.num∨(((((Zb n.decls s.num).map (Z1 n.decls)).length:Nat):Int)=0∨(s.kids.length:Int)≠((((Zb n.decls s.num).map (Z1 n.decls)).length:Nat):Int)))):Z8 n us s=-1:=by
 rw [hS,Z80,if_neg hc,if_neg h7,if_pos h8]
 split
 ·rename_i q
  have hg:gI ts 0=s.num:=by rw [q];rfl
  have hl:(ts.length:Int)=1:=by rw [q];rfl
  rw [Z3p,if_pos]
  rw [Zq,if_neg h7]
  omega
 ·rfl
theorem Z037 (hS:Z8 n us s=Zfg n us s ts) (hc:¬Z0w s.op=true) (h7:¬s.op=7) (h8:s.op=8)
  (h:¬((ts.length:Int)≠1∨(gI ts 0≠s.num∨(((((Zb n.decls s.num).map (Z1 n.decls)).length:Nat):Int)=0∨(s.kids.length:Int)≠((((Zb n.decls s.num).map (Z1 n.decls)).length:Nat):Int))))) :
  Z8 n us s=Z1h n us s.kids ((Zb n.decls s.num).map (Z1 n.decls)) true 0:=by
 have h1:(ts.length:Int)=1:=Classical.not_not.1 fun q=>h (.inl q)
 have h2:gI ts 0=s.num:=Classical.not_not.1 fun q=>h (.inr (.inl q))
 rw [hS,Z80,if_neg hc,if_neg h7,if_pos h8,if_pos (by rw [Zzj h1,h2]),Z3p,if_neg]
 ·rw [Zq,if_neg h7]
 ·rw [Zq,if_neg h7];omega
theorem Z02u {n:Normal} {num:Int}:(((atI n.routines num).map (·.lent)).getD []).length=if 0≤num∧num<(((n.routines.map Z4).length:Nat):Int) then (sgI n num).lnt.length else 0:=by
 split
 ·rename_i h
  rw [List.length_map] at h
  obtain ⟨r,hr⟩:=Z9 (xs:=n.routines) (j:=num.toNat) om
  rw [Z6y om hr,sgI,List.getElem?_map,hr];rfl
 ·rename_i h
  rw [List.length_map] at h
  rw [Z5x om];rfl
theorem Zwl:(0<s.kids.length∨(s.op=10∧0<(((atI n.routines s.num).map (·.lent)).getD []).length)) ↔
  ((s.kids.length:Int)>0∨(s.op=10∧(s.num≥0∧(s.num<(((n.routines.map Z4).length:Nat):Int)∧((((sgI n s.num).lnt).length:Nat):Int)>0)))):=by
 rw [Z02u]
 by_cases hq:0≤s.num∧s.num<(((n.routines.map Z4).length:Nat):Int)
 ·rw [if_pos hq];omega
 ·rw [if_neg hq];omega
theorem stB (hS:Z8 n us s=Zfg n us s ts) (hc:¬Z0w s.op=true) (h7:¬s.op=7) (h8:¬s.op=8)
  (h:((s.kids.length:Int)>0∨(s.op=10∧(s.num≥0∧(s.num<(((n.routines.map Z4).length:Nat):Int)∧((((sgI n s.num).lnt).length:Nat):Int)>0))))):Z8 n us s=-1:=by
 rw [hS,Z80,if_neg hc,if_neg h7,if_neg h8,if_pos (Zwl.2 h)]
theorem stS (hS:Z8 n us s=Zfg n us s ts) (hc:¬Z0w s.op=true) (h7:¬s.op=7) (h8:¬s.op=8)
  (h:¬((s.kids.length:Int)>0∨(s.op=10∧(s.num≥0∧(s.num<(((n.routines.map Z4).length:Nat):Int)∧((((sgI n s.num).lnt).length:Nat):Int)>0))))):Z8 n us s=(Z0p n s.op s.num ts).getD (-1):=by
 rw [hS,Z80,if_neg hc,if_neg h7,if_neg h8,if_neg (fun q=>h (Zwl.1 q))]
theorem Z03v (hty:NTy n) (h:Z8 n us s=(Z0p n s.op s.num ts).getD (-1)):(Z0p n s.op s.num ts).isSome=decide (0≤Z8 n us s):=by
 rw [h]
 cases hs:Z0p n s.op s.num ts with
 | none=>rfl
 | some x=>have:=Zw7 hty hs;simp [this]
theorem Z03w {t:Int} (h:Z8 n us s=(Z0p n s.op s.num ts).getD (-1)) (hp:∀x,Z0p n s.op s.num ts=some x→t=x):¬Z0w s.op=true→0≤Z8 n us s→t=Z8 n us s:=by
 intro _ h0
 rw [h] at h0 ⊢
 cases hs:Z0p n s.op s.num ts with
 | none=>rw [hs] at h0;exact absurd h0 (by decide)
 | some x=>exact hp x hs
end
theorem Zsn {n:Normal} {us:List Int} {s:Step} (h:0≤Z8 n us s):(0≤s.op∧s.op≤11)∨(14≤s.op∧s.op≤17):=by
 rw [Z3y] at h
 by_cases hq:(0≤s.op∧s.op≤11)∨(14≤s.op∧s.op≤17)
 ·exact hq
 ·exfalso
  split at h
  ·omega
  rw [if_neg om,if_neg om,if_neg om,if_neg om,if_neg om,if_neg om,if_neg om,if_neg om,if_neg om] at h
  omega
theorem Za6 {n:Normal} {us:List Int} {s:Step} (h:0≤Z8 n us s):Z01 s.op=!Z0w s.op:=by
 have:=Zsn h
 rw [Z01,Z0w,Bool.eq_iff_iff];simp;omega
theorem Zyw {n:Normal} {xs:List Step} {vs:List Int} {k:Nat} {s:Step} {t:Int} {r:Option (List Int)} (hs:xs[k]? = some s) (h:0≤Z8 n vs s) (ht:¬Z0w s.op=true→0≤Z8 n vs s→t=Z8 n vs s)
  (hr:Z0x n (xs.drop k) vs=r):Z0x n (xs.drop (k+1)) (if Z0w s.op=true then vs else vs++[t])=r:=by
 rw [Z7 hs,Z0x,if_neg om] at hr
 rw [←hr,Za6 h]
 by_cases hc:Z0w s.op=true
 ·rw [if_pos hc,hc];rfl
 ·rw [if_neg hc,if_pos (by simpa using hc),ht hc h]
theorem Zsp {n:Normal} {xs:List Step} {vs:List Int} {k:Nat} {s:Step} {r:Option (List Int)} (hs:xs[k]? = some s) (h:¬0≤Z8 n vs s) (hr:Z0x n (xs.drop k) vs=r):r=none:=by
 rw [Z7 hs,Z0x,if_pos om] at hr;exact hr.symm
theorem Z03o {c:Prop} [Decidable c] {vs:List Int} {t:Int} (h:∀x∈vs,0≤x) (ht:¬c→0≤t):∀x∈(if c then vs else vs++[t]),0≤x:=by
 split
 ·exact h
 ·rename_i hc
  exact Zmm h (fun x hx=>by rw [List.mem_singleton.1 hx];exact ht hc)
end Go.Abs
end
section
namespace Go.Abs
theorem Zlh {m:Nat} {xs:List Int} (h:Z1o m xs=true):∀x∈xs,0≤x∧x≤m:=by
 rw [Z1o,List.all_eq_true] at h
 exact fun x hx=>of_decide_eq_true (h x hx)
theorem Zcz {n:Normal} (h:Z0g n=true):NTy n:=by
 simp only [Z0g,Z2x,Bool.and_eq_true,decide_eq_true_eq] at h
 obtain ⟨h1,⟨h2,h3,h4,h5⟩,h6⟩:=h
 have hs:∀r∈n.routines,Z1o n.decls.length r.params=true∧0≤r.result:=fun r hr=>by
  have:=Zbr h4 (Z5n r) (List.mem_map.2 ⟨r,hr,rfl⟩)
  simp only [Z9l,Bool.and_eq_true,decide_eq_true_eq] at this
  exact ⟨this.2.1,this.2.2.1⟩
 simp only [Z00,Bool.and_eq_true,decide_eq_true_eq] at h2
 obtain ⟨h2a,h2b⟩:=h2
 rw [Zbi] at h2b
 have key:∀(i:Nat) (d:Decl),n.decls[i]? = some d→Z3h n.decls d i=true:=fun i d hi=>by
  have:=h2b i (List.getElem?_eq_some_iff.1 hi).1
  rwa [Nat.zero_add,Z7e hi] at this
 refine ⟨fun r hr=>(hs r hr).2,fun r hr p hp=>(Zlh (hs r hr).1 p hp).1,fun d hd h0=>?_,fun c f hf=>?_⟩
 ·obtain ⟨i,hi⟩:=List.mem_iff_getElem?.1 hd
  have:=key i d hi
  rw [Z3h,if_neg om] at this
  split at this
  ·cases this
  ·simp only [Bool.and_eq_true,decide_eq_true_eq] at this;omega
 ·by_cases hc:Z0a n.decls c<1
  ·rw [(Z7s hc).1] at hf;cases hf
  ·obtain ⟨k,d,x,q1,q2,q3,q4,q5⟩:=Za3 hc
   rw [q5] at hf
   have:=key k d q1
   have hp:0<d.cons.length:=by have:=(List.getElem?_eq_some_iff.1 q3).1;omega
   rw [Z3h,if_pos hp] at this
   split at this
   ·have:=Zgh.1 this x (List.mem_of_getElem? q3)
    simp only [Za2,Bool.and_eq_true] at this
    exact (Zlh this.2 f hf).1
   ·cases this
end Go.Abs
end
section
namespace Go.Abs
structure Arm where
 mat:Int
 fst:Int
 fds:List Int
 chg:Bool
abbrev lArm (a:Arm):List AV:=[.i a.mat,.i a.fst,nInt a.fds,.b a.chg]
abbrev aArm (a:Arm):AV:=.agg (lArm a)
def Z41 (xs:List Arm):List AV:=xs.map aArm
abbrev nArm (xs:List Arm):AV:=.sl (Z41 xs) none
abbrev oArm (xs:List Arm) (v:Value):AV:=.sl (Z41 xs) (some v)
theorem Ztx {xs:List Arm} {j:Nat} {x:Arm} (h:xs[j]? = some x):(Z41 xs)[j]? = some (aArm x):=by simp [Z41,h]
@[simp] theorem Zlt (xs:List Arm):(Z41 xs).length=xs.length:=by simp [Z41]
theorem Zeq (xs ys:List Arm):Z41 (xs++ys)=Z41 xs++Z41 ys:=by simp [Z41]
theorem Z8f (xs:List Arm):∀y∈Z41 xs,y.leaves.length=4:=by intro y hy;simp only [Z41,List.mem_map] at hy;obtain ⟨x,_,rfl⟩:=hy;rfl
theorem Zgk (xs:List Arm):(flat (Z41 xs)).all AV.one=true:=Z6b fun y hy=>by simp only [Z41,List.mem_map] at hy;obtain ⟨x,_,rfl⟩:=hy;rfl
theorem Zty {xs:List Arm} (h:Z41 xs=[]):xs=[]:=by cases xs with|nil=>rfl|cons x r=>cases h
abbrev LedB:=Led
def Z20:List Int→Int→List Int
 | [],_=>[]
 | t::r,p=>if t≠0 then p::Z20 r (p+1) else Z20 r (p+1)
theorem Zpy {xs:List Int} {k:Nat} {t p:Int} {acc r:List Int} (h:xs[k]? = some t) (ha:acc++Z20 (xs.drop k) (p+k)=r) :
  (if t≠0 then acc++[p+k] else acc)++Z20 (xs.drop (k+1)) (p+((k+1:Nat):Int))=r:=by
 rw [Z7 h,Z20] at ha
 rw [show p+((k+1:Nat):Int)=p+k+1 by omega]
 split
 ·rename_i q;rw [if_pos q] at ha;rw [List.append_assoc];exact ha
 ·rename_i q;rw [if_neg q] at ha;exact ha
theorem Zm1 {xs:List Int} {k:Nat} {p:Int} {acc r:List Int} (h:xs.length≤k) (ha:acc++Z20 (xs.drop k) (p+k)=r):acc=r:=by
 rw [Zv h,Z20,List.append_nil] at ha;exact ha
theorem Zgs:∀(xs:List Int) (p:Int) (own:List Int),addF own p xs=(Z20 xs p).foldl (fun o f=>o.set f.toNat (gI o f+1)) own
 | [],_,_=>rfl
 | t::r,p,own=>by
  rw [addF,Z20]
  split
  ·rw [List.foldl_cons];exact Zgs r _ _
  ·exact Zgs r _ _
theorem Zgt:∀{xs:List Int} {p f:Int},f∈Z20 xs p→p≤f∧f<p+xs.length
 | [],_,_,h=>by simp [Z20] at h
 | t::r,p,f,h=>by
  rw [Z20] at h
  split at h
  ·rcases List.mem_cons.1 h with rfl|h
   ·simp only [List.length_cons];omega
   ·have:=Zgt h;simp only [List.length_cons];omega
  ·have:=Zgt h;simp only [List.length_cons];omega
theorem Z7h:∀(xs:List Int) (p:Int),(Z20 xs p).length≤xs.length
 | [],_=>by simp [Z20]
 | t::r,p=>by
  have:=Z7h r (p+1)
  rw [Z20];split<;>simp<;>omega
def ofF:List Arm→Int→Option Arm
 | [],_=>none
 | a::r,v=>match ofF r v with
  | some x=>some x
  | none=>if a.mat=v then some a else none
theorem Zq7 {a:Arm}:∀{as1:List Arm} {v:Int},ofF (as1++[a]) v=if a.mat=v then some a else ofF as1 v
 | [],v=>rfl
 | x::r,v=>by
  rw [List.cons_append,ofF,Zq7]
  by_cases h:a.mat=v
  ·rw [if_pos h,if_pos h]
  ·rw [if_neg h,if_neg h];rfl
theorem Zd1 {v:Int}:∀{as1:List Arm},(∀a∈as1,a.mat≠v)→ofF as1 v=none
 | [],_=>rfl
 | x::r,h=>by rw [ofF,Zd1 (fun a ha=>h a (List.mem_cons_of_mem _ ha))];exact if_neg (h x (List.mem_cons_self ..))
theorem Zot {v:Int} {a:Arm}:∀{as1:List Arm},ofF as1 v=some a→a∈as1∧a.mat=v
 | [],h=>by cases h
 | x::r,h=>by
  rw [ofF] at h
  cases hr:ofF r v with
  | some y=>rw [hr] at h;cases h;have:=Zot hr;exact ⟨List.mem_cons_of_mem _ this.1,this.2⟩
  | none=>
   rw [hr] at h
   simp only at h
   split at h
   ·cases h;exact ⟨List.mem_cons_self ..,by assumption⟩
   ·cases h
structure ArmR (ds:List Decl) (L:Led) (as1:List Arm):Prop where
 rng:∀a∈as1,0≤a.mat∧a.mat<a.fst∧a.fst+a.fds.length≤L.vars.length
 par:∀a∈as1,∀v:Int,a.fst≤v→v<a.fst+a.fds.length→gI L.par v=a.mat
 non:∀v:Int,0≤v→v<L.vars.length→0≤gI L.par v→∃a∈as1,a.fst≤v∧v<a.fst+a.fds.length
 off:∀v:Int,0≤v→v<L.vars.length→match ofF as1 v with
  | none=>gI L.con v<0
  | some a=>0≤gI L.con v∧a.fst=gI L.fst v∧a.fds=Z1 ds (gI L.con v)
theorem ArmR.same {ds:List Decl} {L M:Led} {as1:List Arm} (h:ArmR ds L as1) (h1:M.vars.length=L.vars.length) (h2:M.par=L.par) (h3:M.con=L.con) (h4:M.fst=L.fst):ArmR ds M as1:=by
 refine ⟨?_,?_,?_,?_⟩
 ·rw [h1];exact h.rng
 ·rw [h2];exact h.par
 ·rw [h1,h2];exact h.non
 ·rw [h1,h3,h4];exact h.off
theorem ArmR.grow {ds:List Decl} {L:Led} {as1:List Arm} {t o:Int} (h:ArmR ds L as1) (hl:LLen L):ArmR ds (L.grow t o (-1)) as1:=by
 obtain ⟨e1,e2,e3,e4,e5⟩:=hl
 have key:∀{xs:List Int} {y v:Int},xs.length=L.vars.length→0≤v→v<L.vars.length→gI (xs++[y]) v=gI xs v:=fun hx h0 h1=>Z5r om
 have kend:∀{xs:List Int} {y v:Int},xs.length=L.vars.length→v=(L.vars.length:Int)→gI (xs++[y]) v=y:=fun hx h1=>Zpw om
 have hlen:(L.grow t o (-1)).vars.length=L.vars.length+1:=by simp [Led.grow]
 refine ⟨fun a ha=>?_,fun a ha v h1 h2=>?_,fun v h0 h1 h2=>?_,fun v h0 h1=>?_⟩
 ·have:=h.rng a ha;omega
 ·have:=h.rng a ha
  show gI (L.par++[-1]) v=a.mat
  rw [key e2 om om];exact h.par a ha v h1 h2
 ·have h2':0≤gI (L.par++[-1]) v:=h2
  by_cases hv:v<L.vars.length
  ·rw [key e2 h0 hv] at h2';exact h.non v h0 hv h2'
  ·rw [kend e2 om] at h2';omega
 ·show match ofF as1 v with
   | none=>gI (L.con++[-1]) v<0
   | some a=>0≤gI (L.con++[-1]) v∧a.fst=gI (L.fst++[-1]) v∧a.fds=Z1 ds (gI (L.con++[-1]) v)
  by_cases hv:v<L.vars.length
  ·rw [key e3 h0 hv,key e4 h0 hv];exact h.off v h0 hv
  ·rw [Zd1 (fun a ha=>by have:=h.rng a ha;omega)]
   show gI (L.con++[-1]) v<0
   rw [kend e3 om];omega
theorem ArmR.arm {ds:List Decl} {L:Led} {as1:List Arm} {x c:Int} (h:ArmR ds L as1) (hl:LLen L) (hx:0≤x∧x<L.vars.length) (hc:0≤c) :
  ArmR ds (armL ds L x c) (as1++[⟨x,(L.vars.length:Nat),Z1 ds c,false⟩]):=by
 obtain ⟨e1,e2,e3,e4,e5⟩:=hl
 rw [armL,Zan]
 have hnew:∀{xs:List Int} {y v:Int},xs.length=L.vars.length→(L.vars.length:Int)≤v→v<L.vars.length+(Z1 ds c).length→gI (xs++List.replicate (Z1 ds c).length y) v=y:=fun hx h0 h1=>Zpx om
 have hold:∀{xs:List Int} {y v:Int},xs.length=L.vars.length→0≤v→v<L.vars.length→gI (xs++List.replicate (Z1 ds c).length y) v=gI xs v:=fun hx h0 h1=>Z5r om
 refine ⟨fun a ha=>?_,fun a ha v h1 h2=>?_,fun v h0 h1 h2=>?_,fun v h0 h1=>?_⟩
 ·simp only [List.length_append]
  rcases List.mem_append.1 ha with ha|ha
  ·have:=h.rng a ha;omega
  ·rw [List.mem_singleton.1 ha]
   show 0≤x∧x<(L.vars.length:Nat)∧(L.vars.length:Int)+((Z1 ds c).length:Nat)≤_
   omega
 ·show gI (L.par++List.replicate _ x) v=a.mat
  rcases List.mem_append.1 ha with ha|ha
  ·have:=h.rng a ha
   rw [hold e2 om om];exact h.par a ha v h1 h2
  ·rw [List.mem_singleton.1 ha] at h1 h2 ⊢
   exact hnew e2 h1 h2
 ·simp only [List.length_append] at h1
  have h2':0≤gI (L.par++List.replicate (Z1 ds c).length x) v:=h2
  by_cases hv:v<L.vars.length
  ·rw [hold e2 h0 hv] at h2'
   obtain ⟨a,ha,q⟩:=h.non v h0 hv h2'
   exact ⟨a,List.mem_append_left _ ha,q⟩
  ·exact ⟨_,List.mem_append_right _ (List.mem_singleton.2 rfl),by show (L.vars.length:Int)≤v;omega,by show v<(L.vars.length:Int)+(Z1 ds c).length;omega⟩
 ·simp only [List.length_append] at h1
  show match ofF (as1++[⟨x,(L.vars.length:Nat),Z1 ds c,false⟩]) v with
   | none=>gI (L.con.set x.toNat c++List.replicate (Z1 ds c).length (-1)) v<0
   | some a=>0≤gI (L.con.set x.toNat c++List.replicate (Z1 ds c).length (-1)) v∧a.fst=gI (L.fst.set x.toNat L.vars.length++List.replicate (Z1 ds c).length (-1)) v ∧
     a.fds=Z1 ds (gI (L.con.set x.toNat c++List.replicate (Z1 ds c).length (-1)) v)
  rw [Zq7]
  by_cases hv:v<L.vars.length
  ·rw [hold (by simp [e3]) h0 hv,hold (by simp [e4]) h0 hv]
   by_cases he:x=v
   ·rw [if_pos he]
    show 0≤gI (L.con.set x.toNat c) v∧(L.vars.length:Int)=gI (L.fst.set x.toNat L.vars.length) v∧Z1 ds c=Z1 ds (gI (L.con.set x.toNat c) v)
    rw [Z6l om om,Z6l om om]
    exact ⟨hc,rfl,rfl⟩
   ·rw [if_neg he,Z5k om,Z5k om];exact h.off v h0 hv
  ·rw [hnew (by simp [e3]) om om]
   rw [if_neg (by show ¬x=v;omega),Zd1 (fun a ha=>by have:=h.rng a ha;omega)]
   show (-1:Int)<0
   omega
theorem Zx9 {L:Led} {ln:List Int} {v:Int} {p:Int} (hv:0≤v∧v<L.vars.length) (hd:∀i:Int,0≤i→i<L.vars.length→gI L.par i<i) (h:¬(gI L.own v>0∨v∈ln)) (hp:gI L.par v=p) (h0:0≤p):Z1i L ln v=Z1i L ln p:=
 (Zpb (N:=L.vars.length) rfl hp hv ⟨by omega,fun q=>h (.inr q)⟩ om hd rfl).symm
theorem Zt5 {L:Led} {ln:List Int} {v:Int} (h:¬(gI L.own v>0∨v∈ln)) (hp:gI L.par v<0):Z1i L ln v=false:=
 (Zid rfl rfl ⟨by omega,fun q=>h (.inr q)⟩ hp rfl).symm
theorem Zt6 {L:Led} {ln:List Int} {v:Int} (h:gI L.own v>0∨v∈ln):Z1i L ln v=true:=
 (Zie rfl (fun q=>h.elim (fun z=>by omega) q.2) rfl).symm
end Go.Abs
namespace Go.Abs
def decL (L:Led) (v:Int):Led:={ L with own:=L.own.set v.toNat (gI L.own v-1) }
theorem Z5o {L:Led} {v:Int}:Z7o L v=if 1≤gI L.own v then some (decL L v) else none:=by
 rw [Z7o]
 by_cases h:gI L.own v<1
 ·rw [if_pos h,if_neg om]
 ·rw [if_neg h,if_pos om];rfl
end Go.Abs
namespace Go.Abs
def endM (L:Led) (r:Int):Led:=if gI L.vars r≠0 then decL L r else L
theorem Zpq {L:Led} {m:Nat} {r:Int} (ho:gI L.vars r≠0→1≤gI L.own r) (hz:Z34 ((endM L r).own.drop m) ((endM L r).tok.drop m)=true):endL m r L=some ((endM L r).take m):=by
 rw [endL]
 by_cases h:gI L.vars r≠0
 ·rw [if_pos h,Z5o,if_pos (ho h)]
  have e:endM L r=decL L r:=if_pos h
  rw [e] at hz ⊢
  exact if_pos hz
 ·rw [if_neg h]
  have e:endM L r=L:=if_neg h
  rw [e] at hz ⊢
  exact if_pos hz
theorem Zxq {L:Led} {m:Nat} {r:Int} (h:gI L.vars r≠0) (ho:¬1≤gI L.own r):endL m r L=none:=by
 rw [endL,if_pos h,Z5o,if_neg ho];rfl
theorem Zfl {L:Led} {m:Nat} {r:Int} (hz:Z34 ((endM L r).own.drop m) ((endM L r).tok.drop m)=false):endL m r L=none:=by
 rw [endL]
 by_cases h:gI L.vars r≠0
 ·rw [if_pos h,Z5o]
  have e:endM L r=decL L r:=if_pos h
  rw [e] at hz
  split
  ·exact if_neg (by rw [hz];simp)
  ·rfl
 ·rw [if_neg h]
  have e:endM L r=L:=if_neg h
  rw [e] at hz
  exact if_neg (by rw [hz];simp)
theorem Zdk {os ts:List Int} {k:Nat} {o t:Int} {r:Bool} (h1:os[k]? = some o) (h2:ts[k]? = some t) (h:o≠0∨0≤t) (hr:Z34 (os.drop k) (ts.drop k)=r):r=false:=by
 rw [Z7 h1,Z7 h2,Z34,if_pos h] at hr;exact hr.symm
theorem Zg4 {os ts:List Int} {k:Nat} {o t:Int} {r:Bool} (h1:os[k]? = some o) (h2:ts[k]? = some t) (h:¬(o≠0∨0≤t)) (hr:Z34 (os.drop k) (ts.drop k)=r):Z34 (os.drop (k+1)) (ts.drop (k+1))=r:=by
 rw [Z7 h1,Z7 h2,Z34,if_neg h] at hr;exact hr
theorem Znj {os ts:List Int} {k:Nat} {r:Bool} (h1:os.length≤k) (hr:Z34 (os.drop k) (ts.drop k)=r):r=true:=by
 rw [Zv h1] at hr;rw [←hr];simp [Z34]
end Go.Abs
namespace Go.Abs
def Zr8 (o:List Int) (fs:List Int):List Int:=fs.foldl (fun o f=>o.set f.toNat (gI o f+1)) o
theorem Zxe {p:Int} {xs own:List Int}:Zr8 own (Z20 xs p)=addF own p xs:=(Zgs xs p own).symm
theorem Zzz {fs o r:List Int} {k:Nat} {f x:Int} (h:fs[k]? = some f) (hx:gI o f=x) (hr:Zr8 o (fs.drop k)=r):Zr8 (o.set f.toNat (x+1)) (fs.drop (k+1))=r:=by
 rw [Z7 h,Zr8,List.foldl_cons,hx] at hr;exact hr
theorem Zph {fs o r:List Int} {k:Nat} (h:fs.length≤k) (hr:Zr8 o (fs.drop k)=r):o=r:=by
 rw [Zv h] at hr;exact hr
def cntL (n:Normal) (ln:List Int) (L:Led) (op v:Int):Option Led:=if op=14 then dupL L ln v else if op=15 then Z7o L v else Zay n.decls L op v
section
variable {n:Normal} {ln:List Int} {L:Led} {op v:Int} {am:List Arm} {a:Arm}
theorem Zxh (h:op=14) (ha:¬Z1i L ln v=true):cntL n ln L op v=none:=by rw [cntL,if_pos h,dupL,if_neg ha]
theorem Zxi (h:op=14) (ha:Z1i L ln v=true) {x:Int} (hx:gI L.own v=x):cntL n ln L op v=some { L with own:=L.own.set v.toNat (x+1) }:=by rw [cntL,if_pos h,dupL,if_pos ha,hx]
theorem Zto (h:op=15) (ht:1≤gI L.own v):cntL n ln L op v=some (decL L v):=by rw [cntL,if_neg om,if_pos h,Z5o,if_pos ht]
theorem Ztn (h:op=15) (ht:¬1≤gI L.own v):cntL n ln L op v=none:=by rw [cntL,if_neg om,if_pos h,Z5o,if_neg ht]
theorem Zpj (h1:¬op=14) (h2:¬op=15):cntL n ln L op v=Zay n.decls L op v:=by rw [cntL,if_neg h1,if_neg h2]
theorem Zj7 {ds:List Decl} (har:ArmR ds L am) (hv:0≤v∧v<L.vars.length) (ho:ofF am v=none):Zay ds L op v=none:=by
 have:=har.off v hv.1 hv.2
 rw [ho] at this
 rw [Zay,if_pos (.inl this)]
theorem Zyh {ds:List Decl} (har:ArmR ds L am) (hv:0≤v∧v<L.vars.length) (ho:ofF am v=some a) {xt:Int} (hxt:gI L.tok v=xt):Zay ds L op v=if ¬1≤gI L.own v∨(op=17∧xt≥0) then none else
  some { decL L v with own:=addF (decL L v).own a.fst a.fds,tok:=if op=17 then L.tok.set v.toNat a.fds.length else L.tok }:=by
 have:=har.off v hv.1 hv.2
 rw [ho] at this
 obtain ⟨h1,h2,h3⟩:=this
 have hcon:¬gI L.con v<0:=by omega
 rw [Zay,Z5o,hxt,←h2,←h3]
 by_cases ht:1≤gI L.own v
 ·rw [if_pos ht]
  by_cases h17:op=17∧xt≥0
  ·have c1:gI L.con v<0∨(op=17∧0≤xt):=.inr h17
   have c2:¬1≤gI L.own v∨(op=17∧xt≥0):=.inr h17
   rw [if_pos c1,if_pos c2]
  ·have c1:¬(gI L.con v<0∨(op=17∧0≤xt)):=fun q=>q.elim hcon h17
   have c2:¬(¬1≤gI L.own v∨(op=17∧xt≥0)):=fun q=>q.elim (fun z=>z ht) h17
   rw [if_neg c1,if_neg c2]
 ·rw [if_neg ht]
  have c2:¬1≤gI L.own v∨(op=17∧xt≥0):=.inl ht
  rw [if_pos c2]
  split<;>rfl
end
end Go.Abs
namespace Go.Abs
theorem Z02k {ds:List Decl} {L:Led} {q v:Int} (hk:LOk ds L q) (h1:1≤gI L.own v) (hv:0≤v∧v<L.vars.length):∀y∈(decL L v).own,0≤y∧y≤q:=by
 intro y hy
 rcases Z3a hy with hy|rfl
 ·exact ⟨hk.nn y hy,hk.bd y hy⟩
 ·obtain ⟨x,hx⟩:=Z9 (xs:=L.own) (j:=v.toNat) (by have:=hk.len.own;omega)
  have hg:=Z5e hx
  have:=hk.bd x (List.mem_of_getElem? hx)
  omega
end Go.Abs
end
section
namespace Go.Abs
def Z1d (n:Normal) (us:List Int) (op num:Int):List Int→Nat→List Int
 | [],_=>[]
 | a::r,i=>if Zav n us op num a i=true then (i:Int)::Z1d n us op num r (i+1) else Z1d n us op num r (i+1)
section
variable {n:Normal} {us:List Int} {op num:Int}
theorem Zs7 {args acc r:List Int} {k:Nat} {a:Int} (h:args[k]? = some a) (hc:Zav n us op num a k=true) (hr:acc++Z1d n us op num (args.drop k) k=r) :
  (acc++[(k:Int)])++Z1d n us op num (args.drop (k+1)) (k+1)=r:=by
 rw [Z7 h,Z1d,if_pos hc] at hr;rw [List.append_assoc];exact hr
theorem Zmr {args acc r:List Int} {k:Nat} {a:Int} (h:args[k]? = some a) (hc:¬Zav n us op num a k=true) (hr:acc++Z1d n us op num (args.drop k) k=r) :
  acc++Z1d n us op num (args.drop (k+1)) (k+1)=r:=by
 rw [Z7 h,Z1d,if_neg hc] at hr;exact hr
theorem Zs6 {args acc r:List Int} {k:Nat} (h:args.length≤k) (hr:acc++Z1d n us op num (args.drop k) k=r):acc=r:=by
 rw [Zv h,Z1d,List.append_nil] at hr;exact hr
theorem Zbq (h:¬Z2k op=true):∀(args:List Int) (i:Nat),Z1d n us op num args i=[]
 | [],_=>rfl
 | a::r,i=>by
  have hb:Z2k op=false:=by simpa using h
  rw [Z1d,if_neg (by rw [Zav,hb];simp)];exact Zbq h r (i+1)
theorem Ze8:∀{args:List Int} {i:Nat} {p:Int},p∈Z1d n us op num args i→(i:Int)≤p∧p<i+args.length
 | [],_,_,h=>by simp [Z1d] at h
 | a::r,i,p,h=>by
  rw [Z1d] at h
  simp only [List.length_cons]
  split at h
  ·rcases List.mem_cons.1 h with rfl|h
   ·omega
   ·have:=Ze8 h;omega
  ·have:=Ze8 h;omega
theorem Zja:∀(args:List Int) (i:Nat),(Z1d n us op num args i).length≤args.length
 | [],_=>by simp [Z1d]
 | a::r,i=>by
  have:=Zja r (i+1)
  rw [Z1d];split<;>simp<;>omega
theorem Zmh (h:¬Z2k op=true) (i:Nat):¬Z2g n op num i=true:=by
 have:op≠9:=fun q=>h (by rw [q];rfl)
 rw [Z2g,Zbo,if_neg this];simp
def Zlc (n:Normal) (op num:Int) (args:List Int) (k:Nat) (ls:List Int):Prop:=∀x,x∈ls↔∃i,i<k∧args[i]? = some x∧Z2g n op num i=true
theorem Zj1 {args ls:List Int} {k:Nat} (h:Zlc n op num args k ls) (hl:¬Z2g n op num k=true):Zlc n op num args (k+1) ls:=by
 intro x;rw [h x]
 constructor
 ·rintro ⟨i,q1,q2⟩;exact ⟨i,by omega,q2⟩
 ·rintro ⟨i,q1,q2,q3⟩
  rcases Nat.lt_or_ge i k with q|q
  ·exact ⟨i,q,q2,q3⟩
  ·have:i=k:=by omega
   subst this;exact absurd q3 hl
theorem Zv7 {args ls ls2:List Int} {k:Nat} {a:Int} (ha:args[k]? = some a) (h:Zlc n op num args k ls) (hl:Z2g n op num k=true) (h2:∀x,x∈ls2↔x∈ls∨x=a):Zlc n op num args (k+1) ls2:=by
 intro x;rw [h2 x,h x]
 constructor
 ·rintro (⟨i,q1,q2⟩|rfl)
  ·exact ⟨i,by omega,q2⟩
  ·exact ⟨k,by omega,ha,hl⟩
 ·rintro ⟨i,q1,q2,q3⟩
  rcases Nat.lt_or_ge i k with q|q
  ·exact .inl ⟨i,q,q2,q3⟩
  ·have:i=k:=by omega
   subst this;rw [ha] at q2;exact .inr (Option.some.inj q2).symm
theorem Zry {args:List Int}:Zlc n op num args 0 []:=by intro x;simp
theorem Zv8 {args ls:List Int} {k:Nat} (h:Zlc n op num args k ls) (hk:args.length≤k):∀x,x∈ls↔∃i,args[i]? = some x∧Z2g n op num i=true:=by
 intro x;rw [h x]
 constructor
 ·rintro ⟨i,_,q⟩;exact ⟨i,q⟩
 ·rintro ⟨i,q⟩;exact ⟨i,by have:=(List.getElem?_eq_some_iff.1 q.1).1;omega,q⟩
end
def Z82 (args:List Int):List Int→Led→Option Led
 | [],L=>some L
 | k::r,L=>match Z7o L (gI args k) with
  | none=>none
  | some L1=>Z82 args r L1
theorem Z8r {n:Normal} {op num:Int} {all:List Int}:∀{args:List Int} {i:Nat} {L:Led},all.drop i=args→Z3q n op num args i L=Z82 all (Z1d n L.vars op num args i) L
 | [],i,L,_=>rfl
 | a::r,i,L,h=>by
  have hr:all.drop (i+1)=r:=by rw [←List.drop_drop,h];rfl
  have ha:gI all (i:Int)=a:=by
   have:(all.drop i)[0]? = some a:=by rw [h];rfl
   rw [List.getElem?_drop] at this
   exact Z5e (by simpa using this)
  rw [Z3q,Z1d]
  split
  ·rw [Z82,ha]
   cases ht:Z7o L a with
   | none=>rfl
   | some L1=>
    simp only
    rw [Z8r hr,(Z37 ht).2.1]
  ·exact Z8r hr
theorem Zz1 {args ps:List Int} {k:Nat} {L:Led} {p x:Int} {r:Option Led} (h:ps[k]? = some p) (hx:gI args p=x) (ht:1≤gI L.own x) (hr:Z82 args (ps.drop k) L=r):Z82 args (ps.drop (k+1)) (decL L x)=r:=by
 rw [Z7 h,Z82,hx,Z5o,if_pos ht] at hr;exact hr
theorem Zsq {args ps:List Int} {k:Nat} {L:Led} {p x:Int} {r:Option Led} (h:ps[k]? = some p) (hx:gI args p=x) (ht:¬1≤gI L.own x) (hr:Z82 args (ps.drop k) L=r):r=none:=by
 rw [Z7 h,Z82,hx,Z5o,if_neg ht] at hr;exact hr.symm
theorem Zww {args ps:List Int} {k:Nat} {L:Led} {r:Option Led} (h:ps.length≤k) (hr:Z82 args (ps.drop k) L=r):r=some L:=by
 rw [Zv h,Z82] at hr;exact hr.symm
theorem Z72 {n:Normal} {op num:Int} {ln:List Int} {L:Led} {all:List Int}:∀{args:List Int} {i:Nat},all.drop i=args →
  (Z49 n op num ln L args i=true↔∀j x,i≤j→all[j]? = some x→Z2g n op num j=true→Z1i L ln x=true)
 | [],i,h=>by
  simp only [Z49,true_iff]
  intro j x hj hx _
  have:=(List.getElem?_eq_some_iff.1 hx).1
  have hl:=congrArg List.length h
  simp at hl;omega
 | a::r,i,h=>by
  have hr:all.drop (i+1)=r:=by rw [←List.drop_drop,h];rfl
  have ha:all[i]? = some a:=by
   have:(all.drop i)[0]? = some a:=by rw [h];rfl
   rw [List.getElem?_drop] at this;simpa using this
  rw [Z49]
  split
  ·rename_i q
   simp only [Bool.false_eq_true,false_iff]
   exact fun z=>q.2 (z i a (Nat.le_refl _) ha q.1)
  ·rename_i q
   rw [Z72 hr]
   constructor
   ·intro z j x hj hx hl
    rcases Nat.lt_or_ge i j with hij|hij
    ·exact z j x hij hx hl
    ·have:j=i:=by omega
     subst this;rw [ha] at hx;cases hx
     exact Classical.not_not.1 fun y=>q ⟨hl,y⟩
   ·exact fun z j x hj=>z j x om
theorem Zug {n:Normal} {ln:List Int} {L L1:Led} {op num into:Int} {args ls:List Int} (h1:Z82 args (Z1d n L.vars op num args 0) L=some L1) (hl:∀x,x∈ls↔∃i,args[i]? = some x∧Z2g n op num i=true) :
  ((∀x∈ls,Z1i L1 ln x=true)→Z7p n ln L op num into args=Z52 L1 into args.length)∧((∃x∈ls,¬Z1i L1 ln x=true)→Z7p n ln L op num into args=none):=by
 rw [Z7p,Z8r (all:=args) (args:=args) (i:=0) rfl,h1]
 simp only
 constructor
 ·intro h
  rw [if_pos ((Z72 (all:=args) (args:=args) (i:=0) rfl).2 fun j x _ hx hj=>h x ((hl x).2 ⟨j,hx,hj⟩))]
 ·rintro ⟨x,hx,hd⟩
  rw [if_neg]
  intro z
  obtain ⟨j,q1,q2⟩:=(hl x).1 hx
  exact hd ((Z72 (all:=args) (args:=args) (i:=0) rfl).1 z j x (Nat.zero_le _) q1 q2)
theorem Zuh {n:Normal} {ln:List Int} {L:Led} {op num into:Int} {args:List Int} (h1:Z82 args (Z1d n L.vars op num args 0) L=none):Z7p n ln L op num into args=none:=by
 rw [Z7p,Z8r (all:=args) (args:=args) (i:=0) rfl,h1]
end Go.Abs
namespace Go.Abs
theorem Z032 {n:Normal} (hn:NOk n) (num:Int):(sgI n num).lnt.length≤4194304:=by
 rw [sgI,List.getElem?_map]
 cases h:n.routines[num.toNat]? with
 | none=>simp
 | some r=>exact hn.lent r (List.mem_of_getElem? h)
theorem Zv6 {n:Normal} {op num:Int} {k:Nat}:Z2g n op num k=true↔(op=9∧(k:Int)∈(sgI n num).lnt):=by
 rw [Z2g,Zbo,decide_eq_true_iff]
 by_cases h:op=9
 ·rw [if_pos h,sgI,List.getElem?_map]
  cases n.routines[num.toNat]? with
  | none=>simp
  | some r=>simp [h,Z4]
 ·rw [if_neg h];simp [h]
end Go.Abs
namespace Go.Abs
theorem clS {xs:List Int} {p:List Int→Prop}:Zlb fun r h=>∃(vp vl:Value) (ls:List Int),r=.tup [oInt xs vp,oInt ls vl]∧h=[.tail vp 1,.tail vl 1]∧p ls:=by
 rintro _ _ ⟨vp,vl,ls,rfl,rfl,_⟩
 refine ⟨.tup fun y hy=>?_,by simp [Zg6]⟩
 simp only [List.mem_cons,List.not_mem_nil,or_false] at hy
 rcases hy with rfl|rfl
 ·exact .own (k:=1) (Zau _) (by simp)
 ·exact .own (k:=1) (Zau _) (by simp)
end Go.Abs
end
section
namespace Go.Abs
section
variable {n:Normal} {ln:List Int}
theorem Zui {L L':Led} {op num into q:Int} {args:List Int} {ds:List Decl} (hk:LOk ds L q) (h:Z7p n ln L op num into args=some L'):L'.vars=L.vars∧L'.par=L.par∧L'.con=L.con∧L'.fst=L.fst:=by
 rw [Z7p] at h
 cases ht:Z3q n op num args 0 L with
 | none=>rw [ht] at h;cases h
 | some L1=>
  rw [ht] at h
  obtain ⟨_,h1,h2,h3,h4,_⟩:=Z73 hk ht
  simp only at h
  split at h
  ·rw [Z52] at h
   split at h
   ·split at h
    ·cases h
    ·cases h;exact ⟨h1,h2,h3,h4⟩
   ·cases h;exact ⟨h1,h2,h3,h4⟩
  ·cases h
theorem Zmq {L L1:Led} {s:Step} {q:Int} {ds:List Decl} (hk:LOk ds L q) (h:Zaz n ln L s.op s.num s.into s.args (Z5s n ln L s.op s.num s.args s.kids)=some L1):L1.vars=L.vars∧L1.par=L.par∧L1.con=L.con∧L1.fst=L.fst:=by
 rw [Zaz] at h
 split at h
 ·obtain ⟨h1,h2,h3,h4,_⟩:=Zgj h;exact ⟨h1,h2,h3,h4⟩
 split at h
 ·obtain ⟨_,h1,h2,h3,h4,_⟩:=Z37 h;exact ⟨h1,h2,h3,h4⟩
 split at h
 ·obtain ⟨h1,h2,h3,h4,_⟩:=Ze7 h;exact ⟨h1,h2,h3,h4⟩
 split at h
 ·split at h
  ·cases h
  ·cases hks:s.kids with
   | nil=>rw [hks,Z5s] at h;cases h
   | cons b bs=>
    rw [hks,Z5s] at h
    unfold Zkg at h
    cases hb:Z2s n ln (kidL n.decls L s.op s.num s.args 0) L.vars.length b with
    | none=>rw [hb] at h;cases h
    | some one=>
     rw [hb] at h
     simp only at h
     split at h
     ·cases h;exact ⟨rfl,rfl,rfl,rfl⟩
     ·cases h
 ·exact Zui hk h
theorem Zl5 (hn:NOk n) {s:Step} {L L':Led} {q:Int} {am:List Arm} (hk:LOk n.decls L q) (hq:0≤q) (hty:0≤Z8 n L.vars s) (h:Z7n n ln L s=some L') (ha:ArmR n.decls L am):ArmR n.decls L' am:=by
 rw [Zfx] at h
 cases hp:Zaz n ln L s.op s.num s.into s.args (Z5s n ln L s.op s.num s.args s.kids) with
 | none=>rw [hp] at h;cases h
 | some L1=>
  rw [hp] at h
  obtain ⟨h1,h2,h3,h4⟩:=Zmq hk hp
  have hk1:=(Z7y hn hk hq (Z5d hty) hp).1
  have ha1:ArmR n.decls L1 am:=ha.same (by rw [h1]) h2 h3 h4
  rw [finL] at h
  split at h
  ·cases h;exact ha1.grow hk1.len
  ·cases h;exact ha1
theorem Zg0 (hn:NOk n) {am:List Arm}:∀{xs:List Step} {L L':Led} {q:Int} {vs:List Int},LOk n.decls L q→0≤q→ArmR n.decls L am→Z0x n xs L.vars=some vs→Z2y n ln L xs=some L' →
  LOk n.decls L' (q+4*ssz xs)∧L'.vars=vs∧ArmR n.decls L' am
 | [],L,L',q,vs,hk,hq,ha,ht,h=>by
  rw [Z2y] at h;rw [Z0x] at ht;cases h;cases ht
  exact ⟨by simpa [ssz] using hk,rfl,ha⟩
 | s::r,L,L',q,vs,hk,hq,ha,ht,h=>by
  rw [Z2y] at h
  cases hs:Z7n n ln L s with
  | none=>rw [hs] at h;cases h
  | some L1=>
   rw [hs] at h
   obtain ⟨g1,g2⟩:=Z67 ht
   obtain ⟨k1,k2⟩:=Zfy hn hk hq g1 hs
   have:=Zg0 hn (xs:=r) k1 (by have:=s.sz_pos;omega) (Zl5 hn hk hq g1 hs ha) (by rw [k2];exact g2) h
   refine ⟨?_,this.2⟩
   rw [show q+4*ssz (s::r)=q+4*s.sz+4*ssz r by rw [ssz];omega]
   exact this.1
end
end Go.Abs
namespace Go.Abs
def NLt (n:Normal):Prop:=∀r∈n.routines,∀i:Nat,(i:Int)∈r.lent→∃t,r.params[i]? = some t∧t≠0
theorem Zew {ps:List Int}:∀{ls:List Int} {prev:Option Int},Z43 ps ls prev=true→∀v∈ls,(0≤v∧v≤(ps.length:Int)-1)∧ps[v.toNat]?≠some 0
 | [],_,_,v,h=>by cases h
 | x::r,prev,h,v,hv=>by
  rw [Z43] at h
  split at h
  ·rename_i q
   rcases List.mem_cons.1 hv with rfl|hv
   ·exact ⟨q.1,q.2.1⟩
   ·exact Zew h v hv
  ·cases h
theorem Zh1:∀{rs:List Routine},Z54 rs=true→∀r∈rs,Z3d r.params r.lent=true
 | [],_,r,h=>by cases h
 | x::rs,h,r,hr=>by
  rw [Z54] at h
  split at h
  ·rcases List.mem_cons.1 hr with rfl|hr
   ·assumption
   ·exact Zh1 h r hr
  ·cases h
theorem Zkj {n:Normal} (h:Z0g n=true):NLt n:=by
 simp only [Z0g,Z2x,Bool.and_eq_true,decide_eq_true_eq] at h
 obtain ⟨_,_,h6⟩:=h
 intro r hr i hi
 obtain ⟨h1,h2⟩:=Zew (Zh1 h6 r hr) i hi
 obtain ⟨t,ht⟩:=Z9 (xs:=r.params) (j:=i) om
 refine ⟨t,ht,fun q=>h2 ?_⟩
 rw [Int.toNat_natCast,ht,q]
theorem Zg3 {us:List Int}:∀{args tys:List Int} {i:Nat} {a t:Int},Z29 us args tys=true→args[i]? = some a→tys[i]? = some t→atI us a=some t
 | [],_,i,a,t,_,h,_=>by simp at h
 | x::r,[],i,a,t,_,_,h=>by simp at h
 | x::r,y::ys,i,a,t,h,ha,ht=>by
  rw [Z29] at h
  split at h
  ·rename_i hq
   cases i with
   | zero=>simp at ha ht;subst ha;subst ht;exact hq
   | succ i=>exact Zg3 h (by simpa using ha) (by simpa using ht)
  ·cases h
theorem Zva {n:Normal} (hl:NLt n) {us:List Int} {s:Step} (h:0≤Z8 n us s):∀(i:Nat) (a:Int),s.args[i]? = some a→Z2g n s.op s.num i=true→gI us a≠0:=by
 intro i a ha hla
 rw [Z2g,Zbo,decide_eq_true_iff] at hla
 by_cases h9:s.op=9
 ·rw [if_pos h9] at hla
  have hn:=(Z5d h).num h9
  obtain ⟨r,hr⟩:=Z9 (xs:=n.routines) (j:=s.num.toNat) om
  rw [hr] at hla
  obtain ⟨t,ht,h0⟩:=hl r (List.mem_of_getElem? hr) i hla
  rw [Z3y] at h
  split at h
  ·omega
  rw [if_neg om,if_neg om,if_neg om,if_neg om,if_neg om,if_neg om,if_pos (.inl h9),Z2m,Z6y om hr] at h
  simp only [Z3b] at h
  rw [if_pos h9] at h
  split at h
  ·rename_i hty
   rw [Z1r] at hty
   have hq:atI us a=some t:=by
    first
    | exact Zg3 hty ha ht
    | exact Zg3 (Bool.and_eq_true_iff.1 hty).2 ha ht
    | exact Zg3 (Bool.and_eq_true_iff.1 hty).1 ha ht
   rw [Z5e (Z51 hq).2];exact h0
  ·omega
 ·rw [if_neg h9] at hla;cases hla
end Go.Abs
namespace Go.Abs
theorem Zyp {n:Normal} {us:List Int} {s:Step} (h:∀t∈us,0≤t) (h0:0≤Z8 n us s):∀t∈Z4w n us s,0≤t:=by
 rw [Z4w];split
 ·exact Zmm h fun t ht=>by rw [List.mem_singleton.1 ht];exact h0
 ·exact h
end Go.Abs
namespace Go.Abs
theorem clT {c:Bool} {ok:Int→Prop}:Zlb fun r h=>∃t:Int,r=.tup [.i t,.b c]∧h=[]∧ok t:=by
 rintro _ _ ⟨t,rfl,rfl,_⟩
 refine ⟨.tup fun y hy=>?_,by simp⟩
 simp only [List.mem_cons,List.not_mem_nil,or_false] at hy
 rcases hy with rfl|rfl<;>exact .val
section
variable {n:Normal} {ln:List Int} {L:Led} {s:Step}
theorem Zrl {op t:Int} {r:Option Led} (h:¬Z01 op=true):finL L op t r=r:=by
 cases r with
 | none=>rfl
 | some X=>exact if_neg h
theorem Zji {x:Int} (hc:Z0w s.op=true) (hx:gI s.args 0=x):Z7n n ln L s=cntL n ln L s.op x:=by
 have hop:14≤s.op∧s.op≤17:=by simpa [Z0w] using hc
 have hd:¬Z01 s.op=true:=by rw [Z01];simp;omega
 rw [Z1l,Zrl hd,cntL]
 by_cases h14:s.op=14
 ·rw [if_pos h14];exact Zvp h14 hx
 rw [if_neg h14]
 by_cases h15:s.op=15
 ·rw [if_pos h15];exact Zvq h15 hx
 rw [if_neg h15]
 exact Zqa om hx
theorem Zhj {L1:Led} {t:Int} (hP:Zbp n ln L s=some L1) (h0:0≤Z8 n L.vars s) (hnc:¬Z0w s.op=true) (ht:t=Z8 n L.vars s):Z7n n ln L s=some (L1.grow t (min t 1) (-1)):=by
 have hd:Z01 s.op=true:=by rw [Za6 h0];simpa using hnc
 rw [Z1l,hP]
 show (if Z01 s.op=true then _ else _)=_
 rw [if_pos hd,ht,show (if Z8 n L.vars s≠0 then (1:Int) else 0)=min (Z8 n L.vars s) 1 by split<;>omega]
theorem Zn7 (hP:Zbp n ln L s=none):Z7n n ln L s=none:=by rw [Z1l,hP];rfl
theorem Zkm (h1:¬Z0w s.op=true) (h2:¬(s.op=7∨s.op=8)):Zbp n ln L s=Z7p n ln L s.op s.num s.into s.args:=by
 have hop:¬(14≤s.op∧s.op≤17):=by simpa [Z0w] using h1
 rw [Zbp,Zaz,if_neg om,if_neg om,if_neg om,if_neg h2]
theorem Zvs (h1:¬Z0w s.op=true) (h2:¬(s.op=7∨s.op=8)) (h3:¬Z2k s.op=true) (h0:0≤Z8 n L.vars s):Zbp n ln L s=some L:=by
 rw [Zkm h1 h2,Z7p,Z8r (all:=s.args) (args:=s.args) (i:=0) rfl,Zbq h3]
 show (if Z49 n s.op s.num ln L s.args 0=true then Z52 L s.into s.args.length else none)=some L
 rw [if_pos ((Z72 (all:=s.args) (args:=s.args) (i:=0) rfl).2 fun j x _ _ hl=>absurd hl (Zmh h3 j)),Z52]
 have hi:¬0<s.into:=by
  intro hi
  rw [Z3y] at h0
  split at h0
  ·omega
  ·rename_i hq
   have hv:Z11 L.vars s.op s.into=true:=Classical.not_not.1 fun z=>hq (.inr (.inl z))
   rw [Z11,if_neg om] at hv
   split at hv
   ·rename_i h6;exact h3 (by rw [h6];rfl)
   ·cases hv
 rw [if_neg hi]
end
end Go.Abs
namespace Go.Abs
def Z5v (L:Led) (am:List Arm) (s:Step) (m:List Int):List Arm:=if s.op=8 then am++[⟨gI s.args 0,(L.vars.length:Nat),m,false⟩] else am
def Z9r (n:Normal) (L:Led) (s:Step) (k:Nat):Led:=if s.op=8 then { L with con:=L.con.set (gI s.args 0).toNat (gI (Zb n.decls s.num) k),fst:=L.fst.set (gI s.args 0).toNat L.vars.length } else L
theorem Z4n {n:Normal} {L:Led} {s:Step} {k:Nat}:(Z9r n L s k).vars=L.vars:=by rw [Z9r];split<;>rfl
theorem Z7a {n:Normal} {L:Led} {s:Step} {k:Nat}:(Z9r n L s k).own=L.own:=by rw [Z9r];split<;>rfl
theorem Z7b {n:Normal} {L:Led} {s:Step} {k:Nat}:(Z9r n L s k).tok=L.tok:=by rw [Z9r];split<;>rfl
theorem Zjh {n:Normal} {L:Led} {s:Step} {k:Nat} (h:LLen L):LLen (Z9r n L s k):=by rw [Z9r];split;exact h.arm;exact h
theorem Zhi {n:Normal} {L:Led} {s:Step} {k:Nat} {m:List Int} (hop:s.op=7∨s.op=8) (hm:(Zq n.decls s.op s.num)[k]? = some m):Z6r (Z9r n L s k) (gI s.args 0) m=kidL n.decls L s.op s.num s.args k:=by
 rw [Z9r,kidL]
 by_cases h8:s.op=8
 ·rw [if_pos h8,if_pos h8]
  obtain ⟨c,hc,rfl⟩:=Zzu h8 hm
  have hgc:gI (Zb n.decls s.num) (k:Int)=c:=by rw [gI];simp [hc]
  rw [armL,hgc]
 ·rw [if_neg h8,if_neg h8]
  rw [Zq,if_pos om] at hm
  have:m=[]:=by
   match k,hm with
   | 0,hm=>simpa using hm.symm
   | 1,hm=>simpa using hm.symm
   | k+2,hm=>simp at hm
  rw [this];rfl
theorem Zjp {n:Normal} {L:Led} {am:List Arm} {s:Step} {k:Nat} {m:List Int} (hn:NOk n) (ha:ArmR n.decls L am) (hl:LLen L) (hop:s.op=7∨s.op=8) (hx:0≤gI s.args 0∧gI s.args 0<L.vars.length) (hm:(Zq n.decls s.op s.num)[k]? = some m) :
  ArmR n.decls (kidL n.decls L s.op s.num s.args k) (Z5v L am s m):=by
 rw [Z5v,kidL]
 by_cases h8:s.op=8
 ·rw [if_pos h8,if_pos h8]
  obtain ⟨c,hc,rfl⟩:=Zzu h8 hm
  have hgc:gI (Zb n.decls s.num) (k:Int)=c:=by rw [gI];simp [hc]
  rw [hgc]
  exact ha.arm hl hx (Zls hn.decls hc).1
 ·rw [if_neg h8,if_neg h8];exact ha
end Go.Abs
namespace Go.Abs
theorem Zdd {n:Normal}:∀{xs:List Step} {us vs:List Int},Z0x n xs us=some vs→us.length≤vs.length∧vs.length≤us.length+ssz xs
 | [],us,vs,h=>by rw [Z0x] at h;cases h;simp [ssz]
 | s::r,us,vs,h=>by
  obtain ⟨_,g2⟩:=Z67 h
  have:=Zdd g2
  have h2:=Z8m n us s
  rw [ssz];omega
theorem Zll {L:Led} {am:List Arm} {s:Step} {m:List Int}:(Z5v L am s m).length≤am.length+1:=by rw [Z5v];split<;>simp
theorem Zt7 {n:Normal} (hty:NTy n) {op num:Int} {k:Nat} {m:List Int} (h:(Zq n.decls op num)[k]? = some m):∀f∈m,0≤f:=by
 by_cases h7:op=7
 ·rw [Zq,if_pos h7] at h
  have:m=[]:=by
   match k,h with
   | 0,h=>simpa using h.symm
   | 1,h=>simpa using h.symm
   | k+2,h=>simp at h
  rw [this];intro f hf;cases hf
 ·rw [Zq,if_neg h7,List.getElem?_map] at h
  cases hc:(Zb n.decls num)[k]? with
  | none=>rw [hc] at h;cases h
  | some c=>rw [hc] at h;cases h;exact hty.fields c
theorem Zfk {L:Led} {r:Int}:(endM L r).own.length=L.own.length∧(endM L r).tok.length=L.tok.length∧(endM L r).vars=L.vars:=by
 rw [endM];split
 ·exact ⟨List.length_set,rfl,rfl⟩
 ·exact ⟨rfl,rfl,rfl⟩
end Go.Abs
namespace Go.Abs
theorem Zg2 {L M:Led} {n:Normal} {ln:List Int} {xs:List Step} {f:Led→Option Led} (h:Z2y n ln L xs=some M):Zsr (Z2y n ln L xs) f=f M:=by rw [h];rfl
end Go.Abs
end
section
namespace Go.Abs
theorem Zni:∀{os ts:List Int} {m:Nat},os.length=ts.length→(Z34 os ts=true↔Z34 (os.take m) (ts.take m)=true∧Z34 (os.drop m) (ts.drop m)=true)
 | [],[],m,_=>by simp [Z34]
 | [],_::_,_,h=>by simp at h
 | _::_,[],_,h=>by simp at h
 | o::os,t::ts,0,h=>by simp [Z34]
 | o::os,t::ts,m+1,h=>by
  simp only [List.take_succ_cons,List.drop_succ_cons]
  rw [Z34,Z34]
  split
  ·simp
  ·exact Zni (by simpa using h)
theorem Zez {n:Normal} {r:Routine} {M:Led} (hP:Z2y n r.lent (newL r) r.body.steps=some M) (hl:M.own.length=M.tok.length):Z1g n r=(endL 0 r.body.result M).isSome:=by
 rw [Z1g,Z3s,hP]
 show (match endL r.params.length r.body.result M with|none=>false|some L=>(cutL L 0).isSome)=_
 rw [endL,endL]
 cases hT:(if gI M.vars r.body.result≠0 then Z7o M r.body.result else some M) with
 | none=>rfl
 | some M2=>
  have h2:M2.own.length=M2.tok.length:=by
   split at hT
   ·have:=Z37 hT;rw [this.2.2.2.2.2.1,this.2.2.2.2.2.2,List.length_set];exact hl
   ·cases hT;exact hl
  show (match cutL M2 r.params.length with|none=>false|some L=>(cutL L 0).isSome)=(cutL M2 0).isSome
  have key:=Zni (m:=r.params.length) h2
  rw [cutL,cutL]
  by_cases h1:Z34 (M2.own.drop r.params.length) (M2.tok.drop r.params.length)=true
  ·rw [if_pos h1]
   show (cutL (M2.take r.params.length) 0).isSome=_
   rw [cutL]
   by_cases h3:Z34 (M2.own.take r.params.length) (M2.tok.take r.params.length)=true
   ·rw [if_pos (show Z34 ((M2.take r.params.length).own.drop 0) ((M2.take r.params.length).tok.drop 0)=true from h3),if_pos (show Z34 (M2.own.drop 0) (M2.tok.drop 0)=true from key.2 ⟨h3,h1⟩)];rfl
   ·rw [if_neg (show ¬Z34 ((M2.take r.params.length).own.drop 0) ((M2.take r.params.length).tok.drop 0)=true from h3),if_neg (show ¬Z34 (M2.own.drop 0) (M2.tok.drop 0)=true from fun z=>h3 (key.1 z).1)]
  ·rw [if_neg h1,if_neg (show ¬Z34 (M2.own.drop 0) (M2.tok.drop 0)=true from fun z=>h1 (key.1 z).2)];rfl
theorem Zmv {n:Normal} {r:Routine} (hP:Z2y n r.lent (newL r) r.body.steps=none):Z1g n r=false:=by rw [Z1g,Z3s,hP];rfl
end Go.Abs
namespace Go.Abs
theorem Zks {xs:List Int} {k:Nat} {a b:Int} (h:xs.length=k):(xs++[a]).set k b=xs++[b]:=by subst h;simp
end Go.Abs
namespace Go.Abs
theorem Zxb {ds:List Decl}:ArmR ds ⟨[],[],[],[],[],[]⟩ []:=⟨fun a ha=>(nomatch ha),fun a ha=>(nomatch ha),fun v h0 h1=>(by have h2:v<((0:Nat):Int):=h1;omega),fun v h0 h1=>(by have h2:v<((0:Nat):Int):=h1;omega)⟩
theorem Zj9 {ds:List Decl} {lent:List Int}:∀{ps:List Int} {i:Nat} {L:Led},LLen L→ArmR ds L []→ArmR ds (Z45 lent ps i L) []
 | [],_,_,_,h=>h
 | t::r,i,L,hl,h=>by rw [Z45];exact Zj9 hl.grow (h.grow hl)
theorem Zkh {ds:List Decl} (rt:Routine):ArmR ds (newL rt) []:=Zj9 ⟨rfl,rfl,rfl,rfl,rfl⟩ Zxb
end Go.Abs
end
section
namespace Go.Abs
def szL (c:Nat) (left:Int):Int:=if left<c then -1 else left-c
theorem Zhk {a b:Nat} {left:Int} (h:0≤szL a left):szL b (szL a left)=szL (a+b) left:=by
 rw [szL] at h ⊢
 unfold szL at *
 split at h
 ·omega
 ·rename_i q;rw [if_neg q];split<;>split<;>omega
theorem Zhm {a b:Nat} {left:Int} (h:szL a left<0):szL (a+b) left=-1:=by
 unfold szL at *
 split at h
 ·rw [if_pos om]
 ·omega
theorem Zyy {left:Int} (h:0≤left):szL 0 left=left:=by unfold szL;rw [if_neg om];omega
theorem Zdf {c:Nat} {left:Int} (h:0≤left):-1≤szL c left∧szL c left≤left:=by unfold szL;split<;>omega
def conC (c:Con):Nat:=c.fields.length
def Za4:List Con→Nat
 | []=>0
 | c::r=>conC c+Za4 r
def Z6i (l:List Con):Nat:=l.length+Za4 l
def Z5i (d:Decl):Nat:=Z6i d.cons
def Z7f:List Decl→Nat
 | []=>0
 | d::r=>Z5i d+Z7f r
def Z31 (l:List Decl):Nat:=l.length+Z7f l
end Go.Abs
namespace Go.Abs
theorem Zdg {a b c:Nat} {left lf:Int} {r:Int} (hs:c=a+b) (h:¬szL a lf<0) (hr:szL c lf=r):szL b (szL a lf)=r:=by
 rw [Zhk om,←hs];exact hr
theorem Zhl {a b c:Nat} {lf r:Int} (hs:c=a+b) (h:szL a lf<0) (hr:szL c lf=r):-1=r:=by rw [hs,Zhm h] at hr;exact hr
theorem Zde {c:Nat} {lf r:Int} (hc:c=0) (h0:0≤lf) (hr:szL c lf=r):lf=r:=by rw [hc,Zyy h0] at hr;exact hr
theorem Zai {n s:Nat} {left:Int} (h:¬left-(n:Int)<0):szL s (left-(n:Int))=szL (n+s) left:=by
 have:szL n left=left-n:=by unfold szL;rw [if_neg om]
 rw [←this,Zhk (by rw [this];omega)]
theorem Zdh {n s:Nat} {left:Int} (h:left-(n:Int)<0):-1=szL (n+s) left:=by unfold szL;rw [if_pos om]
theorem Zik {cs:List Con} {k:Nat} {c:Con} (h:cs[k]? = some c):Za4 (cs.drop k)=conC c+Za4 (cs.drop (k+1)):=by rw [Z7 h,Za4]
theorem Ztr {cs:List Con} {k:Nat} (h:cs.length≤k):Za4 (cs.drop k)=0:=by rw [Zv h,Za4]
theorem Zjs {cs:List Con} {k:Nat} {c:Con} (h:cs[k]? = some c):conC c≤Za4 cs:=by
 induction cs generalizing k with
 | nil=>simp at h
 | cons d r ih=>
  cases k with
  | zero=>simp at h;subst h;rw [Za4];omega
  | succ k=>have:=ih (k:=k) (by simpa using h);rw [Za4];omega
theorem Zgi {cs:List Decl} {k:Nat} {c:Decl} (h:cs[k]? = some c):Z7f (cs.drop k)=Z5i c+Z7f (cs.drop (k+1)):=by rw [Z7 h,Z7f]
theorem Zre {cs:List Decl} {k:Nat} (h:cs.length≤k):Z7f (cs.drop k)=0:=by rw [Zv h,Z7f]
theorem Zfj {cs:List Decl} {k:Nat} {c:Decl} (h:cs[k]? = some c):Z5i c≤Z7f cs:=by
 induction cs generalizing k with
 | nil=>simp at h
 | cons d r ih=>
  cases k with
  | zero=>simp at h;subst h;rw [Z7f];omega
  | succ k=>have:=ih (k:=k) (by simpa using h);rw [Z7f];omega
end Go.Abs
namespace Go.Abs
mutual
def Step.cst:Step→Nat
 | .mk _ _ _ args kids=>args.length+(kids.length+bcs kids)
def Block.cst:Block→Nat
 | .mk steps _=>steps.length+scs steps
def scs:List Step→Nat
 | []=>0
 | s::r=>s.cst+scs r
def bcs:List Block→Nat
 | []=>0
 | b::r=>b.cst+bcs r
end
theorem Step.cst_eq (s:Step):s.cst=s.args.length+(s.kids.length+bcs s.kids):=by cases s;rw [Step.cst];rfl
theorem Block.cst_eq (b:Block):b.cst=b.steps.length+scs b.steps:=by cases b;rw [Block.cst];rfl
def bcsC (l:List Block):Nat:=l.length+bcs l
def scsC (l:List Step):Nat:=l.length+scs l
theorem Zpd {cs:List Block} {k:Nat} {c:Block} (h:cs[k]? = some c):bcs (cs.drop k)=c.cst+bcs (cs.drop (k+1)):=by rw [Z7 h,bcs]
theorem Zzx {cs:List Block} {k:Nat} (h:cs.length≤k):bcs (cs.drop k)=0:=by rw [Zv h,bcs]
theorem Zql {cs:List Step} {k:Nat} {c:Step} (h:cs[k]? = some c):scs (cs.drop k)=c.cst+scs (cs.drop (k+1)):=by rw [Z7 h,scs]
theorem Z019 {cs:List Step} {k:Nat} (h:cs.length≤k):scs (cs.drop k)=0:=by rw [Zv h,scs]
theorem Znw {cs:List Block} {k:Nat} {c:Block} (h:cs[k]? = some c):c.cst≤bcs cs:=by
 induction cs generalizing k with
 | nil=>simp at h
 | cons d r ih=>
  cases k with
  | zero=>simp at h;subst h;rw [bcs];omega
  | succ k=>have:=ih (k:=k) (by simpa using h);rw [bcs];omega
theorem Zoz {cs:List Step} {k:Nat} {c:Step} (h:cs[k]? = some c):c.cst≤scs cs:=by
 induction cs generalizing k with
 | nil=>simp at h
 | cons d r ih=>
  cases k with
  | zero=>simp at h;subst h;rw [scs];omega
  | succ k=>have:=ih (k:=k) (by simpa using h);rw [scs];omega
end Go.Abs
namespace Go.Abs
def rtC (r:Routine):Nat:=r.params.length+(r.lent.length+r.body.cst)
def rtsS:List Routine→Nat
 | []=>0
 | r::rs=>rtC r+rtsS rs
def rtsC (l:List Routine):Nat:=l.length+rtsS l
def Z4m (n:Normal):Nat:=Z31 n.decls+rtsC n.routines
theorem Zmx {cs:List Routine} {k:Nat} {c:Routine} (h:cs[k]? = some c):rtsS (cs.drop k)=rtC c+rtsS (cs.drop (k+1)):=by rw [Z7 h,rtsS]
theorem Zyn {cs:List Routine} {k:Nat} (h:cs.length≤k):rtsS (cs.drop k)=0:=by rw [Zv h,rtsS]
theorem Zqh {cs:List Routine} {k:Nat} {c:Routine} (h:cs[k]? = some c):rtC c≤rtsS cs:=by
 induction cs generalizing k with
 | nil=>simp at h
 | cons d r ih=>
  cases k with
  | zero=>simp at h;subst h;rw [rtsS];omega
  | succ k=>have:=ih (k:=k) (by simpa using h);rw [rtsS];omega
theorem Zp4 {a b:Nat} {left:Int} (h:¬szL a left<0):szL b (szL a left)=szL (a+b) left:=Zhk om
theorem Zwt {c:Nat} {left:Int} (h:szL c left<0):-1=szL c left:=by unfold szL at *;split at h<;>first|rfl|omega
end Go.Abs
end
section
namespace Go.Abs
def cntS (op v:Int):Step:=.mk op 0 0 [v] []
def Zbf (am:List Arm) (v:Int):Arm:=(ofF am v).getD ⟨0,0,[],false⟩
def Z8y (ds:List Decl) (num:Int) (k:Nat):List Int:=((Zb ds num).map (Z1 ds))[k]?.getD []
def Zbg (ds:List Decl) (am:List Arm) (m:Nat) (op num:Int) (args:List Int) (k:Nat):List Arm:=if op=8 then am++[⟨gI args 0,(m:Int),Z8y ds num k,false⟩] else am
def lenX (ds:List Decl) (m:Nat) (op num:Int) (k:Nat):Nat:=if op=8 then m+(Z8y ds num k).length else m
mutual
def expS (ds:List Decl) (am:List Arm) (m:Nat):Step→List Step
 | .mk op num _ args kids=>if op=16∨op=17 then (Z20 (Zbf am (gI args 0)).fds (Zbf am (gI args 0)).fst).map (cntS 14)++[cntS 15 (gI args 0)] else [.mk op num 0 args (Z8w ds am m op num args kids 0)]
def Z8w (ds:List Decl) (am:List Arm) (m:Nat) (op num:Int) (args:List Int):List Block→Nat→List Block
 | [],_=>[]
 | b::r,k=>expB ds (Zbg ds am m op num args k) (lenX ds m op num k) b::Z8w ds am m op num args r (k+1)
def Z8x (ds:List Decl) (am:List Arm) (m:Nat):List Step→List Step
 | []=>[]
 | s::r=>expS ds am m s++Z8x ds am (if Z0w s.op=true then m else m+1) r
def expB (ds:List Decl) (am:List Arm) (m:Nat):Block→Block
 | .mk steps result=>.mk (Z8x ds am m steps) result
end
theorem Zjz (ds:List Decl) (am:List Arm) (m:Nat) (s:Step):expS ds am m s=if s.op=16∨s.op=17 then (Z20 (Zbf am (gI s.args 0)).fds (Zbf am (gI s.args 0)).fst).map (cntS 14)++[cntS 15 (gI s.args 0)] else
  [.mk s.op s.num 0 s.args (Z8w ds am m s.op s.num s.args s.kids 0)]:=by cases s;rw [expS];rfl
theorem Zoa (ds:List Decl) (am:List Arm) (m:Nat) (b:Block):expB ds am m b=.mk (Z8x ds am m b.steps) b.result:=by cases b;rw [expB];rfl
section
variable {ds:List Decl} {am:List Arm} {m:Nat}
theorem Zpu {xs:List Step} {acc r:List Step} {k:Nat} {s:Step} (h:xs[k]? = some s) (ho:s.op=16∨s.op=17) (ha:acc++Z8x ds am m (xs.drop k)=r) :
  (acc++(Z20 (Zbf am (gI s.args 0)).fds (Zbf am (gI s.args 0)).fst).map (cntS 14)++[cntS 15 (gI s.args 0)])++Z8x ds am m (xs.drop (k+1))=r:=by
 rw [Z7 h,Z8x,Zjz,if_pos ho,if_pos (by rw [Z0w];simp;omega)] at ha
 rw [←ha];simp
theorem Zub {xs:List Step} {acc r:List Step} {k:Nat} {s:Step} (h:xs[k]? = some s) (ho:¬(s.op=16∨s.op=17)) (ha:acc++Z8x ds am m (xs.drop k)=r) :
  (acc++[.mk s.op s.num 0 s.args (Z8w ds am m s.op s.num s.args s.kids 0)])++Z8x ds am (if Z0w s.op=true then m else m+1) (xs.drop (k+1))=r:=by
 rw [Z7 h,Z8x,Zjz,if_neg ho] at ha
 rw [←ha];simp
theorem Z00d {xs:List Step} {acc r:List Step} {k:Nat} (h:xs.length≤k) (ha:acc++Z8x ds am m (xs.drop k)=r):acc=r:=by
 rw [Zv h,Z8x,List.append_nil] at ha;exact ha
theorem Zoc {op num:Int} {args:List Int} {bs acc r:List Block} {k:Nat} {b:Block} (h:bs[k]? = some b) (ha:acc++Z8w ds am m op num args (bs.drop k) k=r) :
  (acc++[expB ds (Zbg ds am m op num args k) (lenX ds m op num k) b])++Z8w ds am m op num args (bs.drop (k+1)) (k+1)=r:=by
 rw [Z7 h,Z8w] at ha
 rw [←ha];simp
theorem Zxu {op num:Int} {args:List Int} {bs acc r:List Block} {k j:Nat} (h:bs.length≤k) (ha:acc++Z8w ds am m op num args (bs.drop k) j=r):acc=r:=by
 rw [Zv h,Z8w,List.append_nil] at ha;exact ha
end
theorem Z8z {ds:List Decl} {num:Int} {k:Nat} {m:List Int} (h:((Zb ds num).map (Z1 ds))[k]? = some m):Z8y ds num k=m:=by rw [Z8y,h];rfl
theorem Zod {ds:List Decl} (hd:DOk ds) (num:Int) (k:Nat):(Z8y ds num k).length≤3:=by
 rw [Z8y,List.getElem?_map]
 cases (Zb ds num)[k]? with
 | none=>simp
 | some c=>exact Z0u hd c
theorem Zzg {α β:Type} {f:α→β} {xs:List α} {k:Nat} {x:α} {acc r:List β} (h:xs[k]? = some x) (ha:acc++(xs.drop k).map f=r):(acc++[f x])++(xs.drop (k+1)).map f=r:=by
 rw [Z7 h] at ha;rw [←ha];simp
theorem Zvd {α β:Type} {f:α→β} {xs:List α} {k:Nat} {acc r:List β} (h:xs.length≤k) (ha:acc++(xs.drop k).map f=r):acc=r:=by
 rw [Zv h] at ha;simpa using ha
theorem Zcg (xs ys:List HStep):erSs (xs++ys)=erSs xs++erSs ys:=by simp [Zfn]
theorem Zjw (xs ys:List HBlock):erBs (xs++ys)=erBs xs++erBs ys:=by simp [Zfm]
theorem Zch (x:HStep):erSs [x]=[x.er]:=by simp [Zfn]
theorem Zjx (x:HBlock):erBs [x]=[x.er]:=by simp [Zfm]
def ASm (am:List Arm) (m:Nat):Prop:=∀a∈am,a.fds.length≤3∧0≤a.fst∧a.fst≤m
theorem ASm.at {am:List Arm} {m:Nat} (h:ASm am m) {v:Int} {a:Arm} (ha:ofF am v=some a):a.fds.length≤3∧0≤a.fst∧a.fst≤m:=h a (Zot ha).1
theorem ASm.le {am:List Arm} {m k:Nat} (h:ASm am m) (hk:m≤k):ASm am k:=fun a ha=>by have:=h a ha;omega
theorem ASm.x {ds:List Decl} (hd:DOk ds) {am:List Arm} {m k:Nat} (h:ASm am m) (op num:Int) (args:List Int):ASm (Zbg ds am m op num args k) (lenX ds m op num k):=by
 rw [Zbg,lenX]
 split
 ·intro a ha
  rcases List.mem_append.1 ha with ha|ha
  ·have:=h a ha;omega
  ·rw [List.mem_singleton.1 ha]
   have:=Zod hd num k
   show (Z8y ds num k).length≤3∧0≤(m:Int)∧(m:Int)≤((m+(Z8y ds num k).length:Nat):Int)
   omega
 ·exact h
theorem Zpr (op v:Int) (u kv:Value):(HStep.mk op 0 0 [v] u [] kv).er=cntS op v:=by rw [HStep.er,erBs];rfl
theorem Zqr {xs:List Step} {k:Nat} {s:Step} (h:xs[k]? = some s):ssz (xs.take (k+1))=ssz (xs.take k)+s.sz:=by
 induction xs generalizing k with
 | nil=>simp at h
 | cons t r ih=>
  cases k with
  | zero=>simp at h;subst h;simp [ssz]
  | succ k=>rw [List.take_succ_cons,List.take_succ_cons,ssz,ssz,ih (by simpa using h)];omega
theorem Zhh (xs:List Step) (k:Nat):ssz (xs.take k)≤ssz xs:=by
 induction xs generalizing k with
 | nil=>simp
 | cons t r ih=>
  cases k with
  | zero=>simp [ssz]
  | succ k=>have:=ih k;rw [List.take_succ_cons,ssz,ssz];omega
theorem Z4u {n:Normal} {us:List Int} {s:Step} (g:0≤Z8 n us s) (h:Z0w s.op=true):Z4w n us s=us:=by rw [Z4w,Za6 g,h];rfl
theorem Z6o {n:Normal} {us:List Int} {s:Step} (g:0≤Z8 n us s) (h:¬Z0w s.op=true):(Z4w n us s).length=us.length+1:=by
 rw [Z4w,Za6 g,Bool.eq_false_iff.2 h];simp
theorem Zyo {n:Normal} {us:List Int} {s:Step} (g:0≤Z8 n us s):(Z4w n us s).length=if Z0w s.op=true then us.length else us.length+1:=by
 split
 ·rw [Z4u g (by assumption)]
 ·exact Z6o g (by assumption)
theorem Zol {n:Normal} {us:List Int} {s:Step} (g:0≤Z8 n us s) (h:0<s.kids.length):s.op=7∨s.op=8:=by
 rw [Z3y] at g
 split at g
 ·omega
 ·rename_i q
  exact Classical.byContradiction fun z=>q (.inr (.inr ⟨h,fun e=>z (.inl e),fun e=>z (.inr e)⟩))
theorem Zzt {ds:List Decl} {op num:Int} {k:Nat} {m:List Int} (h7:op=7) (h:(Zq ds op num)[k]? = some m):m=[]:=by
 rw [Zq,if_pos h7] at h
 match k,h with
 | 0,h=>simpa using h.symm
 | 1,h=>simpa using h.symm
 | k+2,h=>simp at h
theorem ASm.snoc {am:List Arm} {q:Nat} (h:ASm am q) {x:Int} {fs:List Int} (hl:fs.length≤3):ASm (am++[⟨x,(q:Int),fs,false⟩]) (q+fs.length):=by
 intro a ha
 rcases List.mem_append.1 ha with ha|ha
 ·have:=h a ha;omega
 ·rw [List.mem_singleton.1 ha]
  show fs.length≤3∧0≤(q:Int)∧(q:Int)≤((q+fs.length:Nat):Int)
  omega
end Go.Abs
end
section
namespace Go.Abs
theorem Z4r (ys:List HDecl):(flat (Z18 ys)).length=ys.length*3:=by rw [Z1q _ (Zbk _)];simp
theorem Zdw (ys:List HCon):(flat (Z2l ys)).length=ys.length:=by rw [Z1q _ (Zds _)];simp
theorem Zly (ys:List Decl):(flat (Zt ys)).length=ys.length*3:=by rw [Z1q _ (Z76 _)];simp
theorem Zud (ys:List Con):(flat (Z1f ys)).length=ys.length:=by rw [Z1q _ (Zcb _)];simp
theorem Zrn {ds:List Decl} {k:Nat} {d:Decl} (h:ds[k]? = some d):flat (Zt (ds.drop k))=Z2i d++flat (Zt (ds.drop (k+1))):=by rw [Z7 h];rfl
theorem Zrm {ds:List Con} {k:Nat} {d:Con} (h:ds[k]? = some d):flat (Z1f (ds.drop k))=lCon d++flat (Z1f (ds.drop (k+1))):=by rw [Z7 h];rfl
theorem Zjb {ys:List HDecl} {ds:List Decl} {k:Nat} {d:Decl} (h:ds[k]? = some d):flat (Z18 ys++Zt (ds.drop k))=flat (Z18 ys)++(Z2i d++flat (Zt (ds.drop (k+1)))):=by
 rw [Z4f,Zrn h]
theorem Zsa {ys:List HCon} {ds:List Con} {k:Nat} {d:Con} (h:ds[k]? = some d):flat (Z2l ys++Z1f (ds.drop k))=flat (Z2l ys)++(lCon d++flat (Z1f (ds.drop (k+1)))):=by
 rw [Z4f,Zrm h]
theorem Zqf {ys:List HDecl} {ds:List Decl} {k:Nat} (h:ys.length=k) (hk:k≤ds.length):(flat (Z18 ys++Zt (ds.drop k))).length=ds.length*3:=by
 rw [Z4f,List.length_append,Z4r,Zly,List.length_drop];omega
theorem Zqe {ys:List HCon} {ds:List Con} {k:Nat} (h:ys.length=k) (hk:k≤ds.length):(flat (Z2l ys++Z1f (ds.drop k))).length=ds.length*1:=by
 rw [Z4f,List.length_append,Zdw,Zud,List.length_drop];omega
theorem Zvz {ys:List HDecl} {ds:List Decl} {k:Nat} {f t:Int} {zs:List HCon} {u:Value}:flat (Z18 ys)++([.i f,.i t,Zfb zs u]++flat (Zt (ds.drop (k+1))))=flat (Z18 (ys++[HDecl.mk f t zs u])++Zt (ds.drop (k+1))):=by
 rw [Zb4,Z4f,Z4f,List.append_assoc];rfl
theorem Zvy {ys:List HCon} {ds:List Con} {k:Nat} {xs:List Int} {u:Value}:flat (Z2l ys)++([oInt xs u]++flat (Z1f (ds.drop (k+1))))=flat (Z2l (ys++[HCon.mk xs u])++Z1f (ds.drop (k+1))):=by
 rw [Zcc,Z4f,Z4f,List.append_assoc];rfl
theorem Zyk {ys:List HDecl} {ds:List Decl} {k:Nat} (h:ds.length≤k):flat (Z18 ys++Zt (ds.drop k))=flat (Z18 ys):=by rw [Zv h];simp [Zt]
theorem Zyj {ys:List HCon} {ds:List Con} {k:Nat} (h:ds.length≤k):flat (Z2l ys++Z1f (ds.drop k))=flat (Z2l ys):=by rw [Zv h];simp [Z1f]
theorem Zyl {A B:List AV} {x y z x':AV} {o:Nat} (hA:A.length=o):(A++([x,y,z]++B)).take (o+2)++[x']++(A++([x,y,z]++B)).drop (o+2+1)=A++([x,y,x']++B):=by
 have h:=Zaa (A:=A++[x,y]) (xs:=[z]) (ys:=[x']) (B:=B) (o:=o+2) (by simp [hA]) rfl
 simpa using h
theorem Zov {A B:List AV} {x y z:AV} {o:Nat} (hA:A.length=o):((A++([x,y,z]++B)).drop (o+2)).take 1=[z]:=by
 have h:=Zw1 (A:=A++[x,y]) (xs:=[z]) (B:=B) (o:=o+2) (by simp [hA])
 simpa using h
theorem Zmw {A B:List AV} {x y z x':AV} {o:Nat} (hA:A.length=o):(A++([x,y,z]++B)).set (o+2) x'=A++([x,y,x']++B):=by
 subst hA
 rw [List.set_append_right _ _ om]
 simp
theorem Zsx {f t:Int} {zs:List HCon} {u:Value} {cs:List Con} (h:zs.map HCon.er=cs):[HDecl.mk f t zs u].map HDecl.er=[Decl.mk f t cs]:=by
 rw [←h];rfl
theorem HBlock.eta (y:HBlock):HBlock.mk y.steps y.sv y.result=y:=by cases y;rfl
theorem Z00v {xs:List HRoutine} {rs:List Routine} {g:Routine→Routine} {k:Nat} {r:Routine} {R:HRoutine} (h:xs.map HRoutine.er=(rs.take k).map g) (hr:rs[k]? = some r) (hy:R.er=g r) :
  (xs++[R]).map HRoutine.er=(rs.take (k+1)).map g:=by
 rw [List.map_append,h,Z1z hr,List.map_append,List.map_cons,hy];rfl
end Go.Abs
end
section
namespace Go.Abs
theorem Zdc:∀(xs ys:List Step),ssz (xs++ys)=ssz xs+ssz ys
 | [],ys=>by simp [ssz]
 | x::r,ys=>by rw [List.cons_append,ssz,ssz,Zdc r ys];omega
theorem Zo0 (op v:Int):(cntS op v).sz=2:=by rw [cntS,Step.sz];simp [bsz]
theorem Zl4 (op:Int):∀l:List Int,ssz (l.map (cntS op))=2*l.length
 | []=>by simp [ssz]
 | x::r=>by rw [List.map_cons,ssz,Zo0,Zl4 op r,List.length_cons];omega
section
variable {ds:List Decl} (hd:DOk ds)
include hd
mutual
theorem Z00c:∀(s:Step) {am:List Arm} {m:Nat},ASm am m→ssz (expS ds am m s)≤8*s.sz
 | .mk op num into args kids,am,m,h=>by
  rw [expS,Step.sz]
  split
  ·have h1:=Z7h (Zbf am (gI args 0)).fds (Zbf am (gI args 0)).fst
   have h2:(Zbf am (gI args 0)).fds.length≤3:=by
    rw [Zbf]
    cases ho:ofF am (gI args 0) with
    | none=>simp
    | some a=>exact (h.at ho).1
   rw [Zdc,Zl4,ssz,ssz,Zo0]
   omega
  ·have:=Zps kids (op:=op) (num:=num) (args:=args) (k:=0) h
   rw [ssz,ssz,Step.sz]
   omega
theorem Zps:∀(bs:List Block) {am:List Arm} {m:Nat} {op num:Int} {args:List Int} {k:Nat},ASm am m→bsz (Z8w ds am m op num args bs k)≤8*bsz bs
 | [],_,_,_,_,_,_,_=>by rw [Z8w,bsz];omega
 | b::r,am,m,op,num,args,k,h=>by
  have h1:=Zob b (h.x hd (k:=k) op num args)
  have h2:=Zps r (op:=op) (num:=num) (args:=args) (k:=k+1) h
  rw [Z8w,bsz,bsz]
  omega
theorem Zpt:∀(xs:List Step) {am:List Arm} {m:Nat},ASm am m→ssz (Z8x ds am m xs)≤8*ssz xs
 | [],_,_,_=>by rw [Z8x,ssz];omega
 | s::r,am,m,h=>by
  have h1:=Z00c s h
  have h2:=Zpt r (am:=am) (m:=if Z0w s.op=true then m else m+1) (h.le (by split<;>omega))
  rw [Z8x,Zdc,ssz]
  omega
theorem Zob:∀(b:Block) {am:List Arm} {m:Nat},ASm am m→(expB ds am m b).sz≤8*b.sz
 | .mk steps result,am,m,h=>by
  have h1:=Zpt steps h
  rw [expB,Block.sz,Block.sz]
  omega
end
end
def expR (ds:List Decl) (r:Routine):Routine:=⟨r.params,r.lent,r.result,expB ds [] r.params.length r.body⟩
def expN (n:Normal):Normal:=⟨n.decls,n.routines.map (expR n.decls)⟩
def Za7:List Routine→Bool
 | []=>true
 | r::rs=>if Z1y r.body<0 then false else Za7 rs
def Zdv (n:Normal):Bool:=Za7 n.routines
def noN:Normal:=⟨[],[]⟩
def Z0b (n:Normal):Normal × Bool:=if Z1u n=true then (if Zdv (expN n)=true then (expN n,true) else (noN,false)) else (noN,false)
theorem Zt9 (m:Nat):ASm [] m:=fun a ha=>by cases ha
theorem Zua {n:Normal} (hn:NOk n) (hz:NSz n):∀r∈(expN n).routines,r.body.sz≤1000000000:=by
 intro r hr
 obtain ⟨q,hq,rfl⟩:=List.mem_map.1 hr
 have h1:=Zob hn.decls q.body (Zt9 q.params.length)
 have h2:=hz.body q hq
 show (expB n.decls [] q.params.length q.body).sz≤1000000000
 omega
theorem Z69 {n:Normal} (hz:NSz n) (h:Z1u n=true):NOk n∧Z0g n=true∧∀r∈n.routines,0≤Zc n r.params r.body:=by
 rw [Z1u,Bool.and_eq_true] at h
 obtain ⟨h1,h2⟩:=Z68 hz h.1
 rw [Z0z,Bool.and_eq_true] at h
 exact ⟨h1,h.1.1,h2⟩
end Go.Abs
end
section
namespace Go.Abs
def Z2c (n:Nat):List Int:=(List.range n).map Int.ofNat
theorem Zs2 (n:Nat):Z2c (n+1)=Z2c n++[(n:Int)]:=by simp [Z2c,List.range_succ]
theorem Z3e (n:Nat):(Z2c n).length=n:=by simp [Z2c]
theorem Zq5 (n:Nat):∀f∈Z2c n,0≤f∧f≤n:=by
 intro f hf
 simp only [Z2c,List.mem_map,List.mem_range] at hf
 obtain ⟨a,ha,rfl⟩:=hf
 show 0≤(a:Int)∧(a:Int)≤n
 omega
def conK (ds:List Decl) (num:Int) (k:Nat):Int:=gI (Zb ds num) k
def conX (ds:List Decl) (cons:List Int) (op num:Int) (args:List Int) (k:Nat):List Int:=if op=8 then cons.set (gI args 0).toNat (conK ds num k)++Z2c (Z1 ds (conK ds num k)).length else cons
def fstX (ds:List Decl) (m:Nat) (first:List Int) (op num:Int) (args:List Int) (k:Nat):List Int:=if op=8 then first.set (gI args 0).toNat m++Z2c (Z1 ds (conK ds num k)).length else first
def spcC (ds:List Decl) (cons first:List Int) (s:Step):List Step:=
 if s.op=14∨s.op=15 then [s] else (Z20 (Z1 ds (gI cons (gI s.args 0))) (gI first (gI s.args 0))).map (cntS 14)++[cntS 15 (gI s.args 0)]
mutual
def spcS (ds:List Decl) (cons first:List Int):Step→List Step
 | .mk op num into args kids=>if Z0w op=true then spcC ds cons first (.mk op num into args kids) else [.mk op num 0 args (Z9u ds cons first op num args kids 0)]
def Z9u (ds:List Decl) (cons first:List Int) (op num:Int) (args:List Int):List Block→Nat→List Block
 | [],_=>[]
 | b::r,k=>spcB ds (conX ds cons op num args k) (fstX ds cons.length first op num args k) b::Z9u ds cons first op num args r (k+1)
def Z9b (ds:List Decl) (cons first:List Int):List Step→List Step
 | []=>[]
 | s::r=>spcS ds cons first s++Z9b ds (if Z0w s.op=true then cons else cons++[0]) (if Z0w s.op=true then first else first++[0]) r
def spcB (ds:List Decl) (cons first:List Int):Block→Block
 | .mk steps result=>.mk (Z9b ds cons first steps) result
end
theorem Zkx (ds:List Decl) (cons first:List Int) (s:Step):spcS ds cons first s=if Z0w s.op=true then spcC ds cons first s else [.mk s.op s.num 0 s.args (Z9u ds cons first s.op s.num s.args s.kids 0)]:=by cases s;rw [spcS];rfl
theorem Zkw (ds:List Decl) (cons first:List Int) (b:Block):spcB ds cons first b=.mk (Z9b ds cons first b.steps) b.result:=by cases b;rw [spcB];rfl
section
variable {ds:List Decl} {cons first:List Int}
theorem Zwg {xs acc r:List Step} {k:Nat} {s:Step} (h:xs[k]? = some s) (ho:Z0w s.op=true) (ha:acc++Z9b ds cons first (xs.drop k)=r) :
  (acc++spcC ds cons first s)++Z9b ds cons first (xs.drop (k+1))=r:=by
 rw [Z7 h,Z9b,Zkx,if_pos ho,if_pos ho,if_pos ho] at ha
 rw [←ha];simp
theorem Zwh {xs acc r:List Step} {k:Nat} {s:Step} (h:xs[k]? = some s) (ho:¬Z0w s.op=true) (ha:acc++Z9b ds cons first (xs.drop k)=r) :
  (acc++[.mk s.op s.num 0 s.args (Z9u ds cons first s.op s.num s.args s.kids 0)])++Z9b ds (cons++[0]) (first++[0]) (xs.drop (k+1))=r:=by
 rw [Z7 h,Z9b,Zkx,if_neg ho,if_neg ho,if_neg ho] at ha
 rw [←ha];simp
theorem Z01j {xs acc r:List Step} {k:Nat} (h:xs.length≤k) (ha:acc++Z9b ds cons first (xs.drop k)=r):acc=r:=by
 rw [Zv h,Z9b,List.append_nil] at ha;exact ha
theorem Zwe {op num:Int} {args:List Int} {bs acc r:List Block} {k:Nat} {b:Block} (h:bs[k]? = some b) (ha:acc++Z9u ds cons first op num args (bs.drop k) k=r) :
  (acc++[spcB ds (conX ds cons op num args k) (fstX ds cons.length first op num args k) b])++Z9u ds cons first op num args (bs.drop (k+1)) (k+1)=r:=by
 rw [Z7 h,Z9u] at ha
 rw [←ha];simp
theorem Zys {op num:Int} {args:List Int} {bs acc r:List Block} {k j:Nat} (h:bs.length≤k) (ha:acc++Z9u ds cons first op num args (bs.drop k) j=r):acc=r:=by
 rw [Zv h,Z9u,List.append_nil] at ha;exact ha
end
def FSm (first:List Int):Prop:=∀f∈first,0≤f∧f≤1000000000
theorem FSm.at {first:List Int} (h:FSm first) (v:Int):0≤gI first v∧gI first v≤1000000000:=by
 rw [gI]
 cases hq:first[v.toNat]? with
 | none=>simp
 | some x=>exact h x (List.mem_of_getElem? hq)
theorem FSm.snoc {first:List Int} (h:FSm first):FSm (first++[0]):=by
 intro f hf
 rcases List.mem_append.1 hf with hf|hf
 ·exact h f hf
 ·rw [List.mem_singleton.1 hf];omega
theorem FSm.x {first:List Int} (h:FSm first) {x m k:Nat} (hm:m≤1000000000) (hk:k≤1000000000):FSm (first.set x (m:Int)++Z2c k):=by
 intro f hf
 rcases List.mem_append.1 hf with hf|hf
 ·rcases Z3a hf with hf|rfl
  ·exact h f hf
  ·omega
 ·have:=Zq5 k f hf;omega
def spcR (ds:List Decl) (r:Routine):Routine:=⟨r.params,r.lent,r.result,spcB ds (Z2c r.params.length) (Z2c r.params.length) r.body⟩
def spcN (n:Normal):Normal:=⟨n.decls,n.routines.map (spcR n.decls)⟩
def Z4v (n:Normal):Normal × Bool:=if Z1u n=true then (if Zdv (spcN n)=true then (spcN n,true) else (noN,false)) else (noN,false)
section
variable {ds:List Decl} (hd:DOk ds)
include hd
theorem Zwd (cons first:List Int) (s:Step):ssz (spcC ds cons first s)≤8*s.sz:=by
 have:=s.sz_pos
 rw [spcC]
 split
 ·rw [ssz,ssz];omega
 ·have h1:=Z7h (Z1 ds (gI cons (gI s.args 0))) (gI first (gI s.args 0))
  have h2:=Z0u hd (gI cons (gI s.args 0))
  rw [Zdc,Zl4,ssz,ssz,Zo0]
  omega
mutual
theorem Z01i:∀(s:Step) {cons first:List Int},ssz (spcS ds cons first s)≤8*s.sz
 | .mk op num into args kids,cons,first=>by
  rw [spcS]
  split
  ·exact Zwd hd cons first _
  ·have:=Zqp kids (cons:=cons) (first:=first) (op:=op) (num:=num) (args:=args) (k:=0)
   rw [ssz,ssz,Step.sz,Step.sz]
   omega
theorem Zqp:∀(bs:List Block) {cons first:List Int} {op num:Int} {args:List Int} {k:Nat},bsz (Z9u ds cons first op num args bs k)≤8*bsz bs
 | [],_,_,_,_,_,_=>by rw [Z9u,bsz];omega
 | b::r,cons,first,op,num,args,k=>by
  have h1:=Zwc b (cons:=conX ds cons op num args k) (first:=fstX ds cons.length first op num args k)
  have h2:=Zqp r (cons:=cons) (first:=first) (op:=op) (num:=num) (args:=args) (k:=k+1)
  rw [Z9u,bsz,bsz]
  omega
theorem Zqq:∀(xs:List Step) {cons first:List Int},ssz (Z9b ds cons first xs)≤8*ssz xs
 | [],_,_=>by rw [Z9b,ssz];omega
 | s::r,cons,first=>by
  have h1:=Z01i s (cons:=cons) (first:=first)
  have h2:=Zqq r (cons:=if Z0w s.op=true then cons else cons++[0]) (first:=if Z0w s.op=true then first else first++[0])
  rw [Z9b,Zdc,ssz]
  omega
theorem Zwc:∀(b:Block) {cons first:List Int},(spcB ds cons first b).sz≤8*b.sz
 | .mk steps result,cons,first=>by
  have h1:=Zqq steps (cons:=cons) (first:=first)
  rw [spcB,Block.sz,Block.sz]
  omega
end
end
theorem Zwf {n:Normal} (hn:NOk n) (hz:NSz n):∀r∈(spcN n).routines,r.body.sz≤1000000000:=by
 intro r hr
 obtain ⟨q,hq,rfl⟩:=List.mem_map.1 hr
 have h1:=Zwc hn.decls q.body (cons:=Z2c q.params.length) (first:=Z2c q.params.length)
 have h2:=hz.body q hq
 show (spcB n.decls (Z2c q.params.length) (Z2c q.params.length) q.body).sz≤1000000000
 omega
end Go.Abs
end
section
namespace Go.Abs
theorem Zje {one:Led} {two:Option Led} {r:Bool} (h:Zsj one two r=true):(∃O,two=some O)∧r=true:=by
 unfold Zsj at h
 split at h
 ·cases h
 ·rename_i O
  split at h
  ·exact ⟨⟨O,rfl⟩,h⟩
  ·cases h
section
variable {n:Normal} {ln:List Int} {L:Led}
theorem Zmb {op num:Int} {args:List Int} {one:Led}:∀{bs:List Block} {i:Nat},Zax n ln L op num args one bs i=true→∀(j:Nat) (b:Block),bs[j]? = some b→∃O,Z2s n ln (kidL n.decls L op num args (i+j)) L.vars.length b=some O
 | [],_,_,j,b,hb=>by simp at hb
 | x::r,i,h,0,b,hb=>by
  rw [Zax] at h
  simp at hb
  subst hb
  exact (Zje h).1
 | x::r,i,h,j+1,b,hb=>by
  rw [Zax] at h
  have:=Zmb (Zje h).2 j b (by simpa using hb)
  rw [show i+(j+1)=i+1+j by omega]
  exact this
theorem Zws {s:Step} {L1:Led} (h:Z7n n ln L s=some L1) (hop:s.op=7∨s.op=8):∀(j:Nat) (b:Block),s.kids[j]? = some b→∃M,Z2y n ln (kidL n.decls L s.op s.num s.args j) b.steps=some M:=by
 intro j b hb
 have key:∃O,Z2s n ln (kidL n.decls L s.op s.num s.args j) L.vars.length b=some O:=by
  rw [Z1l,Zvr hop] at h
  cases hc:Z5z n ln L s with
  | none=>rw [hc] at h;cases h
  | some L2=>
   rw [Z5z] at hc
   split at hc
   ·cases hc
   ·cases hk:s.kids with
    | nil=>rw [hk] at hb;simp at hb
    | cons x r=>
     rw [hk,Z5s] at hc
     unfold Zkg at hc
     cases h0:Z2s n ln (kidL n.decls L s.op s.num s.args 0) L.vars.length x with
     | none=>rw [h0] at hc;cases hc
     | some one=>
      rw [h0] at hc
      simp only at hc
      split at hc
      ·rename_i hks
       rw [hk] at hb
       cases j with
       | zero=>simp at hb;subst hb;exact ⟨one,h0⟩
       | succ j=>
        have:=Zmb hks j b (by simpa using hb)
        rw [show j+1=1+j by omega]
        exact this
      ·cases hc
 obtain ⟨O,hO⟩:=key
 rw [Z3s] at hO
 obtain ⟨M,hM,_⟩:=Z7c hO
 exact ⟨M,hM⟩
theorem Zso {s:Step} {L1:Led} {q:Int} (hk:LOk n.decls L q) (h:Z7n n ln L s=some L1):if Z01 s.op=true then L1.con=L.con++[-1]∧L1.fst=L.fst++[-1] else L1.con=L.con∧L1.fst=L.fst:=by
 rw [Zfx] at h
 cases hp:Zaz n ln L s.op s.num s.into s.args (Z5s n ln L s.op s.num s.args s.kids) with
 | none=>rw [hp] at h;cases h
 | some L2=>
  rw [hp] at h
  obtain ⟨h1,h2,h3,h4⟩:=Zmq hk hp
  rw [finL] at h
  split
  ·rename_i hd
   rw [if_pos hd] at h
   cases h
   exact ⟨by rw [←h3];rfl,by rw [←h4];rfl⟩
  ·rename_i hd
   rw [if_neg hd] at h
   cases h
   exact ⟨h3,h4⟩
end
theorem Zuw {n:Normal} {us:List Int} {s:Step} (g:0≤Z8 n us s) (h:s.op≠6):s.into=0:=by
 rw [Z3y] at g
 split at g
 ·omega
 ·rename_i q
  have hv:Z11 us s.op s.into=true:=Classical.not_not.1 fun z=>q (.inr (.inl z))
  rw [Z11] at hv
  split at hv
  ·assumption
  ·cases hv
theorem Zzi {n:Normal} {us:List Int} {s:Step} (g:0≤Z8 n us s) (h:¬(s.op=7∨s.op=8)):s.kids=[]:=by
 cases hk:s.kids with
 | nil=>rfl
 | cons b r=>exact absurd (Zol g (by rw [hk];simp)) h
structure CR (L:Led) (cons first:List Int):Prop where
 cl:cons.length=L.vars.length
 fl:first.length=L.vars.length
 eq:∀v:Int,0≤v→v<L.vars.length→0≤gI L.con v→gI cons v=gI L.con v∧gI first v=gI L.fst v
theorem CR.same {L L1:Led} {cons first:List Int} (h:CR L cons first) (h0:L1.vars.length=L.vars.length) (h1:L1.con=L.con) (h2:L1.fst=L.fst):CR L1 cons first:=
 ⟨h.cl.trans h0.symm,h.fl.trans h0.symm,by rw [h0,h1,h2];exact h.eq⟩
theorem CR.grow {L L1:Led} {cons first:List Int} {x y:Int} (h:CR L cons first) (hl:LLen L) (h0:L1.vars.length=L.vars.length+1) (h1:L1.con=L.con++[-1]) (h2:L1.fst=L.fst++[-1]):CR L1 (cons++[x]) (first++[y]):=by
 obtain ⟨e1,e2,e3,e4,e5⟩:=hl
 have hcl:=h.cl
 have hfl:=h.fl
 refine ⟨by simp;omega,by simp;omega,fun v hv1 hv2 hv3=>?_⟩
 rw [h1] at hv3 ⊢
 rw [h2]
 by_cases hlt:v<L.vars.length
 ·rw [Z5r om] at hv3
  rw [Z5r om,Z5r om,Z5r om,Z5r om]
  exact h.eq v hv1 hlt hv3
 ·rw [Zpw om] at hv3
  omega
theorem CR.arm {ds:List Decl} {L:Led} {cons first:List Int} {x c:Int} (h:CR L cons first) (hl:LLen L) (hx:0≤x∧x<L.vars.length) :
  CR (armL ds L x c) (cons.set x.toNat c++Z2c (Z1 ds c).length) (first.set x.toNat (cons.length:Nat)++Z2c (Z1 ds c).length):=by
 obtain ⟨e1,e2,e3,e4,e5⟩:=hl
 have hcl:=h.cl
 have hfl:=h.fl
 rw [armL,Zan]
 refine ⟨by simp [Z3e];omega,by simp [Z3e];omega,fun v hv1 hv2 hv3=>?_⟩
 have hv2:v<((L.vars++Z1 ds c).length:Nat):=hv2
 rw [List.length_append] at hv2
 have hv3:0≤gI (L.con.set x.toNat c++List.replicate (Z1 ds c).length (-1)) v:=hv3
 show gI (cons.set x.toNat c++_) v=gI (L.con.set x.toNat c++List.replicate (Z1 ds c).length (-1)) v∧gI (first.set x.toNat (cons.length:Nat)++_) v=gI (L.fst.set x.toNat L.vars.length++List.replicate (Z1 ds c).length (-1)) v
 by_cases hlt:v<L.vars.length
 ·rw [Z5r (by rw [List.length_set];omega)] at hv3
  rw [Z5r (by rw [List.length_set];omega),Z5r (by rw [List.length_set];omega),Z5r (by rw [List.length_set];omega),Z5r (by rw [List.length_set];omega)]
  by_cases he:v=x
  ·subst he
   rw [Z6l rfl om,Z6l rfl om,Z6l rfl om,Z6l rfl om,hcl]
   exact ⟨rfl,rfl⟩
  ·rw [Z5k om] at hv3
   rw [Z5k om,Z5k om,Z5k om,Z5k om]
   exact h.eq v hv1 hlt hv3
 ·rw [Zpx (by rw [List.length_set];omega)] at hv3
  omega
theorem Zvo {n:Normal} {ln:List Int} {L L1:Led} {am:List Arm} {s:Step} {x:Int} (hop:s.op=16∨s.op=17) (hx:gI s.args 0=x) (har:ArmR n.decls L am) (hv:0≤x∧x<L.vars.length) (h:Z7n n ln L s=some L1) :
  ∃a,ofF am x=some a:=by
 cases ho:ofF am x with
 | some a=>exact ⟨a,rfl⟩
 | none=>
  rw [Z1l,Zqa hop hx,Zj7 har hv ho] at h
  cases h
theorem Zer {ds:List Decl} {op num:Int} {k:Nat} {m:List Int} (h8:op=8) (h:(Zq ds op num)[k]? = some m):Z8y ds num k=m:=by
 rw [Zq,if_neg om] at h
 exact Z8z h
theorem Zky (n:Normal) (hn:NOk n) (ln:List Int):∀(k:Nat) (xs:List Step) (L L':Led) (q:Int) (am:List Arm) (cons first vs:List Int),ssz xs<k→LOk n.decls L q→0≤q→ArmR n.decls L am→CR L cons first →
  Z0x n xs L.vars=some vs→Z2y n ln L xs=some L'→Z9b n.decls cons first xs=Z8x n.decls am L.vars.length xs
 | 0,_,_,_,_,_,_,_,_,h,_,_,_,_,_,_=>by omega
 | k+1,[],_,_,_,_,_,_,_,_,_,_,_,_,_,_=>by rw [Z9b,Z8x]
 | k+1,s::r,L,L',q,am,cons,first,vs,hsz,hk,hq,har,hcr,hty,hst=>by
  obtain ⟨g1,g2⟩:=Z67 hty
  rw [Z2y] at hst
  obtain ⟨L1,h1,h2⟩:=Z7c hst
  obtain ⟨j1,j2⟩:=Zfy hn hk hq g1 h1
  have har1:=Zl5 hn hk hq g1 h1 har
  have hss:=Zso hk h1
  have hf:=Z5d g1
  have hlen:=hk.len
  have hsp:=s.sz_pos
  rw [ssz] at hsz
  have hdc:=Za6 g1
  rw [Z9b,Z8x]
  by_cases hc:Z0w s.op=true
  ·rw [hc] at hdc
   rw [hdc] at hss
   obtain ⟨s1,s2⟩:=hss
   have hv:L1.vars=L.vars:=by rw [j2,Z4u g1 hc]
   have ih:=Zky n hn ln k r L1 L' (q+4*s.sz) am cons first vs om j1 om har1 (hcr.same (by rw [hv]) s1 s2) (by rw [j2];exact g2) h2
   rw [if_pos hc,if_pos hc,if_pos hc,ih,hv]
   congr 1
   have hop:14≤s.op∧s.op≤17:=by simpa [Z0w] using hc
   rw [Zkx,if_pos hc,Zjz,spcC]
   by_cases h14:s.op=14∨s.op=15
   ·rw [if_pos h14,if_neg om]
    have hki:=Zzi g1 om
    have hin:=Zuw g1 om
    rw [hki,Z8w]
    cases s with
    | mk a b c d e=>
     have hki:e=[]:=hki
     have hin:c=0:=hin
     subst hki;subst hin
     rfl
   ·rw [if_neg h14,if_pos om]
    obtain ⟨a0,ha0⟩:=hf.one om
    have hb:=hf.args a0 (by rw [ha0];simp)
    have hg:gI s.args 0=a0:=by rw [ha0];rfl
    obtain ⟨a,ho⟩:=Zvo om hg har hb h1
    have hoff:=har.off a0 hb.1 hb.2
    rw [ho] at hoff
    obtain ⟨q1,q2,q3⟩:=hoff
    obtain ⟨c1,c2⟩:=hcr.eq a0 hb.1 hb.2 q1
    rw [hg,c1,c2,←q2,←q3,Zbf,ho]
    rfl
  ·have hdc:Z01 s.op=true:=by rw [hdc,Bool.eq_false_iff.2 hc];rfl
   rw [if_pos hdc] at hss
   obtain ⟨s1,s2⟩:=hss
   have hv:L1.vars.length=L.vars.length+1:=by rw [j2,Z6o g1 hc]
   have ih:=Zky n hn ln k r L1 L' (q+4*s.sz) am (cons++[0]) (first++[0]) vs om j1 om har1 (hcr.grow hlen hv s1 s2) (by rw [j2];exact g2) h2
   rw [if_neg hc,if_neg hc,if_neg hc,ih,hv]
   congr 1
   have hop:¬(14≤s.op∧s.op≤17):=by simpa [Z0w] using hc
   rw [Zkx,if_neg hc,Zjz,if_neg om]
   congr 2
   by_cases h78:s.op=7∨s.op=8
   ·obtain ⟨f1,f2,f3⟩:=hf.kids h78
    obtain ⟨a0,ha0⟩:=hf.one om
    have hb:=hf.args a0 (by rw [ha0];simp)
    have hg:gI s.args 0=a0:=by rw [ha0];rfl
    have key:∀(bs:List Block) (j:Nat),(∀(i:Nat) (b:Block),bs[i]? = some b→s.kids[j+i]? = some b)→Z9u n.decls cons first s.op s.num s.args bs j=Z8w n.decls am L.vars.length s.op s.num s.args bs j:=by
     intro bs
     induction bs with
     | nil=>intro j _;rw [Z9u,Z8w]
     | cons b bs ihb=>
      intro j hj
      have hbj:=hj 0 b rfl
      rw [Nat.add_zero] at hbj
      rw [Z9u,Z8w,ihb (j+1) fun i b' hb'=>by
       have:=hj (i+1) b' (by simpa using hb')
       rwa [show j+(i+1)=j+1+i by omega] at this]
      congr 1
      obtain ⟨mk,hmk⟩:=Z9 (xs:=Zq n.decls s.op s.num) (j:=j) (by have:=(List.getElem?_eq_some_iff.1 hbj).1;omega)
      obtain ⟨M,hM⟩:=Zws h1 h78 j b hbj
      obtain ⟨k1,k2⟩:=Zbn hk hq hf h78 hmk
      have hka:=Zjp hn har hlen h78 (by rw [hg];exact hb) hmk
      have hbt:=f3 j b mk hbj hmk
      obtain ⟨ws,t0,hws,_,_⟩:=Z4i hbt
      have hbs:=Z9i hbj
      have hbe:=b.sz_eq
      rw [Zkw,Zoa]
      have hcx:CR (kidL n.decls L s.op s.num s.args j) (conX n.decls cons s.op s.num s.args j) (fstX n.decls cons.length first s.op s.num s.args j):=by
       rw [kidL,conX,fstX,hg]
       by_cases h8:s.op=8
       ·rw [if_pos h8,if_pos h8,if_pos h8]
        exact hcr.arm hlen hb
       ·rw [if_neg h8,if_neg h8,if_neg h8]
        exact hcr
      have hax:Zbg n.decls am L.vars.length s.op s.num s.args j=Z5v L am s mk:=by
       rw [Zbg,Z5v]
       by_cases h8:s.op=8
       ·rw [if_pos h8,if_pos h8,Zer h8 hmk]
       ·rw [if_neg h8,if_neg h8]
      have hlx:lenX n.decls L.vars.length s.op s.num j=(kidL n.decls L s.op s.num s.args j).vars.length:=by
       rw [k2,List.length_append,lenX]
       by_cases h8:s.op=8
       ·rw [if_pos h8,Zer h8 hmk]
       ·rw [if_neg h8,Zzt om hmk];rfl
      rw [hax,hlx,Zky n hn ln k b.steps (kidL n.decls L s.op s.num s.args j) M q (Z5v L am s mk) _ _ ws om k1 hq hka hcx (by rw [k2];exact hws) hM]
    exact key s.kids 0 fun i b hb=>by rwa [Nat.zero_add]
   ·rw [Zzi g1 h78,Z9u,Z8w]
theorem Zvi (r:Routine):∀v:Int,gI (newL r).con v≤0∧(0≤v→v<(newL r).vars.length→gI (newL r).con v<0):=by
 have key:∀(ps:List Int) (i:Nat) (L:Led),(∀x∈L.con,x=-1)→L.con.length=L.vars.length→(∀x∈(Z45 r.lent ps i L).con,x=-1)∧(Z45 r.lent ps i L).con.length=(Z45 r.lent ps i L).vars.length:=by
  intro ps
  induction ps with
  | nil=>intro i L h1 h2;rw [Z45];exact ⟨h1,h2⟩
  | cons t ps ih=>
   intro i L h1 h2
   rw [Z45]
   refine ih _ _ (fun x hx=>?_) ?_
   ·have hx:x∈L.con++[-1]:=by
     first
     | exact hx
     | (split at hx<;>exact hx)
    rcases List.mem_append.1 hx with hx|hx
    ·exact h1 x hx
    ·exact List.mem_singleton.1 hx
   ·first
    | (show (L.con++[-1]).length=(L.vars++[t]).length;simp [h2])
    | (split<;>(show (L.con++[-1]).length=(L.vars++[t]).length;simp [h2]))
 obtain ⟨k1,k2⟩:=key r.params 0 ⟨[],[],[],[],[],[]⟩ (by simp) rfl
 intro v
 have hk1:∀x∈(newL r).con,x=-1:=k1
 have hk2:(newL r).con.length=(newL r).vars.length:=k2
 constructor
 ·rw [gI]
  cases hq:(newL r).con[v.toNat]? with
  | none=>simp
  | some x=>have:=hk1 x (List.mem_of_getElem? hq);simp;omega
 ·intro h0 hlt
  obtain ⟨x,hx⟩:=Z9 (xs:=(newL r).con) (j:=v.toNat) om
  rw [Z5e hx]
  have:=hk1 x (List.mem_of_getElem? hx)
  omega
theorem Zkq {n:Normal} {r:Routine} (h:Z1g n r=true):∃M,Z2y n r.lent (newL r) r.body.steps=some M:=by
 rw [Z1g] at h
 cases hb:Z2s n r.lent (newL r) r.params.length r.body with
 | none=>rw [hb] at h;cases h
 | some O=>
  rw [Z3s] at hb
  obtain ⟨M,hM,_⟩:=Z7c hb
  exact ⟨M,hM⟩
theorem Z9y {n:Normal}:∀{rs:List Routine},Z2j n rs=true→∀r∈rs,Z1g n r=true
 | [],_,r,h=>by cases h
 | x::rs,h,r,hr=>by
  rw [Z2j] at h
  split at h
  ·rcases List.mem_cons.1 hr with rfl|hr
   ·assumption
   ·exact Z9y h r hr
  ·cases h
theorem Z01h {n:Normal} (hz:NSz n) (hB:Z1u n=true):spcN n=expN n:=by
 obtain ⟨hn,hsg,hbt⟩:=Z69 hz hB
 rw [Z1u,Bool.and_eq_true] at hB
 rw [spcN,expN]
 congr 1
 refine List.map_congr_left fun r hr=>?_
 obtain ⟨M,hM⟩:=Zkq (Z9y hB.2 r hr)
 obtain ⟨k1,k2⟩:=Zos n.decls r
 obtain ⟨ws,t0,hws,_,_⟩:=Z4i (hbt r hr)
 rw [spcR,expR,Zkw,Zoa]
 have:=Zky n hn r.lent (ssz r.body.steps+1) r.body.steps (newL r) M 1 [] (Z2c r.params.length) (Z2c r.params.length) ws om k1 om (Zkh r)
  ⟨by rw [Z3e,k2],by rw [Z3e,k2],fun v h0 h1 h2=>by have:=(Zvi r v).2 h0 h1;omega⟩ (by rw [k2];exact hws) hM
 rw [this,k2]
theorem Zn4 {n:Normal} (hz:NSz n):Z4v n=Z0b n:=by
 rw [Z4v,Z0b]
 by_cases hB:Z1u n=true
 ·rw [if_pos hB,if_pos hB,Z01h hz hB]
 ·rw [if_neg hB,if_neg hB]
end Go.Abs
end
section
namespace Go.Abs
theorem Zat {A:List AV} {zs:List AV} {a n k q:Nat} (hA:A.length=k*q) (hk:k≤n) (hz:zs.length=q):(A++(List.replicate (n-k) zs).flatten).length=n*q:=by
 have h1:n*q=k*q+(n-k)*q:=by rw [←Nat.add_mul];congr 1;omega
 simp only [List.length_append,List.length_flatten,List.map_replicate,List.sum_replicate_nat,hA,hz]
 omega
theorem Z79 {A:List AV} {zs:List AV} {n k:Nat} (hk:k<n):A++(List.replicate (n-k) zs).flatten=A++(zs++(List.replicate (n-(k+1)) zs).flatten):=by
 rw [show n-k=(n-(k+1))+1 by omega,List.replicate_succ,List.flatten_cons]
theorem Zas {A:List AV} {zs:List AV} {n k:Nat} (hk:n≤k):A++(List.replicate (n-k) zs).flatten=A:=by
 rw [show n-k=0 by omega];simp
theorem Zlz (ys:List Int):(flat (Z6 ys)).length=ys.length*1:=by rw [Z1q _ (Z14 _)];simp
theorem Zir (ys:List HStep):(flat (Z1e ys)).length=ys.length*5:=by rw [Z1q _ (Z56 _)];simp
theorem Zip (ys:List HBlock):(flat (Z16 ys)).length=ys.length*2:=by rw [Z1q _ (Z6j _)];simp
theorem Ziq (ys:List HRoutine):(flat (Z0s ys)).length=ys.length*5:=by rw [Z1q _ (Z6a _)];simp
theorem Zgq (ys:List HCon):(flat (Z2l ys)).length=ys.length*1:=by rw [Zdw];omega
theorem Zw0 {xs:List Int} {k:Nat} {x:Int} {B:List AV} (h:xs[k]? = some x):flat (Z6 (xs.take k))++([AV.i x]++B)=flat (Z6 (xs.take (k+1)))++B:=by
 rw [Z1z h,Z2n,Z4f,List.append_assoc];rfl
theorem Zsc {ys:List HCon} {y:HCon} {B:List AV}:flat (Z2l ys)++(Zme y++B)=flat (Z2l (ys++[y]))++B:=by rw [Zcc,Z4f,List.append_assoc];rfl
theorem Zsd {ys:List HDecl} {y:HDecl} {B:List AV}:flat (Z18 ys)++(Zeu y++B)=flat (Z18 (ys++[y]))++B:=by rw [Zb4,Z4f,List.append_assoc];rfl
theorem Zse {ys:List HRoutine} {y:HRoutine} {B:List AV}:flat (Z0s ys)++(Z6m y++B)=flat (Z0s (ys++[y]))++B:=by rw [Z8g,Z4f,List.append_assoc];rfl
theorem Zsf {ys:List HStep} {y:HStep} {B:List AV}:flat (Z1e ys)++(Zev y++B)=flat (Z1e (ys++[y]))++B:=by
 rw [Z4a,Z4f,List.append_assoc,Z3o [y]];rfl
theorem Zsb {ys:List HBlock} {y:HBlock} {B:List AV}:flat (Z16 ys)++(Z7k y++B)=flat (Z16 (ys++[y]))++B:=by
 rw [Z5j,Z4f,List.append_assoc,Z3z [y]];rfl
theorem Zcw {α β:Type} {f:α→β} {ys:List α} {xs:List β} {k:Nat} {x:β} {y:α} (h:ys.map f=xs.take k) (hx:xs[k]? = some x) (hy:f y=x):(ys++[y]).map f=xs.take (k+1):=by
 rw [List.map_append,h,Z1z hx,←hy];rfl
end Go.Abs
end
section
namespace Go.Abs
theorem Zpa (g:Nat):∀(n k:Nat),k<n→adI g k (n-k)=(g,k)::adI g (k+1) (n-(k+1)):=by
 intro n k h
 rw [show n-k=(n-(k+1))+1 by omega,adI]
theorem Zbe (g:Nat):∀(n o:Nat),(adI g o n).length=n
 | 0,_=>rfl
 | n+1,o=>by rw [adI,List.length_cons,Zbe g n]
theorem Zga {cs:List HCon} {k:Nat} {c:HCon} (h:cs[k]? = some c):Z30 (cs.drop k)=Zx7 c++Z30 (cs.drop (k+1)):=by rw [Z7 h,Z30]
theorem Zel {g:Nat} {cs:List HDecl} {k:Nat} {c:HDecl} (h:cs[k]? = some c):Z12 g (k*3) (cs.drop k)=Zgb g (k*3) c++Z12 g ((k+1)*3) (cs.drop (k+1)):=by
 rw [Z7 h,Z12,show k*3+3=(k+1)*3 by omega]
theorem Zeo {g:Nat} {cs:List HStep} {k:Nat} {c:HStep} (h:cs[k]? = some c):Zd g (k*5) (cs.drop k)=Z8d g (k*5) c++Zd g ((k+1)*5) (cs.drop (k+1)):=by
 rw [Z7 h,Zd,show k*5+5=(k+1)*5 by omega]
theorem Zc5 {g:Nat} {cs:List HBlock} {k:Nat} {c:HBlock} (h:cs[k]? = some c):Z09 g (k*2) (cs.drop k)=Z5t g (k*2) c++Z09 g ((k+1)*2) (cs.drop (k+1)):=by
 rw [Z7 h,Z09,show k*2+2=(k+1)*2 by omega]
theorem Z9x {g:Nat} {cs:List HRoutine} {k:Nat} {c:HRoutine} (h:cs[k]? = some c):Z0h g (k*5) (cs.drop k)=Z5g g (k*5) c++Z0h g ((k+1)*5) (cs.drop (k+1)):=by
 rw [Z7 h,Z0h,show k*5+5=(k+1)*5 by omega]
section
variable {N:Mem} {g o:Nat} {z:Int}
theorem Z01z {d:HDecl}:wr N (Zgb g o d) z=wr (upd (upd N (g,o) z) (g,o+1) (z+1)) (Z30 d.cons) (z+1+1):=by rw [Zgb,wr,wr]
theorem Zz8 {s:HStep}:wr N (Z8d g o s) z=wr (wr (upd (upd (upd N (g,o) z) (g,o+1) (z+1)) (g,o+2) (z+1+1)) (adI (vblk s.av) 0 s.args.length) (z+1+1+1)) (Z09 (vblk s.kv) 0 s.kids) (z+1+1+1+(adI (vblk s.av) 0 s.args.length).length):=by
 rw [Zgc,wr,wr,wr,Zf3]
theorem Zx4 {b:HBlock}:wr N (Z5t g o b) z=upd (wr N (Zd (vblk b.sv) 0 b.steps) z) (g,o+1) (z+(Zd (vblk b.sv) 0 b.steps).length):=by
 rw [Zdl,Zf3,wr,wr]
theorem Zp7 {r:HRoutine}:wr N (Z5g g o r) z=upd (wr (upd (wr (wr N (adI (vblk r.pv) 0 r.params.length) z) (adI (vblk r.lv) 0 r.lent.length) (z+(adI (vblk r.pv) 0 r.params.length).length)) (g,o+2) (z+(adI (vblk r.pv) 0 r.params.length).length+(adI (vblk r.lv) 0 r.lent.length).length))
  (Zd (vblk r.body.sv) 0 r.body.steps) (z+(adI (vblk r.pv) 0 r.params.length).length+(adI (vblk r.lv) 0 r.lent.length).length+1)) (g,o+4) (z+(adI (vblk r.pv) 0 r.params.length).length+(adI (vblk r.lv) 0 r.lent.length).length+1+(Zd (vblk r.body.sv) 0 r.body.steps).length):=by
 rw [Z5g,Zf3,Zf3,wr,Zf3,wr,wr]
theorem Zft {d:HDecl}:(Zgb g o d).length=(Z30 d.cons).length+2:=by simp [Zgb]
theorem Zkc {s:HStep}:(Z8d g o s).length=(adI (vblk s.av) 0 s.args.length).length+(Z09 (vblk s.kv) 0 s.kids).length+3:=by rw [Zgc];simp
theorem Zh0 {b:HBlock}:(Z5t g o b).length=(Zd (vblk b.sv) 0 b.steps).length+1:=by rw [Zdl];simp
theorem Z95 {r:HRoutine}:(Z5g g o r).length=(adI (vblk r.pv) 0 r.params.length).length+(adI (vblk r.lv) 0 r.lent.length).length+(Zd (vblk r.body.sv) 0 r.body.steps).length+2:=by rw [Z5g];simp;omega
theorem Zum {d:HDecl} (h:hold N (Zgb g o d) z):N g o=some (.int .i64 z)∧N g (o+1)=some (.int .i64 (z+1))∧hold N (Z30 d.cons) (z+1+1):=h
theorem Zun {s:HStep} (h:hold N (Z8d g o s) z):N g o=some (.int .i64 z)∧N g (o+1)=some (.int .i64 (z+1))∧N g (o+2)=some (.int .i64 (z+1+1))∧hold N (adI (vblk s.av) 0 s.args.length) (z+1+1+1) ∧
  hold N (Z09 (vblk s.kv) 0 s.kids) (z+1+1+1+(adI (vblk s.av) 0 s.args.length).length):=by
 rw [Zgc] at h
 obtain ⟨h1,h2,h3,h4⟩:=h
 obtain ⟨h5,h6⟩:=(Z53 _ _ _ _).1 h4
 exact ⟨h1,h2,h3,h5,h6⟩
theorem Zrq {b:HBlock} (h:hold N (Z5t g o b) z):hold N (Zd (vblk b.sv) 0 b.steps) z∧N g (o+1)=some (.int .i64 (z+(Zd (vblk b.sv) 0 b.steps).length)):=by
 rw [Zdl] at h
 obtain ⟨h5,h6⟩:=(Z53 _ _ _ _).1 h
 exact ⟨h5,h6.1⟩
theorem Zm3 {r:HRoutine} (h:hold N (Z5g g o r) z):hold N (adI (vblk r.pv) 0 r.params.length) z∧hold N (adI (vblk r.lv) 0 r.lent.length) (z+(adI (vblk r.pv) 0 r.params.length).length) ∧
  N g (o+2)=some (.int .i64 (z+(adI (vblk r.pv) 0 r.params.length).length+(adI (vblk r.lv) 0 r.lent.length).length)) ∧
  hold N (Zd (vblk r.body.sv) 0 r.body.steps) (z+(adI (vblk r.pv) 0 r.params.length).length+(adI (vblk r.lv) 0 r.lent.length).length+1) ∧
  N g (o+4)=some (.int .i64 (z+(adI (vblk r.pv) 0 r.params.length).length+(adI (vblk r.lv) 0 r.lent.length).length+1+(Zd (vblk r.body.sv) 0 r.body.steps).length)):=by
 rw [Z5g] at h
 obtain ⟨h1,h2⟩:=(Z53 _ _ _ _).1 h
 obtain ⟨h3,h4,h5⟩:=(Z53 _ _ _ _).1 h2
 obtain ⟨h6,h7⟩:=(Z53 _ _ _ _).1 h5
 exact ⟨h1,h3,h4,h6,h7.1⟩
end
end Go.Abs
end
section
namespace Go.Abs
theorem Zpz {xs:List HStep} {k:Nat} {x:HStep} (h:xs[k]? = some x):SizeOf.sizeOf x.kids<SizeOf.sizeOf xs:=by
 have h1:=List.sizeOf_lt_of_mem (List.mem_of_getElem? h)
 cases x
 simp only [HStep.mk.sizeOf_spec,HStep.kids] at h1 ⊢
 omega
theorem Zm4 {xs:List HBlock} {k:Nat} {x:HBlock} (h:xs[k]? = some x):SizeOf.sizeOf x.steps<SizeOf.sizeOf xs:=by
 have h1:=List.sizeOf_lt_of_mem (List.mem_of_getElem? h)
 cases x
 simp only [HBlock.mk.sizeOf_spec,HBlock.steps] at h1 ⊢
 omega
theorem Zdn {g:Nat}:∀{o:Nat} {ds:List HDecl},ds.length≤(Z12 g o ds).length
 | _,[]=>Nat.le_refl _
 | o,d::r=>by
  have:=Zdn (g:=g) (o:=o+3) (ds:=r)
  have h2:=Zft (g:=g) (o:=o) (d:=d)
  rw [Z12,List.length_append,List.length_cons]
  omega
theorem Zdo {g:Nat}:∀{o:Nat} {xs:List HStep},xs.length≤(Zd g o xs).length
 | _,[]=>Nat.zero_le _
 | o,d::r=>by
  have:=Zdo (g:=g) (o:=o+5) (xs:=r)
  have h2:=Zkc (g:=g) (o:=o) (s:=d)
  rw [Zd,List.length_append,List.length_cons]
  omega
theorem Zbc {g:Nat}:∀{o:Nat} {xs:List HBlock},xs.length≤(Z09 g o xs).length
 | _,[]=>Nat.zero_le _
 | o,d::r=>by
  have:=Zbc (g:=g) (o:=o+2) (xs:=r)
  have h2:=Zh0 (g:=g) (o:=o) (b:=d)
  rw [Z09,List.length_append,List.length_cons]
  omega
theorem Z8s {g:Nat}:∀{o:Nat} {xs:List HRoutine},xs.length≤(Z0h g o xs).length
 | _,[]=>Nat.le_refl _
 | o,d::r=>by
  have:=Z8s (g:=g) (o:=o+5) (xs:=r)
  have h2:=Z95 (g:=g) (o:=o) (r:=d)
  rw [Z0h,List.length_append,List.length_cons]
  omega
theorem Znh {N N':Mem} {W:Mem} {A B C:List Adr} {z z':Int} (h:wr N A z=W) (hd:A=B++C) (hw:wr N B z=N') (hz:z'=z+(B.length:Nat)):wr N' C z'=W:=by
 subst hd hw hz
 rw [←h,Zf3]
theorem Zcm {N:Mem} {C:List Adr} {z z':Int} (h:hold N C z') (hz:z=z'):hold N C z:=hz▸h
theorem Ze4 {y:HNormal}:(Z0c y).length=(Z12 (vblk y.dv) 0 y.decls).length+(Z0h (vblk y.rv) 0 y.routines).length:=by rw [Z0c,List.length_append]
theorem Zx5 {M:Mem} {y:HNormal} {q:Int}:wr (wr M (Z12 (vblk y.dv) 0 y.decls) q) (Z0h (vblk y.rv) 0 y.routines) (q+((Z12 (vblk y.dv) 0 y.decls).length:Nat))=wr M (Z0c y) q:=by rw [Z0c,Zf3]
end Go.Abs
end
section
namespace Go.Abs
mutual
theorem Step.sz_cst:∀s:Step,s.sz=s.cst+1
 | .mk _ _ _ args kids=>by rw [Step.sz,Step.cst,Zti kids];omega
theorem Block.sz_cst:∀b:Block,b.sz=b.cst+1
 | .mk steps _=>by rw [Block.sz,Block.cst,Zwk steps];omega
theorem Zwk:∀xs:List Step,ssz xs=xs.length+scs xs
 | []=>by rw [ssz,scs];rfl
 | s::r=>by rw [ssz,scs,Zwk r,s.sz_cst,List.length_cons];omega
theorem Zti:∀xs:List Block,bsz xs=xs.length+bcs xs
 | []=>by rw [bsz,bcs];rfl
 | s::r=>by rw [bsz,bcs,Zti r,s.sz_cst,List.length_cons];omega
end
theorem Zts {cs:List Con} {c:Con} (h:c∈cs):conC c≤Za4 cs:=let ⟨_,hk⟩:=List.getElem?_of_mem h;Zjs hk
theorem Zdr {cs:List Decl} {c:Decl} (h:c∈cs):Z5i c≤Z7f cs:=let ⟨_,hk⟩:=List.getElem?_of_mem h;Zfj hk
theorem Zkr {cs:List Routine} {c:Routine} (h:c∈cs):rtC c≤rtsS cs:=let ⟨_,hk⟩:=List.getElem?_of_mem h;Zqh hk
theorem Z02w {n:Normal} (h:Z4m n≤4194304):NSz n:=by
 unfold Z4m Z31 rtsC at h
 refine ⟨⟨by omega,fun d hd=>?_,fun d hd c hc=>?_⟩,by omega,fun r hr=>?_,fun r hr=>?_,fun r hr=>?_⟩
 ·have:=Zdr hd;unfold Z5i Z6i at this;omega
 ·have:=Zdr hd;have h2:=Zts hc;unfold Z5i Z6i at this;unfold conC at h2;omega
 ·have:=Zkr hr;unfold rtC at this;omega
 ·have:=Zkr hr;unfold rtC at this;omega
 ·have:=Zkr hr;unfold rtC at this;have:=r.body.sz_cst;omega
theorem Zqi {ds:List Decl} (hd:DOk ds):∀rs:List Routine,rtsS (rs.map (expR ds))≤8*rs.length+8*rtsS rs
 | []=>by simp [rtsS]
 | r::rs=>by
  have h1:=Zqi hd rs
  have h2:=Zob hd r.body (Zt9 r.params.length)
  rw [Block.sz_cst,Block.sz_cst] at h2
  rw [List.map_cons,rtsS,rtsS,List.length_cons]
  have h3:rtC (expR ds r)=r.params.length+(r.lent.length+(expB ds [] r.params.length r.body).cst):=rfl
  have h4:rtC r=r.params.length+(r.lent.length+r.body.cst):=rfl
  omega
theorem Z02m {n:Normal} (hn:NOk n):Z4m (expN n)≤9*Z4m n:=by
 have h:=Zqi hn.decls n.routines
 unfold Z4m rtsC expN
 simp only [List.length_map]
 omega
theorem Zuc {n:Normal} (hz:NSz n):Z4m (Z0b n).1≤9*Z4m n:=by
 unfold Z0b
 split
 ·rename_i hb
  split
  ·exact Z02m (Z69 hz hb).1
  ·exact Nat.zero_le _
 ·exact Nat.zero_le _
theorem Zp9:∀cs:List HCon,(Z30 cs).length=Za4 (cs.map HCon.er)
 | []=>rfl
 | c::r=>by
  rw [Z30,List.length_append,Zp9 r,List.map_cons,Za4]
  show (adI (vblk c.fv) 0 c.fields.length).length+_=c.fields.length+_
  rw [Zbe]
theorem Zlg {g:Nat}:∀(o:Nat) (ds:List HDecl),(Z12 g o ds).length≤3*Z31 (ds.map HDecl.er)
 | _,[]=>Nat.zero_le _
 | o,d::r=>by
  have h1:=Zlg (g:=g) (o+3) r
  have h2:=Zft (g:=g) (o:=o) (d:=d)
  rw [Z12,List.length_append,h2,Zp9]
  unfold Z31 at h1 ⊢
  rw [List.map_cons,Z7f,List.length_cons]
  have h3:Z5i d.er=d.cons.length+Za4 (d.cons.map HCon.er):=by unfold Z5i Z6i HDecl.er;simp
  omega
mutual
theorem Zx8 {g o:Nat}:∀s:HStep,(Z8d g o s).length≤3*s.er.sz
 | .mk op num into args av kids kv=>by
  have h1:=Zia (g:=vblk kv) (o:=0) kids
  rw [Z8d,HStep.er,Step.sz]
  simp only [List.length_cons,List.length_append,Zbe]
  omega
theorem Zt2 {g o:Nat}:∀s:HBlock,(Z5t g o s).length≤3*s.er.sz
 | .mk steps sv result=>by
  have h1:=Zgd (g:=vblk sv) (o:=0) steps
  rw [Z5t,HBlock.er,Block.sz]
  simp only [List.length_cons,List.length_append,List.length_nil]
  omega
theorem Zgd {g o:Nat}:∀xs:List HStep,(Zd g o xs).length≤3*ssz (erSs xs)
 | []=>by rw [Zd];exact Nat.zero_le _
 | s::r=>by
  have h1:=Zx8 (g:=g) (o:=o) s
  have h2:=Zgd (g:=g) (o:=o+5) r
  rw [Zd,erSs,ssz,List.length_append]
  omega
theorem Zia {g o:Nat}:∀xs:List HBlock,(Z09 g o xs).length≤3*bsz (erBs xs)
 | []=>by rw [Z09];exact Nat.zero_le _
 | s::r=>by
  have h1:=Zt2 (g:=g) (o:=o) s
  have h2:=Zia (g:=g) (o:=o+2) r
  rw [Z09,erBs,bsz,List.length_append]
  omega
end
theorem Zen {g:Nat}:∀(o:Nat) (rs:List HRoutine),(Z0h g o rs).length≤3*rtsC (rs.map HRoutine.er)
 | _,[]=>Nat.zero_le _
 | o,r::rs=>by
  have h1:=Zen (g:=g) (o+5) rs
  have h2:=Z95 (g:=g) (o:=o) (r:=r)
  have h3:=Zgd (g:=vblk r.body.sv) (o:=0) r.body.steps
  have h4:r.body.er.sz=1+ssz (erSs r.body.steps):=by cases hb:r.body;rw [HBlock.er,Block.sz];rfl
  rw [Block.sz_cst] at h4
  rw [Z0h,List.length_append,h2,Zbe,Zbe]
  unfold rtsC at h1 ⊢
  rw [List.map_cons,rtsS,List.length_cons]
  have h5:rtC r.er=r.params.length+(r.lent.length+r.body.er.cst):=rfl
  omega
theorem Zic (y:HNormal):(Z0c y).length≤3*Z4m y.er:=by
 have h1:=Zlg (g:=vblk y.dv) 0 y.decls
 have h2:=Zen (g:=vblk y.rv) 0 y.routines
 rw [Ze4]
 have:Z4m y.er=Z31 (y.decls.map HDecl.er)+rtsC (y.routines.map HRoutine.er):=rfl
 omega
theorem Zzc {y:HNormal}:∀d∈y.decls,d.cons.length≤Z4m y.er:=by
 intro d hd
 have h1:=Zdr (List.mem_map_of_mem (f:=HDecl.er) hd)
 have h2:Z5i d.er=d.cons.length+Za4 (d.cons.map HCon.er):=by unfold Z5i Z6i HDecl.er;simp
 have:Z4m y.er=y.decls.length+Z7f (y.decls.map HDecl.er)+rtsC (y.routines.map HRoutine.er):=by show Z31 (y.decls.map HDecl.er)+rtsC (y.routines.map HRoutine.er)=_;unfold Z31;simp
 omega
end Go.Abs
end
