/-
  A part of the proof of FnExactReuseUptoSaid (see the last file): no condition.
-/
import Derived.Test.YtjneabekegkopaaGreatReuA
import Derived.Test.YtjneabekegkopaaGreatRows
import Derived.Deep.Slices
import Derived.ChangeArms
set_option linter.all false
set_option linter.unusedVariables false
set_option linter.unusedSimpArgs false
set_option linter.unusedSectionVars false
set_option maxRecDepth 10000
set_option maxHeartbeats 4000000
section
namespace Go.Abs
theorem Zi7.mono {w:World} {G G':Prot} {v:Value} {k:Nat} {ls:List AV} (hA:Agree G w w G') (h:Zi7 w G v k ls):Zi7 w G' v k ls:=by
 rcases h with ⟨rfl,h0⟩|⟨g,len,cap,cur,el,rfl,h1,h2,h3,h4,h5⟩
 ·exact .inl ⟨rfl,h0⟩
 ·exact .inr ⟨g,len,cap,cur,el,rfl,h1,h2,h3,h4,h5.mono hA⟩
theorem ROk.same {w:World} {G G':Prot} {r:Res} (hA:Agree G w w G') (h:ROk w G r):ROk w G' r:=by
 cases r with
 | obj b ls=>obtain ⟨cs,e,h1,h2⟩:=h;exact ⟨cs,e,h1,h2.mono hA⟩
 | tail v k=>exact h
 | ge s=>exact h
 | vec v ls=>
  rcases h with ⟨rfl,h0⟩|⟨g,cap,cur,el,rfl,h1,h2,h3,h4⟩
  ·exact .inl ⟨rfl,h0⟩
  ·exact .inr ⟨g,cap,cur,el,rfl,h1,h2,h3,h4.mono hA⟩
 | many ts=>exact h
 | own B m=>exact h
 | row v k ls=>exact h.mono hA
theorem HOk.alloc_rrow {w:World} {G:Prot} {h:List Res} (hh:HOk w G h) (cs:Array Value) (t:TypeId) {ls:List AV} {len cap k:Nat} (hcap:len≤cap) (hsz:cs.size=cap*k) (hl:ls.length=len*k)
  (hls:RCs w G ls (cs.toList.take (len*k))) :
  HOk (w.alloc (.cells cs t)) G (.row (.slice (some ⟨w.heap.size,0,none⟩) len cap) k ls::h)∧Ext w G h (w.alloc (.cells cs t)) G (.row (.slice (some ⟨w.heap.size,0,none⟩) len cap) k ls::h):=by
 have hA:Agree G w (w.alloc (.cells cs t)) G:=⟨fun b j hg=>Zc9 w _ (hh.lt b j hg),fun _ _ h=>h⟩
 refine hh.alloc (.cells cs t) (h':=[.row (.slice (some ⟨w.heap.size,0,none⟩) len cap) k ls]) (fun _ _ h=>h) (fun _ _ h=>.inl h) ?_ ?_ (List.pairwise_singleton _ _) ?_
 ·intro r hr
  rw [List.mem_singleton.1 hr]
  exact .inr ⟨_,len,cap,cs,t,rfl,Zak w _,hcap,hsz,hl,hls.mono hA⟩
 ·intro r hr b j hf
  rw [List.mem_singleton.1 hr] at hf
  exact hf
 ·intro r hr b j hf hg
  rw [List.mem_singleton.1 hr] at hf
  have:=hh.lt b j hg
  have:b=w.heap.size:=hf
  omega
theorem HOk.rwrite {w:World} {G:Prot} {h2:List Res} {g len cap k:Nat} {ls ls':List AV} (hh:HOk w G (.row (.slice (some ⟨g,0,none⟩) len cap) k ls::h2)) {cs cs':Array Value} {e:TypeId}
  (hb:w.heap[g]? = some (.cells cs e (0,0))) (hsz:cs'.size=cs.size) (hle:len≤cap) (hcap:cs.size=cap*k) (hl:ls'.length=len*k) (hls:RCs w G ls' (cs'.toList.take (len*k))) :
  HOk (w.setRow g cs') G (.row (.slice (some ⟨g,0,none⟩) len cap) k ls'::h2) ∧
   Ext w G (.row (.slice (some ⟨g,0,none⟩) len cap) k ls::h2) (w.setRow g cs') G (.row (.slice (some ⟨g,0,none⟩) len cap) k ls'::h2):=by
 have hmem:Res.row (.slice (some ⟨g,0,none⟩) len cap) k ls∈Res.row (.slice (some ⟨g,0,none⟩) len cap) k ls::h2:=List.mem_cons_self ..
 have hA:Agree G w (w.setRow g cs') G:=⟨fun c j hg=>by
  have hne:c≠g:=fun he=>hh.prot _ hmem c j he hg
  simp [World.cell?,Zk w g c cs' hne],fun _ _ h=>h⟩
 have hpw:=List.pairwise_cons.1 hh.apart
 have hother:∀r∈h2,∀c j,r.fp c j→c≠g:=fun r hr c j hf hc=>hpw.1 r hr c j hc hf
 have e1:Ext w G [.row (.slice (some ⟨g,0,none⟩) len cap) k ls] (w.setRow g cs') G [.row (.slice (some ⟨g,0,none⟩) len cap) k ls']:=by
  refine ⟨rfl,rfl,rfl,by simp [World.setRow],fun _ _ h=>h,?_,fun _ _ _ h=>.inl h,?_⟩
  ·intro c hc
   by_cases hcb:c=g
   ·subst hcb
    exact .inr ⟨cs,cs',e,(0,0),hb,setRow_heap w c cs cs' e (0,0) hb,hsz,fun j hj=>absurd ⟨_,List.mem_cons_self ..,rfl⟩ hj⟩
   ·exact .inl (Zk w g c cs' hcb)
  ·rintro c j _ ⟨r,hr,hf⟩
   rw [List.mem_singleton.1 hr] at hf
   exact ⟨_,List.mem_cons_self ..,hf⟩
 have e2:HOk (w.setRow g cs') G [.row (.slice (some ⟨g,0,none⟩) len cap) k ls']:=by
  refine ⟨fun r hr=>?_,List.pairwise_singleton _ _,fun r hr c j hf hg=>?_,fun c j hg=>?_⟩
  ·rw [List.mem_singleton.1 hr]
   exact .inr ⟨g,len,cap,cs',e,rfl,setRow_heap w g cs cs' e (0,0) hb,hle,hsz.trans hcap,hl,hls.mono hA⟩
  ·rw [List.mem_singleton.1 hr] at hf
   exact hh.prot _ hmem c j hf hg
  ·have:=hh.lt c j hg
   simpa [World.setRow] using this
 exact HOk.frame (h:=[.row (.slice (some ⟨g,0,none⟩) len cap) k ls]) (k:=h2) hh e1 e2
theorem Z049 {w:World} {G:Prot} {h:List Res} {k:Nat} (hh:HOk w G h):HOk w G (.row (.slice none 0 0) k []::h)∧Ext w G h w G (.row (.slice none 0 0) k []::h):=
 ⟨⟨fun r hr=>by
   rcases List.mem_cons.1 hr with rfl|hr
   ·exact .inl ⟨rfl,rfl⟩
   ·exact hh.ok r hr,List.pairwise_cons.2 ⟨fun _ _ _ _ hf=>hf.elim,hh.apart⟩,fun r hr b o hf hg=>by
   rcases List.mem_cons.1 hr with rfl|hr
   ·exact hf.elim
   ·exact hh.prot r hr b o hf hg,hh.lt⟩,
  ⟨rfl,rfl,rfl,Nat.le_refl _,fun _ _ h=>h,fun _ _=>.inl rfl,fun _ _ _ h=>.inl h,fun b o _ ⟨r,hr,hf⟩=>by
   rcases List.mem_cons.1 hr with rfl|hr
   ·exact hf.elim
   ·exact ⟨r,hr,hf⟩⟩⟩
theorem Zi7.form {w:World} {G:Prot} {v:Value} {k:Nat} {ls:List AV} (h:Zi7 w G v k ls):∃a len cap,v=.slice a len cap∧ls.length=len*k:=by
 rcases h with ⟨rfl,rfl⟩|⟨g,len,cap,cur,e,rfl,_,_,_,h4,_⟩
 ·exact ⟨none,0,0,rfl,by simp⟩
 ·exact ⟨_,len,cap,rfl,h4⟩
theorem Z8q {w:World} {G:Prot} {v:Value} {k:Nat} {es:List AV} {h2:List Res} (hh:HOk w G (.row v k (flat es)::h2)) (hes:∀y∈es,y.leaves.length=k) (hk:0<k) :
  ∃G',HOk w G' (.tail v k::h2)∧Ext w G (.row v k (flat es)::h2) w G' (.tail v k::h2)∧RV w G' (.sl es (some v)) v:=by
 have hpw:=List.pairwise_cons.1 hh.apart
 have hfl:=Z1f es hes
 rcases hh.ok _ (List.mem_cons_self ..) with ⟨rfl,h0⟩|⟨g,len,cap,cur,e,rfl,h1,h3,h4,h5,h6⟩
 ·have hes0:es=[]:=by
   cases es with
   | nil=>rfl
   | cons y r=>
    have h7:0<(r.length+1)*k:=Nat.mul_pos om hk
    rw [h0,List.length_cons] at hfl
    rw [←hfl] at h7
    simp at h7
  subst hes0
  obtain ⟨k1,k2⟩:=Zlr (sz:=k) (hh.sub (List.sublist_cons_self _ _))
  refine ⟨G,k1,⟨rfl,rfl,rfl,Nat.le_refl _,fun _ _ h=>h,fun _ _=>.inl rfl,fun _ _ _ h=>.inl h,?_⟩,.nil (by simp)⟩
  rintro b o _ ⟨r,hr,hf⟩
  rcases List.mem_cons.1 hr with rfl|hr
  ·exact hf.elim
  ·exact ⟨r,List.mem_cons_of_mem _ hr,hf⟩
 ·have hlen:len=es.length:=Nat.eq_of_mul_eq_mul_right hk (h5.symm.trans hfl)
  subst hlen
  let G':Prot:=fun b o=>G b o∨(b=g∧o<es.length*k)
  have hA:Agree G w w G':=⟨fun _ _ _=>rfl,fun _ _ h=>.inl h⟩
  have hmem:Res.row (.slice (some ⟨g,0,none⟩) es.length cap) k (flat es)∈Res.row (.slice (some ⟨g,0,none⟩) es.length cap) k (flat es)::h2:=List.mem_cons_self ..
  refine ⟨G',⟨fun r hr=>?_,List.pairwise_cons.2 ⟨fun r hr b o f1 f2=>hpw.1 r hr b o f1.1 f2,hpw.2⟩,fun r hr b o hf hg=>?_,fun b o hg=>?_⟩,
   ⟨rfl,rfl,rfl,Nat.le_refl _,fun _ _ h=>.inl h,fun _ _=>.inl rfl,fun b o _ hg=>hg.imp id fun ⟨e1,_⟩=>⟨_,hmem,e1⟩,?_⟩,?_⟩
  ·rcases List.mem_cons.1 hr with rfl|hr
   ·exact .inr ⟨g,es.length,cap,cur,e,rfl,h1,h3,h4⟩
   ·exact (hh.ok r (List.mem_cons_of_mem _ hr)).same hA
  ·rcases List.mem_cons.1 hr with rfl|hr2
   ·obtain ⟨hbg,hf2⟩:=hf
    rcases hg with hg|⟨_,hg⟩
    ·exact hh.prot _ hmem b o hbg hg
    ·omega
   ·rcases hg with hg|⟨hbg,_⟩
    ·exact hh.prot r (List.mem_cons_of_mem _ hr2) b o hf hg
    ·exact hpw.1 r hr2 b o hbg hf
  ·rcases hg with hg|⟨rfl,_⟩
   ·exact hh.lt b o hg
   ·exact (Array.getElem?_eq_some_iff.1 h1).1
  ·rintro b o _ ⟨r,hr,hf⟩
   rcases List.mem_cons.1 hr with rfl|hr
   ·exact ⟨_,hmem,hf.1⟩
   ·exact ⟨r,List.mem_cons_of_mem _ hr,hf⟩
  ·refine .sl (k:=k) (fun x hx=>by cases hx;rfl) h3 (REls.of_flat es hes (RMem.of_cells (h6.mono hA) fun j u hj=>?_))
   have hjl:j<es.length*k:=by
    have:=(List.getElem?_eq_some_iff.1 hj).1
    have h7:=h6.length
    omega
   rw [List.getElem?_take,if_pos hjl] at hj
   refine ⟨?_,.inr ⟨rfl,by omega⟩⟩
   rw [Nat.zero_add,cell_of_row w g j cur e (0,0) h1]
   simpa using hj
section
variable {P:Program} {n:Nat} {ops:Array Oper} {B:Fr→List Res→Prop} {k:Nat} {F:Fr} {h h2:List Res}
theorem Zac {k:Nat}:Turn h (.row (.slice none 0 0) k []::h):=fun _ _ hh=>let ⟨a,b⟩:=Z049 hh;⟨_,a,b⟩
theorem Z04r (j:Nat) {v:Value} {kk m:Nat} {ls:List AV} (hl:Zky P ops F k=some (.val v)) (hj:h[j]? = some (.row v kk ls)) (hm:ls.length=m*kk) (hk:0<kk):StOK P (opAt ops k) F h [] (.val (.int .i64 m)):=by
 unfold Zky at hl
 generalize hoo:opAt ops k=o at hl
 obtain ⟨dst,op,type,pos,after,guard⟩:=o
 cases op<;>simp only at hl<;>try (cases hl)
 rename_i c
 obtain ⟨callee,args,tys⟩:=c
 simp only at hl
 split at hl
 ·rename_i x t hargs htys
  split at hl
  ·rename_i el hu
   simp only [Option.some.injEq] at hl
   intro n w G a hF hh
   have hv:=hF.ev x
   rw [hl] at hv
   have hv:=hv.val_inv
   obtain ⟨ad,len,cap,rfl,hlen⟩:=Zi7.form (hh.ok _ (List.mem_of_getElem? hj))
   have:len=m:=Nat.eq_of_mul_eq_mul_right hk (hlen.symm.trans hm)
   subst this
   have e1:args=#[x]:=by rw [←Array.toArray_toList (xs:=args),hargs]
   have e2:tys=#[t]:=by rw [←Array.toArray_toList (xs:=tys),htys]
   subst e1;subst e2
   exact ⟨_,.val,fun w' _ _=>by simp [execOp,resolve,invoke,builtin,hv,Builtin.len_,Zu hu,goInt]⟩
  ·cases hl
 ·cases hl
def Zpk (ops:Array Oper) (F:Fr) (k:Nat):Option (TypeId × AV):=
 match (opAt ops k).op with
 | .load t x=>some (t,F.ev x)
 | _=>none
theorem Zyr (j:Nat) {g len cap kk o:Nat} {ls zs:List AV} {t:TypeId} {y:AV} (hl:Zpk ops F k=some (t,.val (.pointer (some ⟨g,o,none⟩)))) (hj:h[j]? = some (.row (.slice (some ⟨g,0,none⟩) len cap) kk ls))
  (hz:(ls.drop o).take zs.length=zs) (hy:Zcv P t zs=some y):StOK P (opAt ops k) F h [g] y:=by
 unfold Zpk at hl
 generalize hoo:opAt ops k=q at hl
 obtain ⟨dst,op,type,pos,after,guard⟩:=q
 cases op<;>simp only at hl<;>try (cases hl)
 rename_i t' x
 intro n w G a hF hh
 simp only [Option.some.injEq,Prod.mk.injEq] at hl
 obtain ⟨rfl,hl⟩:=hl
 have hv:=hF.ev x
 rw [hl] at hv
 have hv:=hv.val_inv
 rcases hh.ok _ (List.mem_of_getElem? hj) with ⟨h0,_⟩|⟨g',len',cap',cur,e,h0,h1,h2,h3,h4,h5⟩
 ·cases h0
 ·cases h0
  have hc:=(h5.drop o).take zs.length
  rw [hz] at hc
  obtain ⟨v,j1,j2⟩:=Z4s (P:=P) (b:=g) (o:=o) hy hc
  refine ⟨v,j1,fun w' _ hw=>?_⟩
  have hrow:=hw g (by simp)
  rw [h1] at hrow
  simp only [execOp,hv]
  refine Z1e ?_
  simp only [Instr.loadAt,Instr.sureAddr,Sem.run_bind,Sem.run_pure,Result.andThen_ok]
  refine j2 w' fun j u hj=>?_
  rw [cell_of_row w' g (o+j) cur e (0,0) hrow]
  rw [List.getElem?_take] at hj
  split at hj
  ·rw [List.getElem?_drop,List.getElem?_take] at hj
   split at hj
   ·simpa using hj
   ·cases hj
  ·cases hj
theorem Znn {K:Fr→List Res→Prop} {g len cap kk:Nat} {ls xs:List AV} {i:Nat} (hs:storeAt P ops F k=some (g,i,xs)) (hlt:i+xs.length≤ls.length)
  (hK:K F (.row (.slice (some ⟨g,0,none⟩) len cap) kk (ls.take i++xs++ls.drop (i+xs.length))::h2)):OpOK P n (opAt ops k) F (.row (.slice (some ⟨g,0,none⟩) len cap) kk ls::h2) K:=by
 unfold storeAt at hs
 generalize hoo:opAt ops k=q at hs
 obtain ⟨dst,op,type,pos,after,guard⟩:=q
 cases op<;>simp only at hs<;>try (cases hs)
 rename_i t x z
 split at hs
 ·rename_i b' o' inf hx hi
  split at hs
  ·rename_i hc
   simp only [Bool.and_eq_true] at hc
   simp only [Option.some.injEq,Prod.mk.injEq] at hs
   obtain ⟨rfl,rfl,hz⟩:=hs
   intro Q w G a hF hh
   have hvx:=hF.ev x
   rw [hx] at hvx
   have hvx:=hvx.val_inv
   have hvy:=hF.ev z
   have hcs:=hvy.cells hc.2.1
   rw [hz] at hcs hc
   have hone:=hcs.one_cells hc.2.2
   have hsz:inf.size=xs.length:=Nat.eq_of_beq_eq_true hc.1
   have hlen:(a.eval z).cells.size=xs.length:=by have:=hcs.length;simpa using this
   rcases hh.ok (.row (.slice (some ⟨b',0,none⟩) len cap) kk ls) (List.mem_cons_self ..) with ⟨h0,_⟩|⟨g',len',cap',cur,e,h0,h1,h2',h3,h4,h5⟩
   ·cases h0
   ·cases h0
    have hlc:len*kk≤cap*kk:=Nat.mul_le_mul_right _ h2'
    have hst:=run_storeCells_at P b' o' e (a.eval z).cells.toList 0 cur w h1 (by simp [hlen];omega) hone
    simp only [Nat.add_zero,Array.length_toList] at hst
    have hr:(execOp a.eval { dst:=none,op:=.store t x z,type:=type,pos:=pos,after:=after,guard:=guard }).run P w =
      .ok .skip (w.setRow b' (cur.toList.take o'++(a.eval z).cells.toList++cur.toList.drop (o'+(a.eval z).cells.size)).toArray):=by
     simp only [execOp,hvx]
     simp [Instr.storeAt,Instr.sureAddr,storeVar,Z2m hi,hlen,hsz,hst]
    unfold Oper.wp
    rw [hr]
    have hcl:(a.eval z).cells.toList.length=xs.length:=by simpa using hlen
    obtain ⟨j1,j2⟩:=hh.rwrite (ls':=ls.take o'++xs++ls.drop (o'+xs.length)) (cs':=(cur.toList.take o'++(a.eval z).cells.toList++cur.toList.drop (o'+(a.eval z).cells.size)).toArray) h1
     (by simp [hlen];omega) h2' h3 (by simp;omega) (by
      rw [List.toList_toArray,hlen]
      have e1:(cur.toList.take o'++(a.eval z).cells.toList++cur.toList.drop (o'+xs.length)).take (len*kk) =
        (cur.toList.take (len*kk)).take o'++(a.eval z).cells.toList++(cur.toList.take (len*kk)).drop (o'+xs.length):=by
       have q1:(cur.toList.take o'++(a.eval z).cells.toList).length=o'+xs.length:=by simp [hlen];omega
       rw [List.take_append,q1,List.take_of_length_le om,List.take_take,Nat.min_eq_left om,List.drop_take]
      rw [e1]
      exact ((h5.take o').append hcs).append (h5.drop _))
    refine ⟨F,_,G,hK,?_,j1,j2⟩
    have:=hF.mono (j2.agree hh)
    simpa [Act.put] using this
  ·cases hs
 ·cases hs
theorem Z03x {K:Fr→List Res→Prop} {sz:Nat} (hd:Z59 n (opAt ops k)=true) (ha:Zeb P ops F k=some ([],0,sz))
  (hK:∀g,K (F.put (opAt ops k).dst (.val (.slice (some ⟨g,0,none⟩) 0 0))) (.row (.slice (some ⟨g,0,none⟩) 0 0) sz []::h)):OpOK P n (opAt ops k) F h K:=by
 unfold Zeb at ha
 generalize hoo:opAt ops k=q at ha hd hK
 obtain ⟨dst,op,type,pos,after,guard⟩:=q
 cases op<;>simp only at ha<;>try (cases ha)
 rename_i t ln parts
 split at ha
 case h_2=>cases ha
 rename_i e ht
 split at ha
 case h_2=>cases ha
 rename_i i hi
 split at ha
 case h_2=>cases ha
 rename_i hc
 simp only [Bool.and_eq_true] at hc
 split at ha
 case h_2=>cases ha
 rename_i ls' hf
 simp only [Option.some.injEq,Prod.mk.injEq] at ha
 obtain ⟨rfl,rfl,hsz⟩:=ha
 intro Q w G a hF hh
 obtain ⟨cs,h1,h2⟩:=Z89 hF parts ht hi rfl hc.1 hc.2 hf
 have hr:(execOp a.eval { dst:=dst,op:=.buildSlice t 0 parts,type:=type,pos:=pos,after:=after,guard:=guard }).run P w =
   .ok (.value (.slice (some ⟨w.heap.size,0,none⟩) 0 0)) (w.alloc (.cells cs e)):=by
  simp only [execOp]
  exact Z1e h2
 unfold Oper.wp
 rw [hr]
 have hlc:=h1.length
 simp only [Array.length_toList] at hlc
 obtain ⟨j1,j2⟩:=hh.alloc_rrow cs e (ls:=[]) (len:=0) (cap:=0) (k:=sz) (Nat.le_refl _) (by simpa using hlc) (by simp) (by simpa using RCs.nil)
 exact ⟨_,_,G,hK _,(hF.mono (j2.agree hh)).put (Z1o hd) .val,j1,j2⟩
theorem Zxg {K:Fr→List Res→Prop} {g sz:Nat} {xs:List AV} {hx:Option Value} (hd:Z59 n (opAt ops k)=true) (ha:Z3p P ops F k=some (.val (.slice (some ⟨g,0,none⟩) 0 0),.sl xs hx,sz))
  (hxs:∀y∈xs,y.leaves.length=sz) (hbound:xs.length≤4294967296)
  (hK:∀v:Hd,K (F.put (opAt ops k).dst (.val v.v)) (.row v.v sz (flat xs)::h2)):OpOK P n (opAt ops k) F (.row (.slice (some ⟨g,0,none⟩) 0 0) sz []::h2) K:=by
 unfold Z3p at ha
 generalize hoo:opAt ops k=o at ha hd hK
 obtain ⟨dst,op,type,pos,after,guard⟩:=o
 cases op<;>simp only at ha<;>try (cases ha)
 rename_i c
 obtain ⟨callee,args,tys⟩:=c
 simp only at ha
 split at ha
 case h_2=>cases ha
 rename_i s x t t' hargs htys
 split at ha
 case h_2=>cases ha
 rename_i e htt ht
 have:=Nat.eq_of_beq_eq_true htt
 subst this
 split at ha
 case h_2=>cases ha
 rename_i i hinfo
 split at ha
 case h_2=>cases ha
 rename_i z hz
 split at ha
 case h_2=>cases ha
 rename_i hb
 simp only [Bool.and_eq_true] at hb
 simp only [Option.some.injEq,Prod.mk.injEq] at ha
 obtain ⟨h3,h4,hk1⟩:=ha
 have e1:args=#[s,x]:=by rw [←Array.toArray_toList (xs:=args),hargs]
 have e2:tys=#[t,t]:=by rw [←Array.toArray_toList (xs:=tys),htys]
 subst e1;subst e2
 have hzs:z.cells.size=sz:=by rw [Nat.eq_of_beq_eq_true hb.1,hk1]
 have hby:=Nat.le_of_ble_eq_true hb.2
 intro Q w G a hF hh
 have v1:=hF.ev s
 have v2:=hF.ev x
 rw [h3] at v1
 rw [h4] at v2
 have v1:=v1.val_inv
 have v2:=v2.forget
 have finish:∀(v':Hd) w',(Builtin.append_ #[t,t] type #[.slice (some ⟨g,0,none⟩) 0 0,a.eval x]).run P w=.ok v'.v w'→HOk w' G (.row v'.v sz (flat xs)::h2) →
   Ext w G (.row (.slice (some ⟨g,0,none⟩) 0 0) sz []::h2) w' G (.row v'.v sz (flat xs)::h2) →
   ({ dst:=dst,op:=.call { callee:=.builtin .append,args:=#[s,x],argTypes:=#[t,t] },type:=type,pos:=pos,after:=after,guard:=guard }:Oper).wp P a w
    (fun a' w'=>∃F' h' G',K F' h'∧FR w' G' n F' a'∧HOk w' G' h'∧Ext w G (.row (.slice (some ⟨g,0,none⟩) 0 0) sz []::h2) w' G' h') Q:=by
  intro v' w' hr j1 j2
  have hrun:(execOp a.eval { dst:=dst,op:=.call { callee:=.builtin .append,args:=#[s,x],argTypes:=#[t,t] },type:=type,pos:=pos,after:=after,guard:=guard }).run P w=.ok (.value v'.v) w':=by
   simp only [execOp,resolve,invoke,builtin,Sem.run_bind,Sem.run_pure,Result.andThen_ok,List.map_toArray,List.map_cons,List.map_nil,v1,hr]
  unfold Oper.wp
  rw [hrun]
  exact ⟨_,_,G,hK v',(hF.mono (j2.agree hh)).put (Z1o hd) .val,j1,j2⟩
 by_cases hxe:xs=[]
 ·subst hxe
  cases v2q:a.eval x with
  | slice ad' l' c'=>
   rw [v2q] at v2
   cases v2<;>exact finish ⟨some ⟨g,0,none⟩,0,0⟩ _ (by rw [v2q];exact Z3x ht hinfo (Nat.le_refl _) w) hh (Ext.refl w G _)
  | _=>rw [v2q] at v2;cases v2
 ·generalize hax:a.eval x=ax at v2 finish
  cases v2 with
  | nil _=>exact absurd rfl hxe
  | sl hq hcc hm=>
   rename_i b o' k' c
   have hpos:0<xs.length:=List.length_pos_iff.2 hxe
   have hfm:=hm.flat_mem
   obtain ⟨news,hn,hnc⟩:=hfm.cells
   have hfl:=Z1f xs hxs
   have hnl:news.length=xs.length*i.size:=by rw [hn.length,hfl,hk1]
   have hnews:∀j u,news[j]? = some u→w.cell? ((⟨b,o',none⟩:Addr).add j)=some u:=fun j u hj=>by rw [Z5e];exact (hnc j u hj).1
   have hbb:(0+xs.length)*i.bytes≤140737488355328:=by
    have:=Nat.mul_le_mul hbound hby
    rw [Nat.zero_add]
    omega
   have hr:=run_append_grow (P:=P) w t type e i z ht hinfo hz ⟨g,0,none⟩ 0 0 [] (by simp) (fun j u hj=>by simp at hj) ⟨b,o',none⟩ xs.length c news hnl hnews om om (growslice_fits om hbb)
   simp only [Nat.zero_add] at hr
   have hge:=grownCap_ge w xs.length 0 e
   obtain ⟨j1,j2⟩:=hh.drew.alloc_rrow ([].toArray++news.toArray++Builtin.zeroCells z.cells (grownCap w xs.length 0 e-xs.length)) e
    (ls:=flat xs) (len:=xs.length) (cap:=grownCap w xs.length 0 e) (k:=sz) hge
    (by
     have q2:(grownCap w xs.length 0 e-xs.length)*sz=grownCap w xs.length 0 e*sz-xs.length*sz:=Nat.sub_mul ..
     have q3:xs.length*sz≤grownCap w xs.length 0 e*sz:=Nat.mul_le_mul_right _ hge
     simp only [Array.size_append,List.size_toArray,size_zeroCells,hzs,List.length_nil,Nat.zero_add,hnl,hk1]
     omega) hfl
    (by
     have q1:([].toArray++news.toArray++Builtin.zeroCells z.cells (grownCap w xs.length 0 e-xs.length)).toList.take (xs.length*sz)=news:=by
      simp only [Array.toList_append,List.nil_append]
      rw [←hk1,←hnl]
      exact List.take_left
     rw [q1]
     exact hn.mono (Z53 w G))
   have hs:List.Sublist (.row (.slice (some ⟨w.drew.heap.size,0,none⟩) xs.length (grownCap w xs.length 0 e)) sz (flat xs)::h2)
     (.row (.slice (some ⟨w.drew.heap.size,0,none⟩) xs.length (grownCap w xs.length 0 e)) sz (flat xs)::.row (.slice (some ⟨g,0,none⟩) 0 0) sz []::h2):=List.Sublist.cons_cons _ (List.sublist_cons_self _ _)
   exact finish ⟨some ⟨w.heap.size,0,none⟩,xs.length,grownCap w xs.length 0 e⟩ _ hr (j1.sub hs) ((Ext.drew w G _).trans (j2.sub' hs))
def Zpm (P:Program) (ops:Array Oper) (F:Fr) (k:Nat):Option (Int × Int × List AV):=
 match (opAt ops k).op with
 | .makeSlice t l c=>match P.underlying t with
  | some (.slice e)=>match P.info? e with
   | some i=>match i.zero with
    | some z=>match Nat.beq i.size z.cells.toList.length&&Nat.ble i.bytes 32768,F.ev l,F.ev c with
     | true,.val (.int _ l),.val (.int _ c)=>some (l,c,z.cells.toList.map AV.ofVal)
     | _,_,_=>none
    | none=>none
   | none=>none
  | _=>none
 | _=>none
theorem Zb7 (zs:List Value) (hz:0<zs.length):∀n:Nat,(madeCells zs.toArray (n*zs.length)).toList=(List.replicate n zs).flatten
 | 0=>by simp [madeCells]
 | n+1=>by
  have ih:=Zb7 zs hz n
  have hlen:∀m,(madeCells zs.toArray m).toList.length=m:=fun m=>by simp [madeCells]
  have hget:∀m i,i<m→(madeCells zs.toArray m).toList[i]? = some (zs.toArray[i % zs.toArray.size]!):=fun m i hi=>by simp [madeCells,hi]
  rw [List.replicate_succ',List.flatten_append,←ih]
  apply List.ext_getElem?
  intro i
  simp only [List.flatten_cons,List.flatten_nil,List.append_nil]
  by_cases h1:i<n*zs.length
  ·rw [List.getElem?_append_left (by rw [hlen];exact h1),hget _ i h1,hget _ i (by rw [Nat.add_mul];omega)]
  ·rw [List.getElem?_append_right (by rw [hlen];omega),hlen]
   by_cases h2:i<(n+1)*zs.length
   ·rw [hget _ i h2]
    rw [Nat.add_mul] at h2
    have e:i=(i-n*zs.length)+zs.length*n:=by rw [Nat.mul_comm zs.length n];omega
    have e2:i % zs.length=i-n*zs.length:=by
     conv=>lhs;rw [e,Nat.add_mul_mod_self_left]
     exact Nat.mod_eq_of_lt om
    have h3:i-n*zs.length<zs.length:=by omega
    simp [e2,h3]
   ·rw [List.getElem?_eq_none (by rw [hlen];omega),List.getElem?_eq_none (by rw [Nat.add_mul] at h2;omega)]
theorem Zxs {w:World} {G:Prot} {xs:List AV} {vs:List Value} (h:RCs w G xs vs):∀n,RCs w G (List.replicate n xs).flatten (List.replicate n vs).flatten
 | 0=>by simpa using RCs.nil
 | n+1=>by simp only [List.replicate_succ,List.flatten_cons];exact h.append (Zxs h n)
theorem Znr {w:World} {G:Prot}:∀vs:List Value,RCs w G (vs.map AV.ofVal) vs
 | []=>.nil
 | v::r=>.cons (RV.ofVal v) (Znr r)
theorem Z00u {K:Fr→List Res→Prop} {l:Nat} {zs:List AV} (hd:Z59 n (opAt ops k)=true) (hm:Zpm P ops F k=some ((l:Int),(l:Int),zs)) (hl:l≤4294967296) (hz:0<zs.length)
  (hK:∀g,K (F.put (opAt ops k).dst (.val (.slice (some ⟨g,0,none⟩) l l))) (.row (.slice (some ⟨g,0,none⟩) l l) zs.length (List.replicate l zs).flatten::h)):OpOK P n (opAt ops k) F h K:=by
 unfold Zpm at hm
 generalize hoo:opAt ops k=o at hm hd hK
 obtain ⟨dst,op,type,pos,after,guard⟩:=o
 cases op<;>simp only at hm<;>try (cases hm)
 rename_i t lo co
 split at hm
 case h_2=>cases hm
 rename_i e ht
 split at hm
 case h_2=>cases hm
 rename_i i hi
 split at hm
 case h_2=>cases hm
 rename_i z hzz
 split at hm
 case h_2=>cases hm
 rename_i k1 l' k2 c' hb hlo hco
 simp only [Bool.and_eq_true] at hb
 simp only [Option.some.injEq,Prod.mk.injEq] at hm
 obtain ⟨rfl,rfl,rfl⟩:=hm
 intro Q w G a hF hh
 have v1:=hF.ev lo
 have v2:=hF.ev co
 rw [hlo] at v1
 rw [hco] at v2
 have v1:=v1.val_inv
 have v2:=v2.val_inv
 have hs:=Nat.eq_of_beq_eq_true hb.1
 have hbytes:=Nat.le_of_ble_eq_true hb.2
 have hr:=run_make (P:=P) w t e i z ht hi hzz k1 k2 (l:Int) (l:Int) om om (by
  have h1:(i.bytes:Int)≤32768:=by omega
  have h2:(i.bytes:Int)*(l:Int)≤32768*(l:Int):=Int.mul_le_mul_of_nonneg_right h1 om
  omega) om
 have hzl:(z.cells.toList.map AV.ofVal).length=z.cells.toList.length:=by simp
 have hr2:(execOp a.eval { dst:=dst,op:=.makeSlice t lo co,type:=type,pos:=pos,after:=after,guard:=guard }).run P w =
   .ok (.value (.slice (some ⟨w.heap.size,0,none⟩) l l)) (w.alloc (.cells (madeCells z.cells (l*i.size)) e)):=by
  simp only [execOp,v1,v2]
  simpa using Z1e hr
 unfold Oper.wp
 rw [hr2]
 have hmc:(madeCells z.cells (l*i.size)).toList=(List.replicate l z.cells.toList).flatten:=by
  rw [hs,←Zb7 _ (by rw [hzl] at hz;exact hz) l]
 rw [hzl] at hK
 obtain ⟨j1,j2⟩:=hh.alloc_rrow (madeCells z.cells (l*i.size)) e (ls:=(List.replicate l (z.cells.toList.map AV.ofVal)).flatten) (len:=l) (cap:=l) (k:=z.cells.toList.length) (Nat.le_refl _)
  (by rw [size_madeCells,hs]) (by simp) (by
   rw [hmc,List.take_of_length_le (by simp)]
   exact Zxs (Znr _) l)
 exact ⟨_,_,G,hK _,(hF.mono (j2.agree hh)).put (Z1o hd) .val,j1,j2⟩
theorem Zrl {w:World} {G:Prot} {v:Hd} {kk m:Nat} {ls:List AV} (h:Zi7 w G v.v kk ls) (hm:ls.length=m*kk) (hk:0<kk) (h0:0<m):∃g c,v=⟨some ⟨g,0,none⟩,m,c⟩:=by
 obtain ⟨a,l,c⟩:=v
 rcases h with ⟨h1,h2⟩|⟨g,len,cap,cur,e,h1,h2,h3,h4,h5,h6⟩
 ·subst h2
  have:=Nat.mul_pos h0 hk
  rw [List.length_nil] at hm
  omega
 ·cases h1
  have:l=m:=Nat.eq_of_mul_eq_mul_right hk (h5.symm.trans hm)
  subst this
  exact ⟨g,c,rfl⟩
theorem Z02j (j m:Nat) {v:Hd} {kk:Nat} {ls:List AV} {c:Code} {A:Post} (hj:h[j]? = some (.row v.v kk ls)) (hm:ls.length=m*kk) (hk:0<kk) (h0:0<m)
  (H:∀g c',v=⟨some ⟨g,0,none⟩,m,c'⟩→AWP P n c A F h):AWP P n c A F h:=by
 intro w G a hF hh
 obtain ⟨g,c',e⟩:=Zrl (hh.ok _ (List.mem_of_getElem? hj)) hm hk h0
 exact H g c' e w G a hF hh
theorem Zuf (t j:Nat) {v:Hd} {kk:Nat} {es:List AV} {c:Code} {A:Post} (hF':F.get t=.h v) (hp:Z4i [j] h=some [.row v.v kk (flat es)]) (hes:∀y∈es,y.leaves.length=kk) (hk:0<kk)
  (H:AWP P n c A ((t,.sl es (some v.v))::F) (.tail v.v kk::Z3h [j] h)):AWP P n c A F h:=by
 intro w G a hF hh
 have hp':=Z1g (Z2k hp)
 obtain ⟨G',h1,h2',h3⟩:=Z8q (hh.perm hp') hes hk
 have e:=h2'.perm hp'.symm (List.Perm.refl _)
 have hF2:=hF.mono (e.agree hh)
 have hv:=hF2.get t
 rw [hF'] at hv
 have hv:=hv.val_inv
 refine wp_mono (H w G' a ⟨hF2.defers,hF2.size,fun s=>?_⟩ h1) fun e' a' w' hc=>hc.trans e
 show RV w G' (match Nat.beq t s with|true=>_|false=>Fr.get F s) _
 cases hb:Nat.beq t s with
 | true=>
  have:=Nat.eq_of_beq_eq_true hb
  subst this
  rw [hv]
  exact h3
 | false=>exact hF2.get s
theorem Zoc (j i p:Nat) {u v:Value} {kk kv:Nat} {es ls:List AV} (hp:Z4i [j,i] h=some [.row u kk (flat es),.row v kv ls]) (hes:∀y∈es,y.leaves.length=kk) (hk:0<kk) (hl:ls[p]? = some (.val u)) :
  Turn h (.row v kv (ls.set p (.sl es (some u)))::.tail u kk::Z3h [j,i] h):=by
 intro w G hh
 have hp':=Z1g (Z2k hp)
 have hh':=hh.perm hp'
 obtain ⟨G',h1,h2',h3⟩:=Z8q (h2:=.row v kv ls::Z3h [j,i] h) hh' hes hk
 have e:=h2'.perm hp'.symm (List.Perm.refl _)
 have h1:HOk w G' (.tail u kk::.row v kv ls::Z3h [j,i] h):=h1
 have perm:(Res.tail u kk::.row v kv ls::Z3h [j,i] h).Perm (.row v kv ls::.tail u kk::Z3h [j,i] h):=List.Perm.swap ..
 have h4:=h1.perm perm
 have e4:=e.perm (List.Perm.refl _) perm
 have hset:∀{w:World} {G:Prot},RV w G (.sl es (some u)) u→Zi7 w G v kv ls→Zi7 w G v kv (ls.set p (.sl es (some u))):=by
  intro w G hu hr
  rcases hr with ⟨rfl,h0⟩|⟨g,len,cap,cur,el,rfl,k1,k2,k3,k4,k5⟩
  ·exact .inl ⟨rfl,by rw [h0];rfl⟩
  ·refine .inr ⟨g,len,cap,cur,el,rfl,k1,k2,k3,by rw [List.length_set];exact k4,?_⟩
   obtain ⟨c,c1,c2⟩:=k5.get p _ hl
   have:=c2.val_inv
   subst this
   have h6:=k5.set p hu
   rwa [show (cur.toList.take (len*kv)).set p c=cur.toList.take (len*kv) from by
    apply List.ext_getElem?
    intro q
    rw [List.getElem?_set]
    split
    ·rename_i hq;subst hq;split
     ·exact c1.symm
     ·rename_i hq2;rw [List.getElem?_eq_none om]
    ·rfl] at h6
 refine ⟨G',⟨fun r hr=>?_,?_,fun r hr=>?_,h4.lt⟩,⟨e4.os,e4.tape,e4.output,e4.size,e4.sub,e4.same,e4.newG,fun b o hb ⟨r,hr,hf⟩=>e4.newfp b o hb ?_⟩⟩
 ·rcases List.mem_cons.1 hr with rfl|hr
  ·exact hset h3 (h4.ok _ (List.mem_cons_self ..))
  ·exact h4.ok r (List.mem_cons_of_mem _ hr)
 ·have:=List.pairwise_cons.1 h4.apart
  refine List.pairwise_cons.2 ⟨fun r hr b o f1 f2=>this.1 r hr b o ?_ f2,this.2⟩
  cases v with
  | slice a _ _=>cases a with
   | none=>exact f1.elim
   | some a=>exact f1
  | _=>exact f1.elim
 ·rcases List.mem_cons.1 hr with rfl|hr
  ·intro b o f1 hg
   refine h4.prot (.row v kv ls) (List.mem_cons_self ..) b o ?_ hg
   cases v with
   | slice a _ _=>cases a with
    | none=>exact f1.elim
    | some a=>exact f1
   | _=>exact f1.elim
  ·exact h4.prot r (List.mem_cons_of_mem _ hr)
 ·rcases List.mem_cons.1 hr with rfl|hr
  ·refine ⟨.row v kv ls,List.mem_cons_self ..,?_⟩
   cases v with
   | slice a _ _=>cases a with
    | none=>exact hf.elim
    | some a=>exact hf
   | _=>exact hf.elim
  ·exact ⟨r,List.mem_cons_of_mem _ hr,hf⟩
def bund:List Res→Option (List (Value × Nat))
 | []=>some []
 | .tail v k::r=>(bund r).map ((v,k)::·)
 | .many ts::r=>(bund r).map (ts++·)
 | _=>none
theorem Zbg {b o:Nat}:∀{hs:List Res} {L:List (Value × Nat)},bund hs=some L→((∃p∈L,Zi1 p.1 p.2 b o)↔fps hs b o)
 | [],L,h=>by cases h;simp [fps]
 | .tail v k::r,L,h=>by
  rw [bund] at h
  cases hr:bund r with
  | none=>rw [hr] at h;cases h
  | some L'=>
   rw [hr] at h
   cases h
   have ih:=Zbg (b:=b) (o:=o) hr
   have ht:Res.fp (.tail v k) b o↔Zi1 v k b o:=by
    cases v with
    | slice a _ _=>cases a<;>exact Iff.rfl
    | _=>exact Iff.rfl
   simp only [fps,List.mem_cons,exists_eq_or_imp] at ih ⊢
   rw [ht,ih]
 | .many ts::r,L,h=>by
  rw [bund] at h
  cases hr:bund r with
  | none=>rw [hr] at h;cases h
  | some L'=>
   rw [hr] at h
   cases h
   have ih:=Zbg (b:=b) (o:=o) hr
   simp only [fps,List.mem_cons,exists_eq_or_imp] at ih ⊢
   rw [←ih]
   simp only [List.mem_append,Res.fp]
   constructor
   ·rintro ⟨p,hp|hp,hf⟩
    ·exact .inl ⟨p,hp,hf⟩
    ·exact .inr ⟨p,hp,hf⟩
   ·rintro (⟨p,hp,hf⟩|⟨p,hp,hf⟩)
    ·exact ⟨p,.inl hp,hf⟩
    ·exact ⟨p,.inr hp,hf⟩
 | .obj _ _::_,_,h=>by cases h
 | .ge _::_,_,h=>by cases h
 | .vec _ _::_,_,h=>by cases h
 | .own _ _::_,_,h=>by cases h
 | .row _ _ _::_,_,h=>by cases h
theorem Zoz {w:World} {G:Prot}:∀{hs:List Res} {L:List (Value × Nat)},bund hs=some L→(∀r∈hs,ROk w G r)→hs.Pairwise Disj→ROk w G (.many L)
 | [],L,h,_,_=>by cases h;exact ⟨by simp,.nil⟩
 | .tail v k::r,L,h,h1,h2=>by
  rw [bund] at h
  cases hr:bund r with
  | none=>rw [hr] at h;cases h
  | some L'=>
   rw [hr] at h
   cases h
   have hpw:=List.pairwise_cons.1 h2
   obtain ⟨i1,i2⟩:=Zoz (w:=w) (G:=G) hr (fun q hq=>h1 q (List.mem_cons_of_mem _ hq)) hpw.2
   refine ⟨fun p hp=>?_,List.pairwise_cons.2 ⟨fun p hp b o f1 f2=>?_,i2⟩⟩
   ·rcases List.mem_cons.1 hp with rfl|hp
    ·exact h1 (.tail v k) (List.mem_cons_self ..)
    ·exact i1 p hp
   ·obtain ⟨q,hq,hf⟩:=(Zbg hr).1 ⟨p,hp,f2⟩
    refine hpw.1 q hq b o ?_ hf
    cases v with
    | slice a _ _=>cases a<;>exact f1
    | _=>exact f1
 | .many ts::r,L,h,h1,h2=>by
  rw [bund] at h
  cases hr:bund r with
  | none=>rw [hr] at h;cases h
  | some L'=>
   rw [hr] at h
   cases h
   have hpw:=List.pairwise_cons.1 h2
   obtain ⟨i1,i2⟩:=Zoz (w:=w) (G:=G) hr (fun q hq=>h1 q (List.mem_cons_of_mem _ hq)) hpw.2
   obtain ⟨t1,t2⟩:=h1 (.many ts) (List.mem_cons_self ..)
   refine ⟨fun p hp=>?_,List.pairwise_append.2 ⟨t2,i2,fun p hp q hq b o f1 f2=>?_⟩⟩
   ·rcases List.mem_append.1 hp with hp|hp
    ·exact t1 p hp
    ·exact i1 p hp
   ·obtain ⟨s,hs,hf⟩:=(Zbg hr).1 ⟨q,hq,f2⟩
    exact hpw.1 s hs b o ⟨p,hp,f1⟩ hf
 | .obj _ _::_,_,h,_,_=>by cases h
 | .ge _::_,_,h,_,_=>by cases h
 | .vec _ _::_,_,h,_,_=>by cases h
 | .own _ _::_,_,h,_,_=>by cases h
 | .row _ _ _::_,_,h,_,_=>by cases h
theorem Zz1 (is:List Nat) {L:List (Value × Nat)} {hs:List Res} (hp:Z4i is h=some hs) (hb:bund hs=some L):Turn h (.many L::Z3h is h):=by
 intro w G hh
 have hp':=Z1g (Z2k hp)
 have hh':=hh.perm hp'
 have hpw:=List.pairwise_append.1 hh'.apart
 have hmany:=Zoz (w:=w) (G:=G) hb (fun r hr=>hh'.ok r (List.mem_append.2 (.inl hr))) hpw.1
 refine ⟨G,⟨fun r hr=>?_,List.pairwise_cons.2 ⟨fun r hr b o f1 f2=>?_,hpw.2.1⟩,fun r hr b o hf hg=>?_,hh'.lt⟩,
  ⟨rfl,rfl,rfl,Nat.le_refl _,fun _ _ h=>h,fun _ _=>.inl rfl,fun _ _ _ h=>.inl h,fun b o _ ⟨r,hr,hf⟩=>?_⟩⟩
 ·rcases List.mem_cons.1 hr with rfl|hr
  ·exact hmany
  ·exact hh'.ok r (List.mem_append.2 (.inr hr))
 ·exact hh'.cross ((Zbg hb).1 f1) ⟨r,hr,f2⟩
 ·rcases List.mem_cons.1 hr with rfl|hr
  ·obtain ⟨q,hq,hf⟩:=(Zbg hb).1 hf
   exact hh'.prot q (List.mem_append.2 (.inl hq)) b o hf hg
  ·exact hh'.prot r (List.mem_append.2 (.inr hr)) b o hf hg
 ·refine (Z7w hp').2 ?_
  rcases List.mem_cons.1 hr with rfl|hr
  ·exact Z48.2 (.inl ((Zbg hb).1 hf))
  ·exact Z48.2 (.inr ⟨r,hr,hf⟩)
end
end Go.Abs
end
section
namespace Go.Abs
structure HCon where
 fields:List Int
 fv:Value
structure HDecl where
 frm:Int
 to_:Int
 cons:List HCon
 cv:Value
mutual
inductive HStep where
 | mk (op num into:Int) (args:List Int) (av:Value) (kids:List HBlock) (kv:Value)
inductive HBlock where
 | mk (steps:List HStep) (sv:Value) (result:Int)
end
namespace HStep
def op:HStep→Int|.mk a _ _ _ _ _ _=>a
def num:HStep→Int|.mk _ a _ _ _ _ _=>a
def into:HStep→Int|.mk _ _ a _ _ _ _=>a
def args:HStep→List Int|.mk _ _ _ a _ _ _=>a
def av:HStep→Value|.mk _ _ _ _ a _ _=>a
def kids:HStep→List HBlock|.mk _ _ _ _ _ a _=>a
def kv:HStep→Value|.mk _ _ _ _ _ _ a=>a
end HStep
namespace HBlock
def steps:HBlock→List HStep|.mk a _ _=>a
def sv:HBlock→Value|.mk _ a _=>a
def result:HBlock→Int|.mk _ _ a=>a
end HBlock
structure HRoutine where
 params:List Int
 pv:Value
 lent:List Int
 lv:Value
 result:Int
 body:HBlock
structure HNormal where
 decls:List HDecl
 dv:Value
 routines:List HRoutine
 rv:Value
abbrev Znb (c:HCon):List AV:=[oInt c.fields c.fv]
abbrev Z02h (c:HCon):AV:=.agg (Znb c)
def Z2n (cs:List HCon):List AV:=cs.map Z02h
abbrev Zfk (xs:List HCon) (v:Value):AV:=.sl (Z2n xs) (some v)
abbrev Zf2 (d:HDecl):List AV:=[.i d.frm,.i d.to_,Zfk d.cons d.cv]
abbrev Zuc (d:HDecl):AV:=.agg (Zf2 d)
def Z1d (ds:List HDecl):List AV:=ds.map Zuc
abbrev Z4w (xs:List HDecl) (v:Value):AV:=.sl (Z1d xs) (some v)
mutual
def Zvq:HStep→AV
 | .mk op num into args av kids kv=>.agg [.i op,.i num,.i into,oInt args av,.sl (Z1c kids) (some kv)]
def Zpb:HBlock→AV
 | .mk steps sv result=>.agg [.sl (Z28 steps) (some sv),.i result]
def Z28:List HStep→List AV
 | []=>[]
 | s::ss=>Zvq s::Z28 ss
def Z1c:List HBlock→List AV
 | []=>[]
 | b::bs=>Zpb b::Z1c bs
end
abbrev Z3b (xs:List HStep) (v:Value):AV:=.sl (Z28 xs) (some v)
abbrev Z1w (xs:List HBlock) (v:Value):AV:=.sl (Z1c xs) (some v)
abbrev Zf3 (s:HStep):List AV:=[.i s.op,.i s.num,.i s.into,oInt s.args s.av,Z1w s.kids s.kv]
abbrev Zc6 (s:HStep):AV:=.agg (Zf3 s)
abbrev Z7m (b:HBlock):List AV:=[Z3b b.steps b.sv,.i b.result]
abbrev Z3i (b:HBlock):AV:=.agg (Z7m b)
abbrev Z6g (r:HRoutine):List AV:=[oInt r.params r.pv,oInt r.lent r.lv,.i r.result,Z3b r.body.steps r.body.sv,.i r.body.result]
abbrev Zgd (r:HRoutine):AV:=.agg (Z6g r)
def Z0x (rs:List HRoutine):List AV:=rs.map Zgd
abbrev Zx8 (xs:List HRoutine):AV:=.sl (Z0x xs) none
abbrev Z2z (xs:List HRoutine) (v:Value):AV:=.sl (Z0x xs) (some v)
abbrev Zam (n:HNormal):List AV:=[Z4w n.decls n.dv,Z2z n.routines n.rv]
abbrev Z2h (n:HNormal):AV:=.agg (Zam n)
theorem Zcf (s:HStep):Zvq s=Zc6 s:=by cases s;rw [Zvq];rfl
theorem Zag (b:HBlock):Zpb b=Z3i b:=by cases b;rw [Zpb];rfl
theorem Z5x:∀xs:List HStep,Z28 xs=xs.map Zc6
 | []=>by rw [Z28];rfl
 | s::ss=>by rw [Z28,Z5x ss,Zcf];rfl
theorem Z41:∀xs:List HBlock,Z1c xs=xs.map Z3i
 | []=>by rw [Z1c];rfl
 | b::bs=>by rw [Z1c,Z41 bs,Zag];rfl
@[simp] theorem Zkh (xs:List HCon):(Z2n xs).length=xs.length:=by simp [Z2n]
theorem Zce (xs ys:List HCon):Z2n (xs++ys)=Z2n xs++Z2n ys:=by simp [Z2n]
theorem Zdy (xs:List HCon):∀y∈Z2n xs,y.leaves.length=1:=by intro y hy;simp only [Z2n,List.mem_map] at hy;obtain ⟨x,_,rfl⟩:=hy;rfl
@[simp] theorem Zia (xs:List HDecl):(Z1d xs).length=xs.length:=by simp [Z1d]
theorem Zb3 (xs ys:List HDecl):Z1d (xs++ys)=Z1d xs++Z1d ys:=by simp [Z1d]
theorem Zbi (xs:List HDecl):∀y∈Z1d xs,y.leaves.length=3:=by intro y hy;simp only [Z1d,List.mem_map] at hy;obtain ⟨x,_,rfl⟩:=hy;rfl
@[simp] theorem Zb5 (xs:List HStep):(Z28 xs).length=xs.length:=by simp [Z5x]
theorem Zb4 (xs ys:List HStep):Z28 (xs++ys)=Z28 xs++Z28 ys:=by simp [Z5x]
theorem Zbj (xs:List HStep):∀y∈Z28 xs,y.leaves.length=5:=by intro y hy;simp only [Z5x,List.mem_map] at hy;obtain ⟨x,_,rfl⟩:=hy;rfl
@[simp] theorem Zgs (xs:List HBlock):(Z1c xs).length=xs.length:=by simp [Z41]
theorem Z5i (xs ys:List HBlock):Z1c (xs++ys)=Z1c xs++Z1c ys:=by simp [Z41]
theorem Z6e (xs:List HBlock):∀y∈Z1c xs,y.leaves.length=2:=by intro y hy;simp only [Z41,List.mem_map] at hy;obtain ⟨x,_,rfl⟩:=hy;rfl
@[simp] theorem Zdz (xs:List HRoutine):(Z0x xs).length=xs.length:=by simp [Z0x]
theorem Z8j (xs ys:List HRoutine):Z0x (xs++ys)=Z0x xs++Z0x ys:=by simp [Z0x]
theorem Z65 (xs:List HRoutine):∀y∈Z0x xs,y.leaves.length=5:=by intro y hy;simp only [Z0x,List.mem_map] at hy;obtain ⟨x,_,rfl⟩:=hy;rfl
theorem Zib (xs:List HRoutine):(flat (Z0x xs)).all AV.one=true:=Z70 fun y hy=>by simp only [Z0x,List.mem_map] at hy;obtain ⟨x,_,rfl⟩:=hy;rfl
def Z40 (c:HCon):List (Value × Nat):=[(c.fv,1)]
def Z1b (cs:List HCon):List (Value × Nat):=cs.flatMap Z40
def Z2f (d:HDecl):List (Value × Nat):=Z1b d.cons++[(d.cv,1)]
def Z0m (ds:List HDecl):List (Value × Nat):=ds.flatMap Z2f
mutual
def Z1v:HStep→List (Value × Nat)
 | .mk _ _ _ _ av kids kv=>(av,1)::(Zp kids++[(kv,2)])
def Z0d:HBlock→List (Value × Nat)
 | .mk steps sv _=>Z06 steps++[(sv,5)]
def Z06:List HStep→List (Value × Nat)
 | []=>[]
 | s::r=>Z1v s++Z06 r
def Zp:List HBlock→List (Value × Nat)
 | []=>[]
 | b::r=>Z0d b++Zp r
end
def Z0r (r:HRoutine):List (Value × Nat):=(r.pv,1)::(r.lv,1)::Z0d r.body
def Zl (rs:List HRoutine):List (Value × Nat):=rs.flatMap Z0r
def Zz (n:HNormal):List (Value × Nat):=Z0m n.decls++((n.dv,3)::(Zl n.routines++[(n.rv,5)]))
theorem Zaj (b:HBlock):Z0d b=Z06 b.steps++[(b.sv,5)]:=by cases b;rw [Z0d];rfl
theorem Z0j:∀(xs:List HStep) (ys:List HStep),Z06 (xs++ys)=Z06 xs++Z06 ys
 | [],ys=>by simp [Z06]
 | x::r,ys=>by rw [List.cons_append,Z06,Z06,Z0j r ys,List.append_assoc]
theorem Z01:∀(xs:List HBlock) (ys:List HBlock),Zp (xs++ys)=Zp xs++Zp ys
 | [],ys=>by simp [Zp]
 | x::r,ys=>by rw [List.cons_append,Zp,Zp,Z01 r ys,List.append_assoc]
theorem Z0o:Z06 []=[]:=by rw [Z06]
theorem Z04:Zp []=[]:=by rw [Zp]
theorem Z0u (xs ys:List HCon):Z1b (xs++ys)=Z1b xs++Z1b ys:=by simp [Z1b]
theorem Z0n (xs ys:List HDecl):Z0m (xs++ys)=Z0m xs++Z0m ys:=by simp [Z0m]
theorem Zr (xs ys:List HRoutine):Zl (xs++ys)=Zl xs++Zl ys:=by simp [Zl]
def HCon.er (c:HCon):Con:=⟨c.fields⟩
def HDecl.er (d:HDecl):Decl:=⟨d.frm,d.to_,d.cons.map HCon.er⟩
mutual
def HStep.er:HStep→Step
 | .mk op num into args _ kids _=>.mk op num into args (erBs kids)
def HBlock.er:HBlock→Block
 | .mk steps _ result=>.mk (erSs steps) result
def erSs:List HStep→List Step
 | []=>[]
 | s::r=>s.er::erSs r
def erBs:List HBlock→List Block
 | []=>[]
 | b::r=>b.er::erBs r
end
def HRoutine.er (r:HRoutine):Routine:=⟨r.params,r.lent,r.result,r.body.er⟩
def HNormal.er (n:HNormal):Normal:=⟨n.decls.map HDecl.er,n.routines.map HRoutine.er⟩
theorem Zfx:∀xs:List HStep,erSs xs=xs.map HStep.er
 | []=>by rw [erSs];rfl
 | x::r=>by rw [erSs,Zfx r];rfl
theorem Zfw:∀xs:List HBlock,erBs xs=xs.map HBlock.er
 | []=>by rw [erBs];rfl
 | x::r=>by rw [erBs,Zfw r];rfl
inductive EsLe:List AV→List AV→Prop
 | nil:EsLe [] []
 | cons {x y:AV} {xs ys:List AV} (hl:x.leaves.length=y.leaves.length) (h:LsLe x.leaves y.leaves) (t:EsLe xs ys):EsLe (x::xs) (y::ys)
theorem EsLe.length:∀{xs ys:List AV},EsLe xs ys→xs.length=ys.length
 | _,_,.nil=>rfl
 | _,_,.cons _ _ t=>by simp [t.length]
theorem EsLe.els {w:World} {G:Prot} {k b:Nat}:∀{o:Nat} {xs ys:List AV},EsLe xs ys→REls w G k b o xs→REls w G k b o ys
 | _,_,_,.nil,_=>.nil
 | _,_,_,.cons hl h t,.cons hk hm r=>.cons (hl▸hk) (h.mem hm) (t.els r)
theorem AVLe.els {es es':List AV} (hv:Option Value) (h:EsLe es es'):AVLe (.sl es hv) (.sl es' none):=by
 intro w G v hr
 cases hr with
 | nil _=>cases h;exact .nil (by simp)
 | sl _ hc hm=>rw [h.length] at hc ⊢;exact .sl (by simp) hc (h.els hm)
theorem EsLe.map {α β:Type} {f:α→AV} {g:β→AV} {e:α→β} (h:∀x,(f x).leaves.length=(g (e x)).leaves.length∧LsLe (f x).leaves (g (e x)).leaves):∀xs:List α,EsLe (xs.map f) ((xs.map e).map g)
 | []=>.nil
 | x::r=>.cons (h x).1 (h x).2 (EsLe.map h r)
theorem Z00o (c:HCon):LsLe (Znb c) (lCon c.er):=.cons (AVLe.forget _ _) .nil
theorem Zvw (cs:List HCon):EsLe (Z2n cs) (Z37 (cs.map HCon.er)):=EsLe.map (f:=Z02h) (g:=aCon) (e:=HCon.er) (fun c=>⟨rfl,Z00o c⟩) cs
theorem Zx3 (d:HDecl):LsLe (Zf2 d) (Z2g d.er):=.cons (AVLe.refl _) (.cons (AVLe.refl _) (.cons (AVLe.els _ (Zvw _)) .nil))
theorem Zsr (ds:List HDecl):EsLe (Z1d ds) (Z0i (ds.map HDecl.er)):=EsLe.map (f:=Zuc) (g:=Z2s) (e:=HDecl.er) (fun c=>⟨rfl,Zx3 c⟩) ds
mutual
theorem Zx4:∀s:HStep,LsLe (Zf3 s) (Z02 s.er)
 | .mk op num into args av kids kv=>by
  rw [HStep.er]
  exact .cons (AVLe.refl _) (.cons (AVLe.refl _) (.cons (AVLe.refl _) (.cons (AVLe.forget _ _) (.cons (AVLe.els _ (Zgv kids)) .nil))))
theorem Zjm:∀b:HBlock,LsLe (Z7m b) (Z03 b.er)
 | .mk steps sv result=>by
  rw [HBlock.er]
  exact .cons (AVLe.els _ (Zj5 steps)) (.cons (AVLe.refl _) .nil)
theorem Zj5:∀xs:List HStep,EsLe (Z28 xs) (Zo (erSs xs))
 | []=>by rw [Z28,erSs,Zo];exact .nil
 | s::r=>by
  rw [Z28,erSs,Zo,Zcf,Zqv]
  exact .cons rfl (Zx4 s) (Zj5 r)
theorem Zgv:∀xs:List HBlock,EsLe (Z1c xs) (Z19 (erBs xs))
 | []=>by rw [Z1c,erBs,Z19];exact .nil
 | s::r=>by
  rw [Z1c,erBs,Z19,Zag,Zmo]
  exact .cons rfl (Zjm s) (Zgv r)
end
theorem Znh (r:HRoutine):LsLe (Z6g r) (Z1s r.er):=by
 have h:=Zjm r.body
 cases h with
 | cons h1 t=>cases t with
  | cons h2 _=>exact .cons (AVLe.forget _ _) (.cons (AVLe.forget _ _) (.cons (AVLe.refl _) (.cons h1 (.cons h2 .nil))))
theorem Zkm (rs:List HRoutine):EsLe (Z0x rs) (Z0p (rs.map HRoutine.er)):=EsLe.map (f:=Zgd) (g:=Z0s) (e:=HRoutine.er) (fun c=>⟨rfl,Znh c⟩) rs
theorem Zpl (n:HNormal):LsLe (Zam n) (Zh n.er):=.cons (AVLe.els _ (Zsr _)) (.cons (AVLe.els _ (Zkm _)) .nil)
theorem Z7d (n:HNormal):AVLe (Z2h n) (Zi n.er):=AVLe.agg (Zpl n)
theorem Z3.args_le {P:Program} {f:FuncId} {as1 xs:List AV} {h:List Res} {R:AV→List Res→Prop} (H:Z3 P f xs h R) (hle:LsLe as1 xs):Z3 P f as1 h R:=
 fun w G vs hvs hh=>H w G vs (hle.cs hvs) hh
theorem Z98 {es:List AV} {k:Nat} (h:es.all (fun y=>Nat.beq y.leaves.length k)=true):∀y∈es,y.leaves.length=k:=fun y hy=>Nat.eq_of_beq_eq_true (List.all_eq_true.1 h y hy)
abbrev rK (g:Hd) (k:Nat) (ls:List AV):Res:=.row g.v k ls
section
variable {P:Program} {n:Nat} {c:Code} {A:Post} {F:Fr} {h:List Res} {ops:Array Oper} {B:Fr→List Res→Prop} {k:Nat}
variable {T:List (Nat × List Nat)} {fuel:Nat} {done:List Nat}
theorem tB (is:List Nat) (hs:List Res) (L' L:List (Value × Nat)) (e:L'=L) (hp:Z4i is h=some hs:=by kernel_rfl) (hb:bund hs=some L':=by kernel_rfl):Turn h (.many L::Z3h is h):=e▸Zz1 is hp hb
theorem rr {v:Value} {q:Nat} {ls ls':List AV} {t t':List Res} (h:ls=ls') (e:t=t'):Res.row v q ls::t=.row v q ls'::t':=h▸e▸rfl
theorem kLen (j m:Nat) (v:Hd) (kk:Nat) (ls:List AV) (hm:ls.length=m*kk) (hk:0<kk:=by omega) (hl:Zky P ops F k=some (.h v):=by kernel_rfl) (hj:h[j]? = some (rK v kk ls):=by kernel_rfl):StOK P (opAt ops k) F h [] (.i m):=
 Z04r j hl hj hm hk
theorem kIdx (b l c' q sz:Nat) (j:Int) (hq:j=(q:Int)∧q<l:=by omega) (hi:Z7y P ops F k=some (.val (.slice (some ⟨b,0,none⟩) l c'),j,sz):=by kernel_rfl):StOK P (opAt ops k) F h [] (.val (.pointer (some ⟨b,q*sz,none⟩))):=by
 have:=Z9h (P:=P) (F:=F) (h:=h) hi om om
 rw [hq.1,Int.toNat_natCast,Nat.zero_add] at this
 exact this
theorem Zwq (j g len cap kk o:Nat) (ls zs:List AV) (t:TypeId) (y:AV) (hz:(ls.drop o).take zs.length=zs) (hl:Zpk ops F k=some (t,.val (.pointer (some ⟨g,o,none⟩))):=by kernel_rfl) (hj:h[j]? = some (.row (.slice (some ⟨g,0,none⟩) len cap) kk ls):=by kernel_rfl)
  (hy:Zcv P t zs=some y:=by kernel_rfl):StOK P (opAt ops k) F h [g] y:=Zyr j hl hj hz hy
theorem iKS (j g len cap kk o:Nat) (xs ls:List AV) (ls':List AV) (hlt:o+xs.length≤ls.length) (he:ls.take o++xs++ls.drop (o+xs.length)=ls') (H:SI P n ops B (k+1) F (.row (.slice (some ⟨g,0,none⟩) len cap) kk ls'::Z3h [j] h)) (hk:okAt n ops F k=true:=by kernel_rfl)
  (hs:storeAt P ops F k=some (g,o,xs):=by kernel_rfl) (hp:Z4i [j] h=some [.row (.slice (some ⟨g,0,none⟩) len cap) kk ls]:=by kernel_rfl):SI P n ops B k F h:=
 i_op hk (OpOK.perm (Z1g (Z2k hp)) (Znn hs hlt (by rw [he];exact H)))
theorem dKS (i j:Nat) (js bs:List Nat) (g len cap kk o:Nat) (xs ls:List AV) (ls':List AV) (hlt:o+xs.length≤ls.length) (he:ls.take o++xs++ls.drop (o+xs.length)=ls')
  (H:DGo P n ops B (T.filter fun t=>!befB ops i t.1) fuel (done++[i]) F (.row (.slice (some ⟨g,0,none⟩) len cap) kk ls'::Z3h [j] h)) (hk:okAt n ops F i=true:=by kernel_rfl)
  (hs:storeAt P ops F i=some (g,o,xs):=by kernel_rfl) (hp:Z4i [j] h=some [.row (.slice (some ⟨g,0,none⟩) len cap) kk ls]:=by kernel_rfl) (ho:Z9c ops i T=bs:=by kernel_rfl)
  (hj:js.map (fun q=>(Z16 (Z3h [j] h))[q]?)=bs.map some:=by kernel_rfl):DOp P n ops B T fuel done F h i:=
 dop [j] js bs hk (Z2k hp) ho hj (Znn (h2:=[]) hs hlt (by rw [he];exact H))
theorem iKL (sz:Nat) (hK:∀g,SI P n ops B (k+1) (F.put (opAt ops k).dst (.val (.slice (some ⟨g,0,none⟩) 0 0))) (.row (.slice (some ⟨g,0,none⟩) 0 0) sz []::h)) (hk:okAt n ops F k=true:=by kernel_rfl)
  (ha:Zeb P ops F k=some ([],0,sz):=by kernel_rfl):SI P n ops B k F h:=i_op hk (Z03x (Z1j hk).2.1 ha hK)
theorem iKC (j g sz:Nat) (xs:List AV) (hx:Option Value) (hxs:∀y∈xs,y.leaves.length=sz) (hbound:xs.length≤4294967296) (hK:∀v:Hd,SI P n ops B (k+1) (F.put (opAt ops k).dst (.h v)) (rK v sz (flat xs)::Z3h [j] h))
  (hk:okAt n ops F k=true:=by kernel_rfl) (ha:Z3p P ops F k=some (.val (.slice (some ⟨g,0,none⟩) 0 0),.sl xs hx,sz):=by kernel_rfl) (hp:Z4i [j] h=some [.row (.slice (some ⟨g,0,none⟩) 0 0) sz []]:=by kernel_rfl):SI P n ops B k F h:=
 i_op hk (OpOK.perm (Z1g (Z2k hp)) (Zxg (Z1j hk).2.1 ha hxs hbound hK))
theorem iKM (l:Nat) (zs:List AV) (kk:Nat) (hK:∀g,SI P n ops B (k+1) (F.put (opAt ops k).dst (.val (.slice (some ⟨g,0,none⟩) l l))) (.row (.slice (some ⟨g,0,none⟩) l l) kk (List.replicate l zs).flatten::h)) (hl:l≤4294967296:=by omega)
  (hk:okAt n ops F k=true:=by kernel_rfl) (hm:Zpm P ops F k=some ((l:Int),(l:Int),zs):=by kernel_rfl) (hz:zs.length=kk:=by rfl) (hk0:0<kk:=by omega):SI P n ops B k F h:=by
 subst hz
 exact i_op hk (Z00u (Z1j hk).2.1 hm hl hk0 hK)
theorem Z05v (j m:Nat) {v:Hd} {kk:Nat} {ls:List AV} (hm:ls.length=m*kk) (h0:0<m) (H:∀g c',v=⟨some ⟨g,0,none⟩,m,c'⟩→AWP P n c A F h) (hk:0<kk:=by omega) (hj:h[j]? = some (rK v kk ls):=by kernel_rfl):AWP P n c A F h:=
 Z02j j m hj hm hk h0 H
theorem kFrz (t j:Nat) {v:Hd} {kk:Nat} (es:List AV) (hes:∀y∈es,y.leaves.length=kk) (H:AWP P n c A ((t,.sl es (some v.v))::F) (.tail v.v kk::Z3h [j] h)) (hk:0<kk:=by omega) (hF':F.get t=.h v:=by kernel_rfl)
  (hp:Z4i [j] h=some [rK v kk (flat es)]:=by kernel_rfl):AWP P n c A F h:=Zuf t j hF' hp hes hk H
theorem tFrz (j i p:Nat) (u v:Value) (kk kv:Nat) (es ls:List AV) (hes:∀y∈es,y.leaves.length=kk) (hl:ls[p]? = some (.val u)) (hk:0<kk:=by omega) (hp:Z4i [j,i] h=some [.row u kk (flat es),.row v kv ls]:=by kernel_rfl) :
  Turn h (.row v kv (ls.set p (.sl es (some u)))::.tail u kk::Z3h [j,i] h):=Zoc j i p hp hes hk hl
theorem Z6q {A xs ys B:List AV} {o:Nat} (hA:A.length=o) (hl:xs.length=ys.length):(A++(xs++B)).take o++ys++(A++(xs++B)).drop (o+ys.length)=A++(ys++B):=by
 subst hA
 rw [List.take_left,←hl,←List.drop_drop,List.drop_left,List.drop_left,List.append_assoc]
theorem Zld {A xs B:List AV} {o:Nat} (hA:A.length=o):((A++(xs++B)).drop o).take xs.length=xs:=by
 subst hA
 rw [List.drop_left,List.take_left]
theorem Z2q (xs ys:List AV):flat (xs++ys)=flat xs++flat ys:=by simp [flat]
theorem tRow (j:Nat) (v:Value) (q:Nat) (ls ls':List AV) (e:ls=ls') (hp:Z4i [j] h=some [.row v q ls]:=by kernel_rfl):Turn h (.row v q ls'::Z3h [j] h):=by
 subst e
 intro w G hh
 have hp':=Z1g (Z2k hp)
 exact ⟨G,hh.perm hp',(Ext.refl w G h).perm (List.Perm.refl _) hp'⟩
end
end Go.Abs
end
section
namespace Go.Abs
abbrev Mem:=Nat→Nat→Option Value
abbrev Adr:=Nat × Nat
def upd (m:Mem) (a:Adr) (z:Int):Mem:=fun g o=>if g=a.1∧o=a.2 then some (.int .i64 z) else m g o
def wr (m:Mem):List Adr→Int→Mem
 | [],_=>m
 | a::r,k=>wr (upd m a k) r (k+1)
def hold (m:Mem):List Adr→Int→Prop
 | [],_=>True
 | a::r,k=>m a.1 a.2=some (.int .i64 k)∧hold m r (k+1)
theorem Zfc:∀(as1 bs:List Adr) (m:Mem) (k:Int),wr m (as1++bs) k=wr (wr m as1 k) bs (k+as1.length)
 | [],bs,m,k=>by simp [wr]
 | a::r,bs,m,k=>by
  rw [List.cons_append,wr,wr,Zfc r bs,List.length_cons]
  congr 1
  omega
theorem Z50:∀(as1 bs:List Adr) (m:Mem) (k:Int),hold m (as1++bs) k↔hold m as1 k∧hold m bs (k+as1.length)
 | [],bs,m,k=>by simp [hold]
 | a::r,bs,m,k=>by
  rw [List.cons_append,hold,hold,Z50 r bs,List.length_cons,and_assoc,show k+1+(r.length:Int)=k+((r.length+1:Nat):Int) by omega]
theorem Zs3:∀(as1:List Adr) (m:Mem) (k:Int) (b:Adr),b∉as1→wr m as1 k b.1 b.2=m b.1 b.2
 | [],m,k,b,_=>rfl
 | a::r,m,k,b,h=>by
  rw [wr,Zs3 r _ _ b fun q=>h (List.mem_cons_of_mem _ q),upd,if_neg]
  rintro ⟨h1,h2⟩
  exact h (by rw [show b=a from Prod.ext h1 h2];exact List.mem_cons_self ..)
theorem Zph:∀(as1:List Adr) (m:Mem) (k:Int),as1.Nodup→hold (wr m as1 k) as1 k
 | [],m,k,_=>trivial
 | a::r,m,k,h=>by
  have hn:=List.nodup_cons.1 h
  refine ⟨?_,Zph r _ _ hn.2⟩
  rw [wr,Zs3 r _ _ a hn.1,upd,if_pos ⟨rfl,rfl⟩]
def isI (m:Mem) (a:Adr):Prop:=∃z,m a.1 a.2=some (.int .i64 z)
structure Kp (m m':Mem):Prop where
 i:∀{a:Adr},isI m a→isI m' a
 h:∀{g o:Nat} {v:Value},m g o=some v→(∀z,v≠.int .i64 z)→m' g o=some v
theorem Kp.refl (m:Mem):Kp m m:=⟨id,fun h _=>h⟩
theorem Kp.upd {m m':Mem} (k:Kp m m') {b:Adr} (hb:isI m b) (z:Int):Kp m (upd m' b z):=by
 refine ⟨fun {a} h=>?_,fun {g o v} h hv=>?_⟩
 ·by_cases e:a=b
  ·subst e;exact ⟨z,if_pos ⟨rfl,rfl⟩⟩
  ·obtain ⟨y,hy⟩:=k.i h
   exact ⟨y,(if_neg fun q=>e (Prod.ext q.1 q.2)).trans hy⟩
 ·show (if g=b.1∧o=b.2 then some (Value.int .i64 z) else m' g o)=some v
  rw [if_neg]
  ·exact k.h h hv
  ·rintro ⟨rfl,rfl⟩
   obtain ⟨y,hy⟩:=hb
   rw [h] at hy
   exact hv y (Option.some.inj hy)
theorem Kp.wr:∀{as1:List Adr} {m m':Mem},Kp m m'→(∀a∈as1,isI m a)→∀z:Int,Kp m (wr m' as1 z)
 | [],_,_,k,_,_=>k
 | a::_,_,_,k,h,z=>Kp.wr (k.upd (h a (List.mem_cons_self ..)) z) (fun b hb=>h b (List.mem_cons_of_mem _ hb)) (z+1)
theorem Kp.trans {m m' m'':Mem} (a:Kp m m') (b:Kp m' m''):Kp m m'':=⟨fun h=>b.i (a.i h),fun h hv=>b.h (a.h h hv) hv⟩
def HdOk (B:List Nat) (v:Value) (n:Nat):Prop:=(v=nilV∧n=0)∨∃g cap,v=.slice (some ⟨g,0,none⟩) n cap∧g∈B
theorem HdOk.ni {B:List Nat} {v:Value} {n:Nat} (h:HdOk B v n):∀z,v≠.int .i64 z:=by
 intro z e
 rcases h with ⟨rfl,_⟩|⟨g,cap,rfl,_⟩<;>cases e
theorem HdOk.blk {B:List Nat} {v:Value} {n i:Nat} (h:HdOk B v n) (hi:i<n):vblk v∈B∧∃cap,v=.slice (some ⟨vblk v,0,none⟩) n cap:=by
 rcases h with ⟨rfl,rfl⟩|⟨g,cap,rfl,hg⟩
 ·omega
 ·exact ⟨hg,cap,rfl⟩
section
variable {P:Program} {n:Nat} {ops:Array Oper} {B:Fr→List Res→Prop} {k:Nat} {F:Fr} {h h2:List Res}
theorem Z04q {S:List Nat} {v:Value} {m:Nat} (hh:HdOk S v m) (hl:Zky P ops F k=some (.val v)):StOK P (opAt ops k) F h [] (.val (.int .i64 m)):=by
 unfold Zky at hl
 generalize hoo:opAt ops k=o at hl
 obtain ⟨dst,op,type,pos,after,guard⟩:=o
 cases op<;>simp only at hl<;>try (cases hl)
 rename_i c
 obtain ⟨callee,args,tys⟩:=c
 simp only at hl
 split at hl
 ·rename_i x t hargs htys
  split at hl
  ·rename_i el hu
   simp only [Option.some.injEq] at hl
   intro n w G a hF hh'
   have hv:=hF.ev x
   rw [hl] at hv
   have hv:=hv.val_inv
   obtain ⟨ad,cap,rfl⟩:∃ad cap,v=.slice ad m cap:=by
    rcases hh with ⟨rfl,rfl⟩|⟨g,cap,rfl,_⟩
    ·exact ⟨none,0,rfl⟩
    ·exact ⟨_,cap,rfl⟩
   have e1:args=#[x]:=by rw [←Array.toArray_toList (xs:=args),hargs]
   have e2:tys=#[t]:=by rw [←Array.toArray_toList (xs:=tys),htys]
   subst e1;subst e2
   exact ⟨_,.val,fun w' _ _=>by simp [execOp,resolve,invoke,builtin,hv,Builtin.len_,Zu hu,goInt]⟩
  ·cases hl
 ·cases hl
theorem oLen (S:List Nat) (v:Value) (m:Nat) (hh:HdOk S v m) (hl:Zky P ops F k=some (.val v):=by kernel_rfl):StOK P (opAt ops k) F h [] (.i m):=Z04q hh hl
theorem oIdx (S:List Nat) (v:Value) (m q sz:Nat) (j:Int) (hh:HdOk S v m) (hq:j=(q:Int)∧q<m:=by omega) (hi:Z7y P ops F k=some (.val v,j,sz):=by kernel_rfl) :
  StOK P (opAt ops k) F h [] (.val (.pointer (some ⟨vblk v,q*sz,none⟩))):=by
 obtain ⟨_,cap,e⟩:=hh.blk hq.2
 rw [e] at hi
 have:=Z9h (P:=P) (F:=F) (h:=h) hi om om
 rw [hq.1,Int.toNat_natCast,Nat.zero_add] at this
 exact this
theorem oGet (j:Nat) (S:List Nat) (m:Mem) (g o:Nat) (y:Value) (hg:g∈S) (hm:m g o=some y) (hl:Zhe P ops F k=some (.val (.pointer (some ⟨g,o,none⟩))):=by kernel_rfl) (hj:h[j]? = some (.own S m):=by kernel_rfl) :
  StOK P (opAt ops k) F h [g] (.val y):=by
 unfold Zhe at hl
 generalize hoo:opAt ops k=q at hl
 obtain ⟨dst,op,type,pos,after,guard⟩:=q
 cases op<;>simp only at hl<;>try (cases hl)
 rename_i t x
 split at hl
 ·rename_i hagg
  simp only [Option.some.injEq] at hl
  intro n w G a hF hh
  have hv:=hF.ev x
  rw [hl] at hv
  have hv:=hv.val_inv
  obtain ⟨cs,e,h1,h2⟩:=hh.ok _ (List.mem_of_getElem? hj) g hg
  refine ⟨y,.val,fun w' _ hw=>?_⟩
  have hrow:=hw g (by simp)
  rw [h1] at hrow
  simp only [execOp,hv]
  refine Z1e ?_
  simp only [Instr.loadAt,Instr.sureAddr,Sem.run_bind,Sem.run_pure,Result.andThen_ok,loadVar,Z8s hagg]
  have:=cell_of_row w' g o cs e (0,0) hrow
  rw [h2,hm] at this
  simp [load,Sem.run,this]
 ·cases hl
theorem Zxf {K:Fr→List Res→Prop} {S:List Nat} {m:Mem} {g o:Nat} {z:Int} (hs:storeAt P ops F k=some (g,o,[.i z])) (hg:g∈S) (hi:isI m (g,o))
  (hK:K F (.own S (upd m (g,o) z)::h2)):OpOK P n (opAt ops k) F (.own S m::h2) K:=by
 unfold storeAt at hs
 generalize hoo:opAt ops k=q at hs
 obtain ⟨dst,op,type,pos,after,guard⟩:=q
 cases op<;>simp only at hs<;>try (cases hs)
 rename_i t x y
 split at hs
 ·rename_i b' o' inf hx hi'
  split at hs
  ·rename_i hc
   simp only [Bool.and_eq_true] at hc
   simp only [Option.some.injEq,Prod.mk.injEq] at hs
   obtain ⟨rfl,rfl,hz⟩:=hs
   intro Q w G a hF hh
   have hvx:=hF.ev x
   rw [hx] at hvx
   have hvx:=hvx.val_inv
   have hvy:=hF.ev y
   have hcs:=hvy.cells hc.2.1
   rw [hz] at hcs hc
   have hone:=hcs.one_cells hc.2.2
   have hsz:inf.size=1:=Nat.eq_of_beq_eq_true hc.1
   obtain ⟨c,hc1⟩:∃c,(a.eval y).cells.toList=[c]:=by
    have:=hcs.length
    cases hq:(a.eval y).cells.toList with
    | nil=>rw [hq] at this;simp at this
    | cons c r=>cases r with
     | nil=>exact ⟨c,rfl⟩
     | cons _ _=>rw [hq] at this;simp at this
   have hlen:(a.eval y).cells.size=1:=by rw [←Array.length_toList,hc1];rfl
   rw [hc1] at hcs
   have hcz:c=.int .i64 z:=by
    cases hcs with
    | cons h _=>exact h.val_inv
   subst hcz
   have hmem:Res.own S m∈Res.own S m::h2:=List.mem_cons_self ..
   obtain ⟨cs,e,h1,hcell⟩:=hh.ok _ hmem b' hg
   obtain ⟨old,hold⟩:=hi
   have hlt:o'<cs.size:=by
    have:=hcell o'
    have hq:cs[o']? = some (.int .i64 old):=this.trans hold
    exact (Array.getElem?_eq_some_iff.1 hq).1
   have hst:=run_storeCells_at P b' o' e (a.eval y).cells.toList 0 cs w h1 (by simp [hlen];omega) hone
   simp only [Nat.add_zero,Array.length_toList] at hst
   have hr:(execOp a.eval { dst:=none,op:=.store t x y,type:=type,pos:=pos,after:=after,guard:=guard }).run P w =
     .ok .skip (w.setRow b' (cs.toList.take o'++(a.eval y).cells.toList++cs.toList.drop (o'+(a.eval y).cells.size)).toArray):=by
    simp only [execOp,hvx]
    simp [Instr.storeAt,Instr.sureAddr,storeVar,Z2m hi',hlen,hsz,hst]
   unfold Oper.wp
   rw [hr]
   have hset:(cs.toList.take o'++(a.eval y).cells.toList++cs.toList.drop (o'+(a.eval y).cells.size))=cs.toList.set o' (.int .i64 z):=by
    rw [hc1,hlen]
    exact Z9d cs.toList o' _ (by simpa using hlt)
   rw [hset]
   have hA:Agree G w (w.setRow b' (cs.toList.set o' (.int .i64 z)).toArray) G:=⟨fun c j hg'=>by
    have hne:c≠b':=fun he=>hh.prot _ hmem c j (by rw [he];exact hg) hg'
    simp [World.cell?,Zk w b' c _ hne],fun _ _ h=>h⟩
   have e1:Ext w G [.own S m] (w.setRow b' (cs.toList.set o' (.int .i64 z)).toArray) G [.own S (upd m (b',o') z)]:=by
    refine ⟨rfl,rfl,rfl,by simp [World.setRow],fun _ _ h=>h,?_,fun _ _ _ h=>.inl h,?_⟩
    ·intro c hc'
     by_cases hcb:c=b'
     ·subst hcb
      exact .inr ⟨cs,_,e,(0,0),h1,setRow_heap w c cs _ e (0,0) h1,by simp,fun j hj=>absurd ⟨_,List.mem_cons_self ..,hg⟩ hj⟩
     ·exact .inl (Zk w b' c _ hcb)
    ·rintro c j _ ⟨r,hr,hf⟩
     rw [List.mem_singleton.1 hr] at hf
     exact ⟨_,List.mem_cons_self ..,hf⟩
   have e2:HOk (w.setRow b' (cs.toList.set o' (.int .i64 z)).toArray) G [.own S (upd m (b',o') z)]:=by
    refine ⟨fun r hr=>?_,List.pairwise_singleton _ _,fun r hr c j hf hg'=>?_,fun c j hg'=>?_⟩
    ·rw [List.mem_singleton.1 hr]
     intro c hc'
     by_cases hcb:c=b'
     ·subst hcb
      refine ⟨_,e,setRow_heap w c cs _ e (0,0) h1,fun j=>?_⟩
      show (cs.toList.set o' (.int .i64 z)).toArray[j]? = if c=c∧j=o' then some (.int .i64 z) else m c j
      simp only [List.getElem?_toArray,List.getElem?_set]
      by_cases hj:o'=j
      ·subst hj;simp [hlt]
      ·rw [if_neg hj,if_neg (by intro q;exact hj q.2.symm)]
       simpa using hcell j
     ·obtain ⟨ds,e',k1,k2⟩:=hh.ok _ hmem c hc'
      refine ⟨ds,e',(Zk w b' c _ hcb).trans k1,fun j=>(k2 j).trans ?_⟩
      show m c j=if c=b'∧j=o' then _ else m c j
      rw [if_neg fun q=>hcb q.1]
    ·rw [List.mem_singleton.1 hr] at hf
     exact hh.prot _ hmem c j hf hg'
    ·have:=hh.lt c j hg'
     simpa [World.setRow] using this
   obtain ⟨j1,j2⟩:=HOk.frame (h:=[.own S m]) (k:=h2) hh e1 e2
   refine ⟨F,_,G,hK,?_,j1,j2⟩
   have:=hF.mono (j2.agree hh)
   simpa [Act.put] using this
  ·cases hs
 ·cases hs
theorem iOS (j:Nat) (S:List Nat) (m:Mem) (g o:Nat) (z:Int) (hg:g∈S) (hi:isI m (g,o)) (H:SI P n ops B (k+1) F (.own S (upd m (g,o) z)::Z3h [j] h)) (hk:okAt n ops F k=true:=by kernel_rfl)
  (hs:storeAt P ops F k=some (g,o,[.i z]):=by kernel_rfl) (hp:Z4i [j] h=some [.own S m]:=by kernel_rfl):SI P n ops B k F h:=
 i_op hk (OpOK.perm (Z1g (Z2k hp)) (Zxf hs hg hi H))
theorem Zpv {S:List Nat} {m m':Mem} {t t':List Res} (h:m=m') (e:t=t'):Res.own S m::t=.own S m'::t':=h▸e▸rfl
end
end Go.Abs
end
section
namespace Go.Abs
def blks (ts:List (Value × Nat)):List Nat:=ts.filterMap (·.1.ownBlock)
theorem Z42 (a b:List (Value × Nat)):blks (a++b)=blks a++blks b:=by simp [blks]
theorem HdOk.own {B:List Nat} {v:Value} {n:Nat} (h:HdOk B v n) (h0:0<n) (k:Nat):vblk v∈blks [(v,k)]:=by
 rcases h with ⟨rfl,rfl⟩|⟨g,cap,rfl,hg⟩
 ·omega
 ·simp [blks,vblk,Value.ownBlock]
def adI (g:Nat):Nat→Nat→List Adr
 | _,0=>[]
 | o,n+1=>(g,o)::adI g (o+1) n
def Zzb (c:HCon):List Adr:=adI (vblk c.fv) 0 c.fields.length
def Z2w:List HCon→List Adr
 | []=>[]
 | c::r=>Zzb c++Z2w r
def Zgh (g o:Nat) (d:HDecl):List Adr:=(g,o)::(g,o+1)::Z2w d.cons
def Z12 (g:Nat):Nat→List HDecl→List Adr
 | _,[]=>[]
 | o,d::r=>Zgh g o d++Z12 g (o+3) r
mutual
def Z8g (g o:Nat):HStep→List Adr
 | .mk _ _ _ args av kids kv=>(g,o)::(g,o+1)::(g,o+2)::(adI (vblk av) 0 args.length++Z07 (vblk kv) 0 kids)
def Z5s (g o:Nat):HBlock→List Adr
 | .mk steps sv _=>Ze (vblk sv) 0 steps++[(g,o+1)]
def Ze (g:Nat):Nat→List HStep→List Adr
 | _,[]=>[]
 | o,s::r=>Z8g g o s++Ze g (o+5) r
def Z07 (g:Nat):Nat→List HBlock→List Adr
 | _,[]=>[]
 | o,b::r=>Z5s g o b++Z07 g (o+2) r
end
def Z5d (g o:Nat) (r:HRoutine):List Adr:=
 adI (vblk r.pv) 0 r.params.length++(adI (vblk r.lv) 0 r.lent.length++((g,o+2)::(Ze (vblk r.body.sv) 0 r.body.steps++[(g,o+4)])))
def Z0h (g:Nat):Nat→List HRoutine→List Adr
 | _,[]=>[]
 | o,r::rs=>Z5d g o r++Z0h g (o+5) rs
def Z09 (y:HNormal):List Adr:=Z12 (vblk y.dv) 0 y.decls++Z0h (vblk y.rv) 0 y.routines
def skI (m:Mem) (g n:Nat):Prop:=∀i,i<n→isI m (g,i)
def skH (m:Mem) (B:List Nat) (g o:Nat) (v:Value) (n:Nat):Prop:=m g o=some v∧HdOk B v n
def Z04h (m:Mem) (B:List Nat) (g o:Nat) (c:HCon):Prop:=skH m B g o c.fv c.fields.length∧skI m (vblk c.fv) c.fields.length
def Za9 (m:Mem) (B:List Nat) (g:Nat):Nat→List HCon→Prop
 | _,[]=>True
 | o,c::r=>Z04h m B g o c∧Za9 m B g (o+1) r
def Zyg (m:Mem) (B:List Nat) (g o:Nat) (d:HDecl):Prop:=isI m (g,o)∧isI m (g,o+1)∧skH m B g (o+2) d.cv d.cons.length∧Za9 m B (vblk d.cv) 0 d.cons
def Z8b (m:Mem) (B:List Nat) (g:Nat):Nat→List HDecl→Prop
 | _,[]=>True
 | o,d::r=>Zyg m B g o d∧Z8b m B g (o+3) r
mutual
def Z8t (m:Mem) (B:List Nat) (g o:Nat):HStep→Prop
 | .mk _ _ _ args av kids kv=>(isI m (g,o)∧isI m (g,o+1)∧isI m (g,o+2))∧(skH m B g (o+3) av args.length∧skI m (vblk av) args.length)∧(skH m B g (o+4) kv kids.length∧Z2c m B (vblk kv) 0 kids)
def Z62 (m:Mem) (B:List Nat) (g o:Nat):HBlock→Prop
 | .mk steps sv _=>(skH m B g o sv steps.length∧Z2o m B (vblk sv) 0 steps)∧isI m (g,o+1)
def Z2o (m:Mem) (B:List Nat) (g:Nat):Nat→List HStep→Prop
 | _,[]=>True
 | o,s::r=>Z8t m B g o s∧Z2o m B g (o+5) r
def Z2c (m:Mem) (B:List Nat) (g:Nat):Nat→List HBlock→Prop
 | _,[]=>True
 | o,b::r=>Z62 m B g o b∧Z2c m B g (o+2) r
end
def Zd9 (m:Mem) (B:List Nat) (g o:Nat) (r:HRoutine):Prop:=
 (skH m B g o r.pv r.params.length∧skI m (vblk r.pv) r.params.length)∧(skH m B g (o+1) r.lv r.lent.length∧skI m (vblk r.lv) r.lent.length)∧isI m (g,o+2) ∧
  (skH m B g (o+3) r.body.sv r.body.steps.length∧Z2o m B (vblk r.body.sv) 0 r.body.steps)∧isI m (g,o+4)
def Z49 (m:Mem) (B:List Nat) (g:Nat):Nat→List HRoutine→Prop
 | _,[]=>True
 | o,r::rs=>Zd9 m B g o r∧Z49 m B g (o+5) rs
def Z44 (m:Mem) (B:List Nat) (y:HNormal):Prop:=(HdOk B y.dv y.decls.length∧Z8b m B (vblk y.dv) 0 y.decls)∧(HdOk B y.rv y.routines.length∧Z49 m B (vblk y.rv) 0 y.routines)
theorem Zgi (g o:Nat) (s:HStep):Z8g g o s=(g,o)::(g,o+1)::(g,o+2)::(adI (vblk s.av) 0 s.args.length++Z07 (vblk s.kv) 0 s.kids):=by cases s;rw [Z8g];rfl
theorem Zdq (g o:Nat) (b:HBlock):Z5s g o b=Ze (vblk b.sv) 0 b.steps++[(g,o+1)]:=by cases b;rw [Z5s];rfl
theorem Zo1 (m:Mem) (B:List Nat) (g o:Nat) (s:HStep):Z8t m B g o s=((isI m (g,o)∧isI m (g,o+1)∧isI m (g,o+2))∧(skH m B g (o+3) s.av s.args.length∧skI m (vblk s.av) s.args.length)∧(skH m B g (o+4) s.kv s.kids.length∧Z2c m B (vblk s.kv) 0 s.kids)):=by cases s;rw [Z8t];rfl
theorem Zk0 (m:Mem) (B:List Nat) (g o:Nat) (b:HBlock):Z62 m B g o b=((skH m B g o b.sv b.steps.length∧Z2o m B (vblk b.sv) 0 b.steps)∧isI m (g,o+1)):=by cases b;rw [Z62];rfl
section
variable {m m':Mem} {B:List Nat}
theorem Zrs (kq:Kp m m') {g n:Nat} (h:skI m g n):skI m' g n:=fun i hi=>kq.i (h i hi)
theorem Zf9 (kq:Kp m m') {g o n:Nat} {v:Value} (h:skH m B g o v n):skH m' B g o v n:=⟨kq.h h.1 h.2.ni,h.2⟩
theorem Zho (kq:Kp m m') {g:Nat}:∀{o:Nat} {cs:List HCon},Za9 m B g o cs→Za9 m' B g o cs
 | _,[],_=>trivial
 | _,_::_,h=>⟨⟨Zf9 kq h.1.1,Zrs kq h.1.2⟩,Zho kq h.2⟩
theorem Zk1 (kq:Kp m m') {g:Nat}:∀{o:Nat} {ds:List HDecl},Z8b m B g o ds→Z8b m' B g o ds
 | _,[],_=>trivial
 | _,_::_,h=>⟨⟨kq.i h.1.1,kq.i h.1.2.1,Zf9 kq h.1.2.2.1,Zho kq h.1.2.2.2⟩,Zk1 kq h.2⟩
mutual
theorem Zyh (kq:Kp m m') {g o:Nat}:∀{s:HStep},Z8t m B g o s→Z8t m' B g o s
 | .mk _ _ _ _ _ _ _,h=>by rw [Z8t] at h ⊢;exact ⟨⟨kq.i h.1.1,kq.i h.1.2.1,kq.i h.1.2.2⟩,⟨Zf9 kq h.2.1.1,Zrs kq h.2.1.2⟩,⟨Zf9 kq h.2.2.1,Zbt kq h.2.2.2⟩⟩
theorem Ztv (kq:Kp m m') {g o:Nat}:∀{s:HBlock},Z62 m B g o s→Z62 m' B g o s
 | .mk _ _ _,h=>by rw [Z62] at h ⊢;exact ⟨⟨Zf9 kq h.1.1,Z8u kq h.1.2⟩,kq.i h.2⟩
theorem Z8u (kq:Kp m m') {g:Nat}:∀{o:Nat} {xs:List HStep},Z2o m B g o xs→Z2o m' B g o xs
 | _,[],_=>by rw [Z2o];trivial
 | _,_::_,h=>by rw [Z2o] at h ⊢;exact ⟨Zyh kq h.1,Z8u kq h.2⟩
theorem Zbt (kq:Kp m m') {g:Nat}:∀{o:Nat} {xs:List HBlock},Z2c m B g o xs→Z2c m' B g o xs
 | _,[],_=>by rw [Z2c];trivial
 | _,_::_,h=>by rw [Z2c] at h ⊢;exact ⟨Ztv kq h.1,Zbt kq h.2⟩
end
theorem Z9e (kq:Kp m m') {g:Nat}:∀{o:Nat} {rs:List HRoutine},Z49 m B g o rs→Z49 m' B g o rs
 | _,[],_=>trivial
 | _,_::_,h=>⟨⟨⟨Zf9 kq h.1.1.1,Zrs kq h.1.1.2⟩,⟨Zf9 kq h.1.2.1.1,Zrs kq h.1.2.1.2⟩,kq.i h.1.2.2.1,⟨Zf9 kq h.1.2.2.2.1.1,Z8u kq h.1.2.2.2.1.2⟩,kq.i h.1.2.2.2.2⟩,Z9e kq h.2⟩
end
section
variable {m:Mem} {B:List Nat} {g:Nat}
theorem Zei:∀{o i:Nat} {cs:List HCon} {c:HCon},Za9 m B g o cs→cs[i]? = some c→Z04h m B g (o+i) c
 | _,_,[],_,_,h=>by simp at h
 | _,0,_::_,_,h,hc=>by simp at hc;subst hc;exact h.1
 | o,i+1,_::_,_,h,hc=>by rw [show o+(i+1)=o+1+i by omega];exact Zei h.2 (by simpa using hc)
theorem Zbu:∀{o i:Nat} {cs:List HDecl} {c:HDecl},Z8b m B g o cs→cs[i]? = some c→Zyg m B g (o+i*3) c
 | _,_,[],_,_,h=>by simp at h
 | _,0,_::_,_,h,hc=>by simp at hc;subst hc;simpa using h.1
 | o,i+1,_::_,_,h,hc=>by rw [show o+(i+1)*3=o+3+i*3 by omega];exact Zbu h.2 (by simpa using hc)
theorem Zbv:∀{o i:Nat} {cs:List HStep} {c:HStep},Z2o m B g o cs→cs[i]? = some c→Z8t m B g (o+i*5) c
 | _,_,[],_,_,h=>by simp at h
 | _,0,_::_,_,h,hc=>by rw [Z2o] at h;simp at hc;subst hc;simpa using h.1
 | o,i+1,_::_,_,h,hc=>by rw [Z2o] at h;rw [show o+(i+1)*5=o+5+i*5 by omega];exact Zbv h.2 (by simpa using hc)
theorem Za8:∀{o i:Nat} {cs:List HBlock} {c:HBlock},Z2c m B g o cs→cs[i]? = some c→Z62 m B g (o+i*2) c
 | _,_,[],_,_,h=>by simp at h
 | _,0,_::_,_,h,hc=>by rw [Z2c] at h;simp at hc;subst hc;simpa using h.1
 | o,i+1,_::_,_,h,hc=>by rw [Z2c] at h;rw [show o+(i+1)*2=o+2+i*2 by omega];exact Za8 h.2 (by simpa using hc)
theorem Z8c:∀{o i:Nat} {cs:List HRoutine} {c:HRoutine},Z49 m B g o cs→cs[i]? = some c→Zd9 m B g (o+i*5) c
 | _,_,[],_,_,h=>by simp at h
 | _,0,_::_,_,h,hc=>by simp at hc;subst hc;simpa using h.1
 | o,i+1,_::_,_,h,hc=>by rw [show o+(i+1)*5=o+5+i*5 by omega];exact Z8c h.2 (by simpa using hc)
end
section
variable {m:Mem} {B:List Nat}
theorem Zuh {g:Nat}:∀{n o:Nat} {a:Adr},a∈adI g o n→a.1=g∧o≤a.2∧a.2<o+n
 | 0,_,_,h=>by simp [adI] at h
 | n+1,o,a,h=>by
  rcases List.mem_cons.1 h with rfl|h
  ·exact ⟨rfl,Nat.le_refl _,by show o<o+(n+1);omega⟩
  ·have:=Zuh h;omega
theorem Z9u {g n:Nat} (h:skI m g n):∀a∈adI g 0 n,isI m a:=by
 intro a ha
 obtain ⟨h1,h2,h3⟩:=Zuh ha
 have:=h a.2 om
 rw [←h1] at this
 exact this
theorem Zdr {g:Nat}:∀{o:Nat} {cs:List HCon},Za9 m B g o cs→∀a∈Z2w cs,isI m a
 | _,[],_,a,ha=>by cases ha
 | _,_::_,h,a,ha=>(List.mem_append.1 ha).elim (Z9u h.1.2 a) (Zdr h.2 a)
theorem Zbd {g:Nat}:∀{o:Nat} {ds:List HDecl},Z8b m B g o ds→∀a∈Z12 g o ds,isI m a
 | _,[],_,a,ha=>by cases ha
 | _,_::_,h,a,ha=>by
  rcases List.mem_append.1 ha with ha|ha
  ·rcases List.mem_cons.1 ha with rfl|ha
   ·exact h.1.1
   ·rcases List.mem_cons.1 ha with rfl|ha
    ·exact h.1.2.1
    ·exact Zdr h.1.2.2.2 a ha
  ·exact Zbd h.2 a ha
mutual
theorem Zs6 {g o:Nat}:∀{s:HStep},Z8t m B g o s→∀a∈Z8g g o s,isI m a
 | .mk _ _ _ _ _ _ _,h,a,ha=>by
  rw [Z8t] at h
  rw [Z8g] at ha
  rcases List.mem_cons.1 ha with rfl|ha
  ·exact h.1.1
  rcases List.mem_cons.1 ha with rfl|ha
  ·exact h.1.2.1
  rcases List.mem_cons.1 ha with rfl|ha
  ·exact h.1.2.2
  exact (List.mem_append.1 ha).elim (Z9u h.2.1.2 a) (Z9t h.2.2.2 a)
theorem Zom {g o:Nat}:∀{s:HBlock},Z62 m B g o s→∀a∈Z5s g o s,isI m a
 | .mk _ _ _,h,a,ha=>by
  rw [Z62] at h
  rw [Z5s] at ha
  rcases List.mem_append.1 ha with ha|ha
  ·exact Z7c h.1.2 a ha
  ·rw [List.mem_singleton.1 ha];exact h.2
theorem Z7c {g:Nat}:∀{o:Nat} {xs:List HStep},Z2o m B g o xs→∀a∈Ze g o xs,isI m a
 | _,[],_,a,ha=>by rw [Ze] at ha;cases ha
 | _,_::_,h,a,ha=>by
  rw [Z2o] at h
  rw [Ze] at ha
  exact (List.mem_append.1 ha).elim (Zs6 h.1 a) (Z7c h.2 a)
theorem Z9t {g:Nat}:∀{o:Nat} {xs:List HBlock},Z2c m B g o xs→∀a∈Z07 g o xs,isI m a
 | _,[],_,a,ha=>by rw [Z07] at ha;cases ha
 | _,_::_,h,a,ha=>by
  rw [Z2c] at h
  rw [Z07] at ha
  exact (List.mem_append.1 ha).elim (Zom h.1 a) (Z9t h.2 a)
end
theorem Zk7 {g o:Nat} {r:HRoutine} (h:Zd9 m B g o r):∀a∈Z5d g o r,isI m a:=by
 intro a ha
 rcases List.mem_append.1 ha with ha|ha
 ·exact Z9u h.1.2 a ha
 rcases List.mem_append.1 ha with ha|ha
 ·exact Z9u h.2.1.2 a ha
 rcases List.mem_cons.1 ha with rfl|ha
 ·exact h.2.2.1
 rcases List.mem_append.1 ha with ha|ha
 ·exact Z7c h.2.2.2.1.2 a ha
 ·rw [List.mem_singleton.1 ha];exact h.2.2.2.2
theorem Zb0 {g:Nat}:∀{o:Nat} {rs:List HRoutine},Z49 m B g o rs→∀a∈Z0h g o rs,isI m a
 | _,[],_,a,ha=>by cases ha
 | _,_::_,h,a,ha=>(List.mem_append.1 ha).elim (Zk7 h.1 a) (Zb0 h.2 a)
end
def Zn (g lo hi:Nat) (X:List Nat) (a:Adr):Prop:=(a.1=g∧lo≤a.2∧a.2<hi)∨a.1∈X
structure Nd (g lo hi:Nat) (X:List Nat) (as1:List Adr):Prop where
 nd:(X.Nodup∧g∉X)→as1.Nodup
 zn:∀a∈as1,Zn g lo hi X a
theorem Nd.nil (g lo:Nat):Nd g lo lo [] []:=⟨fun _=>.nil,fun a ha=>by cases ha⟩
theorem Nd.app {g l1 h1 l2 h2:Nat} {X Y:List Nat} {as1 bs:List Adr} (ha:Nd g l1 h1 X as1) (hb:Nd g l2 h2 Y bs) (hlt:h1≤l2) (hl:l1≤l2) (hh:h1≤h2):Nd g l1 h2 (X++Y) (as1++bs):=by
 refine ⟨fun ⟨hd,hg⟩=>?_,fun a hm=>?_⟩
 ·have hdd:=List.nodup_append.1 hd
  have hg1:g∉X:=fun q=>hg (List.mem_append.2 (.inl q))
  have hg2:g∉Y:=fun q=>hg (List.mem_append.2 (.inr q))
  refine List.nodup_append.2 ⟨ha.nd ⟨hdd.1,hg1⟩,hb.nd ⟨hdd.2.1,hg2⟩,fun a h1 b h2 e=>?_⟩
  subst e
  rcases ha.zn a h1 with q1|q1<;>rcases hb.zn a h2 with q2|q2
  ·omega
  ·exact hg2 (q1.1▸q2)
  ·exact hg1 (q2.1▸q1)
  ·exact hdd.2.2 _ q1 _ q2 rfl
 ·rcases List.mem_append.1 hm with h|h
  ·rcases ha.zn a h with q|q
   ·exact .inl ⟨q.1,q.2.1,by omega⟩
   ·exact .inr (List.mem_append.2 (.inl q))
  ·rcases hb.zn a h with q|q
   ·exact .inl ⟨q.1,by omega,q.2.2⟩
   ·exact .inr (List.mem_append.2 (.inr q))
theorem Nd.one (g o:Nat):Nd g o (o+1) [] [(g,o)]:=⟨fun _=>by simp,fun a ha=>by rw [List.mem_singleton.1 ha];exact .inl ⟨rfl,Nat.le_refl _,Nat.lt_succ_self _⟩⟩
theorem Nd.sub {g lo c hi:Nat} {v:Value} {k:Nat} {X:List Nat} {as1:List Adr} {B:List Nat} {n:Nat} (h:Nd (vblk v) lo hi X as1) (hd:HdOk B v n) (he:n=0→as1=[]):Nd g c c (X++blks [(v,k)]) as1:=by
 rcases Nat.eq_zero_or_pos n with h0|h0
 ·rw [he h0];exact ⟨fun _=>.nil,fun a ha=>by cases ha⟩
 ·have hm:=hd.own h0 k
  have e:blks [(v,k)]=[vblk v]:=by
   obtain ⟨_,cap,e⟩:=hd.blk h0
   rw [e];rfl
  refine ⟨fun ⟨hx,_⟩=>h.nd ?_,fun a ha=>.inr ?_⟩
  ·have hdd:=List.nodup_append.1 hx
   exact ⟨hdd.1,fun q=>hdd.2.2 _ q _ hm rfl⟩
  ·rcases h.zn a ha with q|q
   ·rw [q.1];exact List.mem_append.2 (.inr hm)
   ·exact List.mem_append.2 (.inl q)
theorem Nd.perm {g lo hi:Nat} {X Y:List Nat} {as1:List Adr} (h:Nd g lo hi X as1) (p:X.Perm Y):Nd g lo hi Y as1:=
 ⟨fun ⟨a,b⟩=>h.nd ⟨p.nodup_iff.2 a,fun q=>b (p.mem_iff.1 q)⟩,fun a ha=>(h.zn a ha).imp id (fun q=>p.mem_iff.1 q)⟩
theorem Z01w (g:Nat):∀(n o:Nat),Nd g o (o+n) [] (adI g o n)
 | 0,o=>Nd.nil g o
 | n+1,o=>by
  have h:=(Nd.one g o).app (Z01w g n (o+1)) (Nat.le_refl _) om om
  rw [show o+1+n=o+(n+1) by omega] at h
  exact h
section
variable {m:Mem} {B:List Nat}
theorem Z01g {g c n:Nat} {v:Value} (h:HdOk B v n):Nd g c c (blks [(v,1)]) (adI (vblk v) 0 n):=by
 have:=(Z01w (vblk v) n 0).sub (g:=g) (c:=c) (k:=1) h (fun e=>by rw [e];rfl)
 simpa using this
theorem Zlz {g c:Nat}:∀{o:Nat} {cs:List HCon} {b:Nat},Za9 m B b o cs→Nd g c c (blks (Z1b cs)) (Z2w cs)
 | _,[],_,_=>Nd.nil g c
 | _,x::r,_,h=>by
  have e:Z1b (x::r)=[(x.fv,1)]++Z1b r:=rfl
  rw [e,Z42]
  exact (Z01g h.1.1.2).app (Zlz h.2) (Nat.le_refl _) (Nat.le_refl _) (Nat.le_refl _)
theorem Zis {g:Nat}:∀{o:Nat} {ds:List HDecl},Z8b m B g o ds→Nd g o (o+3*ds.length) (blks (Z0m ds)) (Z12 g o ds)
 | o,[],_=>Nd.nil g o
 | o,x::r,h=>by
  have e:Z0m (x::r)=(Z1b x.cons++[(x.cv,3-2)])++Z0m r:=rfl
  rw [e,Z42,Z42]
  have h1:Nd g (o+2) (o+2) (blks (Z1b x.cons)++blks [(x.cv,3-2)]) (Z2w x.cons):=by
   refine Nd.sub (lo:=0) (hi:=0) (v:=x.cv) (Zlz h.1.2.2.2) h.1.2.2.1.2 fun q=>?_
   rw [List.length_eq_zero_iff.1 q];rfl
  have h2:=(Nd.one g o).app ((Nd.one g (o+1)).app h1 om om om) om om om
  have h3:=h2.app (Zis (o:=o+3) h.2) om om om
  rw [show o+3+3*r.length=o+3*(x::r).length by simp;omega] at h3
  exact h3
mutual
theorem Zui {g:Nat} {o:Nat}:∀{s:HStep},Z8t m B g o s→Nd g o (o+5) (blks (Z1v s)) (Z8g g o s)
 | .mk op num into args av kids kv,h=>by
  rw [Z8t] at h
  rw [Z1v,Z8g]
  have e:(av,1)::(Zp kids++[(kv,2)])=[(av,1)]++(Zp kids++[(kv,2)]):=rfl
  rw [e,Z42,Z42]
  have h1:Nd g (o+5) (o+5) (blks (Zp kids)++blks [(kv,2)]) (Z07 (vblk kv) 0 kids):=by
   refine Nd.sub (v:=kv) (Zgf h.2.2.2) h.2.2.1.2 fun q=>?_
   rw [List.length_eq_zero_iff.1 q,Z07]
  have h0:Nd g (o+3) (o+3) (blks [(av,1)]) (adI (vblk av) 0 args.length):=Z01g h.2.1.1.2
  exact (Nd.one g o).app ((Nd.one g (o+1)).app ((Nd.one g (o+2)).app (h0.app h1 om om om) om om om) om om om) om om om
theorem Zs5 {g:Nat} {o:Nat}:∀{s:HBlock},Z62 m B g o s→Nd g o (o+2) (blks (Z0d s)) (Z5s g o s)
 | .mk steps sv result,h=>by
  rw [Z62] at h
  rw [Z0d,Z5s,Z42]
  have h1:Nd g o o (blks (Z06 steps)++blks [(sv,5)]) (Ze (vblk sv) 0 steps):=by
   refine Nd.sub (v:=sv) (Zdu h.1.2) h.1.1.2 fun q=>?_
   rw [List.length_eq_zero_iff.1 q,Ze]
  have h2:=h1.app (Nd.one g (o+1)) om om om
  rw [List.append_nil] at h2
  exact h2
theorem Zdu {g:Nat}:∀{o:Nat} {xs:List HStep},Z2o m B g o xs→Nd g o (o+5*xs.length) (blks (Z06 xs)) (Ze g o xs)
 | o,[],_=>by rw [Z06,Ze];exact Nd.nil g o
 | o,x::r,h=>by
  rw [Z2o] at h
  rw [Z06,Ze,Z42]
  have h3:=(Zui h.1).app (Zdu (o:=o+5) h.2) om om om
  rw [show o+5+5*r.length=o+5*(x::r).length by simp;omega] at h3
  exact h3
theorem Zgf {g:Nat}:∀{o:Nat} {xs:List HBlock},Z2c m B g o xs→Nd g o (o+2*xs.length) (blks (Zp xs)) (Z07 g o xs)
 | o,[],_=>by rw [Zp,Z07];exact Nd.nil g o
 | o,x::r,h=>by
  rw [Z2c] at h
  rw [Zp,Z07,Z42]
  have h3:=(Zs5 h.1).app (Zgf (o:=o+2) h.2) om om om
  rw [show o+2+2*r.length=o+2*(x::r).length by simp;omega] at h3
  exact h3
end
theorem Zc8 {g:Nat}:∀{o:Nat} {rs:List HRoutine},Z49 m B g o rs→Nd g o (o+5*rs.length) (blks (Zl rs)) (Z0h g o rs)
 | o,[],_=>Nd.nil g o
 | o,x::r,h=>by
  have e:Zl (x::r)=([(x.pv,1)]++([(x.lv,1)]++Z0d x.body))++Zl r:=rfl
  rw [e,Z42,Z42,Z42,Zaj,Z42]
  have h1:Nd g (o+3) (o+3) (blks (Z06 x.body.steps)++blks [(x.body.sv,5)]) (Ze (vblk x.body.sv) 0 x.body.steps):=by
   refine Nd.sub (v:=x.body.sv) (Zdu h.1.2.2.2.1.2) h.1.2.2.2.1.1.2 fun q=>?_
   rw [List.length_eq_zero_iff.1 q,Ze]
  have h2:=h1.app (Nd.one g (o+4)) om om om
  rw [List.append_nil] at h2
  have h3:=(Nd.one g (o+2)).app h2 om om om
  have h4:Nd g (o+1) (o+1) (blks [(x.lv,1)]) (adI (vblk x.lv) 0 x.lent.length):=Z01g h.1.2.1.1.2
  have h5:Nd g o o (blks [(x.pv,1)]) (adI (vblk x.pv) 0 x.params.length):=Z01g h.1.1.1.2
  have h6:=(h5.app (h4.app h3 om om om) om om om).app (Zc8 (o:=o+5) h.2) om om om
  rw [show o+5+5*r.length=o+5*(x::r).length by simp;omega] at h6
  exact h6
theorem Zon {y:HNormal} (h:Z44 m B y) (hn:(blks (Zz y)).Nodup):(Z09 y).Nodup:=by
 have e:Zz y=(Z0m y.decls++[(y.dv,3)])++(Zl y.routines++[(y.rv,5)]):=by simp [Zz]
 rw [e,Z42,Z42,Z42] at hn
 obtain ⟨g,hg⟩:∃g,g∉(blks (Z0m y.decls)++blks [(y.dv,3)])++(blks (Zl y.routines)++blks [(y.rv,5)]):=by
  generalize (blks (Z0m y.decls)++blks [(y.dv,3)])++(blks (Zl y.routines)++blks [(y.rv,5)])=l
  refine ⟨l.sum+1,fun q=>?_⟩
  have:∀(l:List Nat) (x:Nat),x∈l→x≤l.sum:=by
   intro l
   induction l with
   | nil=>intro x hx;cases hx
   | cons a r ih=>
    intro x hx
    rw [List.sum_cons]
    rcases List.mem_cons.1 hx with rfl|hx
    ·omega
    ·have:=ih x hx;omega
  have:=this l _ q
  omega
 have h1:Nd g 0 0 (blks (Z0m y.decls)++blks [(y.dv,3)]) (Z12 (vblk y.dv) 0 y.decls):=by
  refine Nd.sub (v:=y.dv) (Zis h.1.2) h.1.1 fun q=>?_
  rw [List.length_eq_zero_iff.1 q];rfl
 have h2:Nd g 0 0 (blks (Zl y.routines)++blks [(y.rv,5)]) (Z0h (vblk y.rv) 0 y.routines):=by
  refine Nd.sub (v:=y.rv) (Zc8 h.2.2) h.2.1 fun q=>?_
  rw [List.length_eq_zero_iff.1 q];rfl
 exact (h1.app h2 om om om).nd ⟨hn,hg⟩
end
end Go.Abs
end
section
namespace Go.Abs
theorem Z5 {α:Type} {xs:List α} {k:Nat} {x:α} (h:xs[k]? = some x):xs.drop k=x::xs.drop (k+1):=by
 have hk:=(List.getElem?_eq_some_iff.1 h).1
 rw [List.drop_eq_getElem_cons hk]
 congr 1
 rw [List.getElem?_eq_getElem hk] at h
 exact Option.some.inj h
theorem Zt {α:Type} {xs:List α} {k:Nat} (h:xs.length≤k):xs.drop k=[]:=List.drop_eq_nil_of_le h
theorem Z1l {α:Type} {xs:List α} {k:Nat} {x:α} (h:xs[k]? = some x):xs.take (k+1)=xs.take k++[x]:=by
 rw [List.take_add_one,h];rfl
def Zs:List Decl→Nat
 | []=>0
 | d::ds=>d.cons.length+Zs ds
theorem Z5f (xs ys:List Decl):Zs (xs++ys)=Zs xs+Zs ys:=by
 induction xs with
 | nil=>simp [Zs]
 | cons d ds ih=>simp [Zs,ih];omega
structure DOk (ds:List Decl):Prop where
 len:ds.length≤4
 cons:∀d∈ds,d.cons.length≤3
 fields:∀d∈ds,∀c∈d.cons,c.fields.length≤3
theorem Zve {ds:List Decl} {m:Nat} (h:∀d∈ds,d.cons.length≤m):Zs ds≤ds.length*m:=by
 induction ds with
 | nil=>simp [Zs]
 | cons d ds ih=>
  have h1:=h d (by simp)
  have h2:=ih (fun x hx=>h x (by simp [hx]))
  simp only [Zs,List.length_cons,Nat.add_mul];omega
theorem DOk.sum {ds:List Decl} (h:DOk ds):Zs ds≤12:=by
 have:=Zve h.cons
 have:=h.len
 have:ds.length*3≤4*3:=Nat.mul_le_mul_right 3 h.len
 omega
theorem DOk.take {ds:List Decl} (h:DOk ds) (k:Nat):DOk (ds.take k):=
 ⟨by have:=h.len;simp;omega,fun d hd=>h.cons d (List.mem_of_mem_take hd),fun d hd=>h.fields d (List.mem_of_mem_take hd)⟩
theorem DOk.cons_at {ds:List Decl} (h:DOk ds) {k:Nat} {d:Decl} (hd:ds[k]? = some d):d.cons.length≤3:=h.cons d (List.mem_of_getElem? hd)
theorem DOk.fields_at {ds:List Decl} (h:DOk ds) {k j:Nat} {d:Decl} {c:Con} (hd:ds[k]? = some d) (hc:d.cons[j]? = some c):c.fields.length≤3:=
 h.fields d (List.mem_of_getElem? hd) c (List.mem_of_getElem? hc)
def Z3s (c:Int):List Decl→Nat→Nat→Int × List Int
 | [],_,_=>(-1,[])
 | d::ds,i,first=>
  if (first:Int)≤c∧c≤((first+d.cons.length:Nat):Int)-1 then ((i:Int)+1,(d.cons[(c-first).toNat]?.map (·.fields)).getD []) else Z3s c ds (i+1) (first+d.cons.length)
def Z08 (ds:List Decl) (c:Int):Int:=(Z3s c ds 0 0).1
def Z1 (ds:List Decl) (c:Int):List Int:=(Z3s c ds 0 0).2
theorem Z9y {c:Int}:∀{ds:List Decl} {i first:Nat},(Z3s c ds i first=(-1,[]) ∨
  ∃k d x,ds[k]? = some d∧(first+Zs (ds.take k):Int)≤c∧c<first+Zs (ds.take k)+d.cons.length∧d.cons[(c-(first+Zs (ds.take k))).toNat]? = some x∧Z3s c ds i first=((i:Int)+k+1,x.fields))
 | [],_,_=>.inl rfl
 | d::ds,i,first=>by
  rw [Z3s]
  split
  ·rename_i h
   have hlt:(c-first).toNat<d.cons.length:=by omega
   refine .inr ⟨0,d,d.cons[(c-first).toNat],rfl,by simp [Zs];omega,by simp [Zs];omega,?_,?_⟩
   ·simp [Zs]
   ·rw [List.getElem?_eq_getElem hlt];simp
  ·rcases Z9y (c:=c) (ds:=ds) (i:=i+1) (first:=first+d.cons.length) with h|⟨k,e,x,h1,h2,h3,h4,h5⟩
   ·exact .inl h
   ·refine .inr ⟨k+1,e,x,by simpa using h1,by simp [Zs];omega,by simp [Zs];omega,?_,?_⟩
    ·rw [←h4];congr 3;simp [Zs];omega
    ·rw [h5];congr 1;omega
theorem Za0 {ds:List Decl} {c:Int} (h:¬Z08 ds c<1) :
  ∃k d x,ds[k]? = some d∧(Zs (ds.take k):Int)≤c∧d.cons[(c-Zs (ds.take k)).toNat]? = some x∧Z08 ds c=(k:Int)+1∧Z1 ds c=x.fields:=by
 rcases Z9y (c:=c) (ds:=ds) (i:=0) (first:=0) with h1|⟨k,d,x,h1,h2,_,h4,h5⟩
 ·simp [Z08,h1] at h
 ·exact ⟨k,d,x,h1,by simpa using h2,by simpa using h4,by simp [Z08,h5],by simp [Z1,h5]⟩
theorem Z7v {ds:List Decl} {c:Int} (h:Z08 ds c<1):Z1 ds c=[]∧Z08 ds c=-1:=by
 rcases Z9y (c:=c) (ds:=ds) (i:=0) (first:=0) with h1|⟨k,d,x,h1,h2,_,h4,h5⟩
 ·simp [Z1,Z08,h1]
 ·simp [Z08,h5] at h;omega
def Z18 (first:Int):Nat→List Int
 | 0=>[]
 | n+1=>first::Z18 (first+1) n
theorem Zd2 (first:Int) (n:Nat):Z18 first (n+1)=Z18 first n++[first+n]:=by
 induction n generalizing first with
 | zero=>simp [Z18]
 | succ n ih=>rw [Z18,ih (first+1),Z18];simp;omega
@[simp] theorem Zhi (first:Int) (n:Nat):(Z18 first n).length=n:=by
 induction n generalizing first with
 | zero=>rfl
 | succ n ih=>simp [Z18,ih]
def Zb (ds:List Decl) (t:Int):List Int:=
 if 1≤t∧t≤ds.length then Z18 (Zs (ds.take (t-1).toNat)) (((ds[(t-1).toNat]?).map (·.cons.length)).getD 0) else []
def Z3r (frm to_:Int):List Decl→Nat→Int
 | [],_=>-1
 | d::ds,i=>if d.cons.length=0∧d.frm=frm∧d.to_=to_ then (i:Int)+1 else Z3r frm to_ ds (i+1)
def Z2a (ds:List Decl) (frm to_:Int):Int:=Z3r frm to_ ds 0
def Z00 (ds:List Decl) (t:Int):Bool:=decide (1≤t∧t≤ds.length)&&((ds[(t-1).toNat]?).map fun d=>decide (d.cons.length=0)).getD false
theorem Z74 {ds:List Decl} {t:Int} {x:Decl} (h:1≤t∧t≤ds.length) (hx:ds[(t-1).toNat]? = some x):((x.cons.length:Int)==0)=Z00 ds t:=by
 rw [Z00,hx,Bool.eq_iff_iff];simp [h]
theorem Z95 {ds:List Decl} {t:Int} (h:¬(1≤t∧t≤ds.length)):false=Z00 ds t:=by
 rw [Z00,Bool.eq_iff_iff];simp only [Bool.false_eq_true,Bool.and_eq_true,decide_eq_true_eq,h,false_and]
def Z1p (m:Nat) (xs:List Int):Bool:=xs.all fun t=>decide (0≤t∧t≤m)
end Go.Abs
end
section
namespace Go.Abs
structure Sg where
 params:List Int
 result:Int
abbrev aSg (f:Sg):AV:=.agg [.sl (Z8 f.params) none,.i f.result,.i 0,.i 0,.sl [] none]
def eSgs (fs:List Sg):List AV:=fs.map aSg
theorem Zkj {xs:List Sg} {j:Nat} {x:Sg} (h:xs[j]? = some x):(eSgs xs)[j]? = some (aSg x):=by simp [eSgs,h]
@[simp] theorem Zgu (xs:List Sg):(eSgs xs).length=xs.length:=by simp [eSgs]
theorem Zqu (xs:List Sg):∀y∈eSgs xs,y.leaves.length=5:=by intro y hy;simp only [eSgs,List.mem_map] at hy;obtain ⟨x,_,rfl⟩:=hy;rfl
theorem Zzv (xs:List Sg):(flat (eSgs xs)).all AV.one=true:=Z70 fun y hy=>by simp only [eSgs,List.mem_map] at hy;obtain ⟨x,_,rfl⟩:=hy;rfl
mutual
def Step.sz:Step→Nat
 | .mk _ _ _ args kids=>1+args.length+bsz kids
def Block.sz:Block→Nat
 | .mk steps _=>1+ssz steps
def ssz:List Step→Nat
 | []=>0
 | s::r=>s.sz+ssz r
def bsz:List Block→Nat
 | []=>0
 | b::r=>b.sz+bsz r
end
theorem Step.sz_pos (s:Step):1≤s.sz:=by cases s;rw [Step.sz];omega
theorem Block.sz_pos (b:Block):1≤b.sz:=by cases b;rw [Block.sz];omega
theorem Zyl (l:List Step):l.length≤ssz l:=by
 induction l with
 | nil=>simp
 | cons s r ih=>have:=s.sz_pos;simp only [List.length_cons,ssz];omega
theorem Zux (l:List Block):l.length≤bsz l:=by
 induction l with
 | nil=>simp
 | cons s r ih=>have:=s.sz_pos;simp only [List.length_cons,bsz];omega
theorem Zo4 {l:List Step} {k:Nat} {s:Step} (h:l[k]? = some s):s.sz≤ssz l:=by
 induction l generalizing k with
 | nil=>simp at h
 | cons t r ih=>
  cases k with
  | zero=>simp at h;subst h;simp only [ssz];omega
  | succ k=>have:=ih (k:=k) (by simpa using h);simp only [ssz];omega
theorem Zma {l:List Block} {k:Nat} {s:Block} (h:l[k]? = some s):s.sz≤bsz l:=by
 induction l generalizing k with
 | nil=>simp at h
 | cons t r ih=>
  cases k with
  | zero=>simp at h;subst h;simp only [bsz];omega
  | succ k=>have:=ih (k:=k) (by simpa using h);simp only [bsz];omega
theorem Step.sz_eq (s:Step):s.sz=1+s.args.length+bsz s.kids:=by cases s;rw [Step.sz];rfl
theorem Block.sz_eq (b:Block):b.sz=1+ssz b.steps:=by cases b;rw [Block.sz];rfl
theorem Zhx {b:Block} {k:Nat} {s:Step} (h:b.steps[k]? = some s):s.sz<b.sz:=by have:=Zo4 h;have:=b.sz_eq;omega
theorem Z9k {s:Step} {k:Nat} {b:Block} (h:s.kids[k]? = some b):b.sz<s.sz:=by have:=Zma h;have:=s.sz_eq;omega
theorem Z86 (s:Step):s.args.length<s.sz:=by have:=s.sz_eq;omega
theorem Z5m (s:Step):s.kids.length<s.sz:=by have:=s.sz_eq;have:=Zux s.kids;omega
theorem Z4d (b:Block):b.steps.length<b.sz:=by have:=b.sz_eq;have:=Zyl b.steps;omega
structure DSz (ds:List Decl):Prop where
 len:ds.length≤4194304
 cons:∀d∈ds,d.cons.length≤4194304
 fields:∀d∈ds,∀c∈d.cons,c.fields.length≤4194304
theorem DSz.cons_at {ds:List Decl} (h:DSz ds) {k:Nat} {d:Decl} (hd:ds[k]? = some d):d.cons.length≤4194304:=h.cons d (List.mem_of_getElem? hd)
theorem DSz.fields_at {ds:List Decl} (h:DSz ds) {k j:Nat} {d:Decl} {c:Con} (hd:ds[k]? = some d) (hc:d.cons[j]? = some c):c.fields.length≤4194304:=
 h.fields d (List.mem_of_getElem? hd) c (List.mem_of_getElem? hc)
def Z9z (m:Nat) (c:Con):Bool:=decide (c.fields.length≤3)&&Z1p m c.fields
def Zcc (d:Decl):List Decl→Bool
 | []=>false
 | e::r=>if e.cons.length=0∧e.frm=d.frm∧e.to_=d.to_ then true else Zcc d r
def Z4a (m:Nat):List Con→Bool
 | []=>true
 | c::r=>if Z9z m c=true then Z4a m r else false
def Z3j (ds:List Decl) (d:Decl) (i:Nat):Bool:=
 if 0<d.cons.length then (if d.cons.length≤3∧d.frm=0∧d.to_=0 then Z4a ds.length d.cons else false)
 else if Zcc d (ds.take i)=true then false else decide (0≤d.frm∧d.frm≤ds.length)&&decide (0≤d.to_∧d.to_≤ds.length)
def Za2 (ds:List Decl) (i:Nat):Bool:=(ds[i]?.map fun d=>Z3j ds d i).getD false
theorem Z7g {ds:List Decl} {i:Nat} {d:Decl} (h:ds[i]? = some d):Za2 ds i=Z3j ds d i:=by rw [Za2,h];rfl
def Z3t (ds:List Decl):List Decl→Nat→Bool
 | [],_=>true
 | _::r,i=>if Za2 ds i=true then Z3t ds r (i+1) else false
def Zw (ds:List Decl):Bool:=decide (ds.length≤4)&&Z3t ds ds 0
theorem Zgn {m:Nat} {cs:List Con}:Z4a m cs=true↔∀c∈cs,Z9z m c=true:=by
 induction cs with
 | nil=>simp [Z4a]
 | cons c r ih=>
  rw [Z4a]
  split
  ·rename_i h;simp [ih,h]
  ·rename_i h;simp [h]
theorem Zbh {ds:List Decl}:∀{l:List Decl} {i:Nat},Z3t ds l i=true↔∀j<l.length,Za2 ds (i+j)=true
 | [],i=>by simp [Z3t]
 | d::r,i=>by
  rw [Z3t]
  split
  ·rename_i h
   rw [Zbh (l:=r)]
   constructor
   ·intro hq j hj
    cases j with
    | zero=>exact h
    | succ j=>have:=hq j (by simpa using hj);rwa [show i+(j+1)=i+1+j by omega]
   ·intro hq j hj
    have:=hq (j+1) (by simpa using hj)
    rwa [show i+(j+1)=i+1+j by omega] at this
  ·rename_i h
   simp only [Bool.false_eq_true,false_iff]
   intro hq
   exact h (hq 0 (by simp))
theorem Zlt {ds:List Decl} (h:Zw ds=true):DOk ds:=by
 simp only [Zw,Bool.and_eq_true,decide_eq_true_eq] at h
 obtain ⟨h1,h2⟩:=h
 rw [Zbh] at h2
 have key:∀d∈ds,∃i,Z3j ds d i=true:=fun d hd=>by
  obtain ⟨i,hi⟩:=List.mem_iff_getElem?.1 hd
  have:=h2 i (List.getElem?_eq_some_iff.1 hi).1
  rw [Nat.zero_add,Z7g hi] at this
  exact ⟨i,this⟩
 have hc:∀d∈ds,0<d.cons.length→d.cons.length≤3∧Z4a ds.length d.cons=true:=fun d hd hp=>by
  obtain ⟨i,hi⟩:=key d hd
  rw [Z3j,if_pos hp] at hi
  split at hi
  ·rename_i h;exact ⟨h.1,hi⟩
  ·cases hi
 refine ⟨h1,fun d hd=>?_,fun d hd c hc'=>?_⟩
 ·by_cases hp:0<d.cons.length
  ·exact (hc d hd hp).1
  ·omega
 ·have:=Zgn.1 (hc d hd (List.length_pos_of_mem hc')).2 c hc'
  simp only [Z9z,Bool.and_eq_true,decide_eq_true_eq] at this
  exact this.1
theorem DOk.sz {ds:List Decl} (h:DOk ds):DSz ds:=
 ⟨by have:=h.len;omega,fun d hd=>by have:=h.cons d hd;omega,fun d hd c hc=>by have:=h.fields d hd c hc;omega⟩
def Z9m (m:Nat) (f:Sg):Bool:=decide (f.params.length≤3)&&(Z1p m f.params&&decide (0≤f.result∧f.result≤m))
def Z6s (m:Nat):List Sg→Bool
 | []=>true
 | f::r=>if Z9m m f=true then Z6s m r else false
def Zfy:List Sg→Bool
 | []=>false
 | f::_=>decide (f.params.length=0)&&decide (f.result=0)
theorem Zpc {fs:List Sg} {x:Sg} (h:fs[0]? = some x):Zfy fs=(decide (x.params.length=0)&&decide (x.result=0)):=by
 cases fs with
 | nil=>simp at h
 | cons f r=>simp at h;subst h;rfl
def Z2v (ds:List Decl) (fs:List Sg):Bool:=
 Zw ds&&(decide (1≤fs.length∧fs.length≤4)&&(Z6s ds.length fs&&Zfy fs))
def Z43 (ps:List Int):List Int→Option Int→Bool
 | [],_=>true
 | v::r,prev=>if (0≤v∧v≤(ps.length:Int)-1)∧ps[v.toNat]?≠some 0∧(∀p,prev=some p→p<v) then Z43 ps r (some v) else false
theorem Z9a {ps r:List Int} {v:Int} {prev:Option Int} (h:(0≤v∧v≤(ps.length:Int)-1)∧ps[v.toNat]?≠some 0∧(∀p,prev=some p→p<v)):Z43 ps (v::r) prev=Z43 ps r (some v):=by
 rw [Z43,if_pos h]
theorem Z7z {ps r:List Int} {v:Int} {prev:Option Int} (h:¬((0≤v∧v≤(ps.length:Int)-1)∧ps[v.toNat]?≠some 0∧(∀p,prev=some p→p<v))):Z43 ps (v::r) prev=false:=by
 rw [Z43,if_neg h]
def Z3e (ps ls:List Int):Bool:=Z43 ps ls none
def Z51:List Routine→Bool
 | []=>true
 | r::rs=>if Z3e r.params r.lent=true then Z51 rs else false
def Z5p (r:Routine):Sg:=⟨r.params,r.result⟩
def Z0e (n:Normal):Bool:=decide (n.routines.length≤4)&&(Z2v n.decls (n.routines.map Z5p)&&Z51 n.routines)
end Go.Abs
end
section
namespace Go.Abs
def atI {α:Type} (xs:List α) (i:Int):Option α:=if 0≤i∧i≤(xs.length:Int)-1 then xs[i.toNat]? else none
theorem Z6v {α:Type} {xs:List α} {i:Int} {x:α} (h:0≤i∧i≤(xs.length:Int)-1) (hx:xs[i.toNat]? = some x):atI xs i=some x:=by rw [atI,if_pos h,hx]
theorem Z5t {α:Type} {xs:List α} {i:Int} (h:¬(0≤i∧i≤(xs.length:Int)-1)):atI xs i=none:=by rw [atI,if_neg h]
theorem Z4y {α:Type} {xs:List α} {i:Int} {x:α} (h:atI xs i=some x):(0≤i∧i≤(xs.length:Int)-1)∧xs[i.toNat]? = some x:=by
 rw [atI] at h
 split at h
 ·rename_i h1;exact ⟨h1,h⟩
 ·cases h
def Z25 (vars:List Int):List Int→List Int→Bool
 | [],[]=>true
 | a::as1,t::ts=>if atI vars a=some t then Z25 vars as1 ts else false
 | _,_=>false
def Z1r (vars args types:List Int):Bool:=Z25 vars args types
theorem Zoe {vars:List Int}:∀{args types:List Int},args.length≠types.length→Z25 vars args types=false
 | [],[],h=>absurd rfl h
 | [],_::_,_=>rfl
 | _::_,[],_=>rfl
 | a::as1,t::ts,h=>by
  rw [Z25]
  split
  ·exact Zoe (by simpa using h)
  ·rfl
theorem Zu7 {vars args types:List Int} {k:Nat} {a t:Int} (ha:args[k]? = some a) (ht:types[k]? = some t) (h:atI vars a=some t) :
  Z25 vars (args.drop k) (types.drop k)=Z25 vars (args.drop (k+1)) (types.drop (k+1)):=by
 rw [Z5 ha,Z5 ht,Z25,if_pos h]
theorem Zod {vars args types:List Int} {k:Nat} {a t:Int} (ha:args[k]? = some a) (ht:types[k]? = some t) (h:atI vars a≠some t) :
  Z25 vars (args.drop k) (types.drop k)=false:=by
 rw [Z5 ha,Z5 ht,Z25,if_neg h]
theorem Zz3 {vars args types:List Int} {k:Nat} (ha:args.length≤k) (ht:types.length≤k):Z25 vars (args.drop k) (types.drop k)=true:=by
 rw [Zt ha,Zt ht];rfl
def Z20 (op:Int):Bool:=op==0||(op==6||(op==8||(op==9||op==10)))
def Zx (op:Int):Bool:=decide (0≤op∧op≤11)
def Z0q (op:Int):Bool:=decide (14≤op∧op≤17)
def Z15 (vars:List Int) (op into:Int):Bool:=
 if into=0 then true else if op=6 then ((atI vars (into-1)).map fun t=>decide (0<t)).getD false else false
def Z45 (ds:List Decl) (ps:List Int) (res:Int):Int:=Z2a ds (ps.getLast?.getD 0) res
def Z3d (ds:List Decl) (vars:List Int) (op:Int) (args:List Int) (r:Routine):Int:=
 if op=9 then (if Z1r vars args r.params=true then r.result else -1)
 else if r.params.length=0∨0<r.lent.length∨¬Z1r vars args (r.params.take (r.params.length-1))=true then -1
 else Z45 ds r.params r.result
def Z2l (n:Normal) (vars:List Int) (op num:Int) (args:List Int):Int:=
 match atI n.routines num with
 | none=>-1
 | some r=>Z3d n.decls vars op args r
def Z1z (ds:List Decl) (vars:List Int) (op:Int) (args:List Int):Int:=
 match args with
 | [a]=>match atI vars a with
  | some t=>if t=0 then -1 else if (op≠14∧op≠15)∧Z00 ds t=true then -1 else 0
  | none=>-1
 | _=>-1
def Z4c (ds:List Decl) (vars:List Int) (args:List Int):Int:=
 match args with
 | [a,b]=>match atI vars a with
  | some t=>if Z00 ds t=true then
    (match ds[(t-1).toNat]? with
     | some d=>if Z1r vars [b] [d.frm]=true then d.to_ else -1
     | none=>-1) else -1
  | none=>-1
 | _=>-1
def Zq (ds:List Decl) (op num:Int):List (List Int):=if op=7 then [[],[]] else (Zb ds num).map (Z1 ds)
mutual
def Z7 (n:Normal) (vars:List Int):Step→Int
 | .mk op num into args kids=>
  if (num≠0∧¬Z20 op=true)∨¬Z15 vars op into=true∨(0<kids.length∧op≠7∧op≠8) then -1
  else if op=0 then (if args.length=0∧(-999≤num∧num≤999) then 0 else -1)
  else if op=1∨op=2∨op=3∨op=4 then (if Z1r vars args [0,0]=true then 0 else -1)
  else if op=5 then (if Z1r vars args [0]=true then 0 else -1)
  else if op=6 then (if 0<Z08 n.decls num∧Z1r vars args (Z1 n.decls num)=true then Z08 n.decls num else -1)
  else if op=7 then (if Z1r vars args [0]=true then (if (Zq n.decls op num).length=0∨kids.length≠(Zq n.decls op num).length then -1 else Z1k n vars kids (Zq n.decls op num) true 0) else -1)
  else if op=8 then (if Z1r vars args [num]=true then (if (Zq n.decls op num).length=0∨kids.length≠(Zq n.decls op num).length then -1 else Z1k n vars kids (Zq n.decls op num) true 0) else -1)
  else if op=9∨op=10 then Z2l n vars op num args
  else if op=11 then Z4c n.decls vars args
  else if op=14∨op=15∨op=16∨op=17 then Z1z n.decls vars op args
  else -1
def Z1k (n:Normal) (vars:List Int):List Block→List (List Int)→Bool→Int→Int
 | [],_,_,t=>t
 | b::bs,more,first,t=>
  match more with
  | []=>-1
  | m::ms=>if Zf n (vars++m) b<0∨(first=false∧Zf n (vars++m) b≠t) then -1 else Z1k n vars bs ms false (Zf n (vars++m) b)
def Z10 (n:Normal):List Step→List Int→Option (List Int)
 | [],vars=>some vars
 | s::r,vars=>if Z7 n vars s<0 then none else Z10 n r (if Zx s.op=true then vars++[Z7 n vars s] else vars)
def Zf (n:Normal) (vars:List Int):Block→Int
 | .mk steps result=>match Z10 n steps vars with
  | none=>-1
  | some vs=>(atI vs result).getD (-1)
end
def Z3o (n:Normal) (vars:List Int) (op num:Int) (kids:List Block):Int:=
 if (Zq n.decls op num).length=0∨kids.length≠(Zq n.decls op num).length then -1 else Z1k n vars kids (Zq n.decls op num) true 0
mutual
def Zne:Step→Int→Int
 | .mk _ _ _ _ kids,left=>Z6x kids left
def Z3m:Block→Int→Int
 | .mk steps _,left=>Z6h steps left
def Z6h:List Step→Int→Int
 | [],left=>left
 | s::r,left=>if left<1 then -1 else if Zne s (left-1)<0 then -1 else Z6h r (Zne s (left-1))
def Z6x:List Block→Int→Int
 | [],left=>left
 | b::r,left=>if Z3m b left<0 then -1 else Z6x r (Z3m b left)
end
def Z2r (b:Block):Int:=if Z3m b 600<0 then -1 else 600-Z3m b 600
def Z34 (n:Normal):List Routine→Bool
 | []=>true
 | r::rs=>if ¬Z2r r.body<0∧Zf n r.params r.body=r.result then Z34 n rs else false
def Z05 (n:Normal):Bool:=Z0e n&&Z34 n n.routines
theorem Zkx:(∀(s:Step) (l:Int),0≤l→Zne s l≤l)∧(∀(b:Block) (l:Int),0≤l→Z3m b l≤l):=by
 have key:∀m:Nat,(∀s:Step,s.sz≤m→∀l:Int,0≤l→Zne s l≤l)∧(∀b:Block,b.sz≤m→∀l:Int,0≤l→Z3m b l≤l):=by
  intro m
  induction m with
  | zero=>exact ⟨fun s h=>by have:=s.sz_pos;omega,fun s h=>by have:=s.sz_pos;omega⟩
  | succ m ih=>
   refine ⟨fun s hs l hl=>?_,fun b hb l hl=>?_⟩
   ·cases s with
    | mk op num into args kids=>
     rw [Zne]
     have hk:bsz kids≤m:=by rw [Step.sz] at hs;omega
     clear hs
     induction kids generalizing l with
     | nil=>rw [Z6x];exact Int.le_refl _
     | cons b r ihr=>
      rw [bsz] at hk
      have:=ih.2 b om l hl
      rw [Z6x]
      split
      ·omega
      ·have:=ihr (Z3m b l) om om;omega
   ·cases b with
    | mk steps res=>
     rw [Z3m]
     have hk:ssz steps≤m:=by rw [Block.sz] at hb;omega
     clear hb
     induction steps generalizing l with
     | nil=>rw [Z6h];exact Int.le_refl _
     | cons s r ihr=>
      rw [ssz] at hk
      rw [Z6h]
      split
      ·omega
      ·have:=ih.1 s om (l-1) om
       split
       ·omega
       ·have:=ihr (Zne s (l-1)) om om;omega
 exact ⟨fun s l hl=>(key s.sz).1 s (Nat.le_refl _) l hl,fun b l hl=>(key b.sz).2 b (Nat.le_refl _) l hl⟩
end Go.Abs
namespace Go.Abs
theorem Z04n {l:List Step} {k:Nat} {s:Step} (h:l[k]? = some s):k+s.sz≤ssz l:=by
 induction l generalizing k with
 | nil=>simp at h
 | cons t r ih=>
  cases k with
  | zero=>simp at h;subst h;simp only [ssz];omega
  | succ k=>have:=ih (k:=k) (by simpa using h);have:=t.sz_pos;simp only [ssz];omega
theorem Zdh {b:Block} {k:Nat} {s:Step} (h:b.steps[k]? = some s):k+s.sz<b.sz:=by have:=Z04n h;have:=b.sz_eq;omega
structure NOk (n:Normal):Prop where
 decls:DOk n.decls
 len:n.routines.length≤4
 params:∀r∈n.routines,r.params.length≤3
 lent:∀r∈n.routines,r.lent.length≤4194304
theorem NOk.params_at {n:Normal} (h:NOk n) {k:Nat} {r:Routine} (hr:n.routines[k]? = some r):r.params.length≤3:=h.params r (List.mem_of_getElem? hr)
theorem NOk.lent_at {n:Normal} (h:NOk n) {k:Nat} {r:Routine} (hr:n.routines[k]? = some r):r.lent.length≤4194304:=h.lent r (List.mem_of_getElem? hr)
theorem Zs9 {ds:List Decl} {num:Int} {k:Nat} {x:Int} (h:(Zb ds num)[k]? = some x):(Zq ds 8 num)[k]? = some (Z1 ds x):=by
 rw [Zq,if_neg om,List.getElem?_map,h];rfl
end Go.Abs
namespace Go.Abs
theorem Zhh {ds:List Decl} (hd:DOk ds) (t:Int):(Zb ds t).length≤3:=by
 rw [Zb]
 split
 ·rename_i h
  obtain ⟨d,hd1⟩:=Z6 (xs:=ds) (j:=(t-1).toNat) om
  rw [hd1,Zhi]
  exact hd.cons_at hd1
 ·simp
theorem Z13 {ds:List Decl} (hd:DOk ds) (c:Int):(Z1 ds c).length≤3:=by
 by_cases h:Z08 ds c<1
 ·rw [(Z7v h).1];simp
 ·obtain ⟨k,d,x,h1,_,h3,_,h5⟩:=Za0 h
  rw [h5];exact hd.fields_at h1 h3
theorem Z8h {ds:List Decl} (hd:DOk ds) {op num:Int} {k:Nat} {m:List Int} (h:(Zq ds op num)[k]? = some m):m.length≤3:=by
 have hm:=List.mem_of_getElem? h
 rw [Zq] at hm
 split at hm
 ·simp at hm;subst hm;simp
 ·obtain ⟨c,_,rfl⟩:=List.mem_map.1 hm;exact Z13 hd c
theorem Zfd {α:Type} {xs:List α} {x:α} (h:xs.length=1) (hx:xs[0]? = some x):xs=[x]:=by
 cases xs with
 | nil=>simp at h
 | cons a r=>
  cases r with
  | nil=>simp at hx;rw [hx]
  | cons b r=>simp at h
theorem Z55 {ds:List Decl} {us args:List Int} {op:Int} (h:args.length≠1):Z1z ds us op args=-1:=by
 cases args with
 | nil=>rfl
 | cons a r=>
  cases r with
  | nil=>simp at h
  | cons b r=>rfl
theorem Z56 {ds:List Decl} {us args:List Int} {op a:Int} (h:args=[a]) (hi:¬(0≤a∧a≤(us.length:Int)-1)):Z1z ds us op args=-1:=by
 subst h;rw [Z1z];simp only [Z5t hi]
theorem Z5u {ds:List Decl} {us args:List Int} {op a t:Int} (h:args=[a]) (hi:0≤a∧a≤(us.length:Int)-1) (ht:us[a.toNat]? = some t) :
  Z1z ds us op args=if t=0 then -1 else if (op≠14∧op≠15)∧Z00 ds t=true then -1 else 0:=by
 subst h;rw [Z1z];simp only [Z6v hi ht]
theorem Ztm {n:Normal} {us args:List Int} {op num:Int} {r:Routine} (hi:0≤num∧num≤(n.routines.length:Int)-1) (hr:n.routines[num.toNat]? = some r) :
  Z2l n us op num args=Z3d n.decls us op args r:=by
 rw [Z2l];simp only [Z6v hi hr]
theorem Zpt {n:Normal} {us args:List Int} {op num:Int} (hi:¬(0≤num∧num≤(n.routines.length:Int)-1)):Z2l n us op num args=-1:=by
 rw [Z2l];simp only [Z5t hi]
theorem Zjb {xs:List Int} {x:Int} (h:xs[xs.length-1]? = some x):xs.getLast?.getD 0=x:=by
 rw [List.getLast?_eq_getElem?,h];rfl
theorem Zna {n:Normal} {us:List Int} {bs:List Block} {ms:List (List Int)} {b:Block} {m:List Int} {k:Nat} {t:Int} (hb:bs[k]? = some b) (hm:ms[k]? = some m)
  (h:¬(Zf n (us++m) b<0∨(k:Int)>0∧Zf n (us++m) b≠t)) :
  Z1k n us (bs.drop k) (ms.drop k) (decide (k=0)) t=Z1k n us (bs.drop (k+1)) (ms.drop (k+1)) (decide (k+1=0)) (Zf n (us++m) b):=by
 rw [Z5 hb,Z5 hm,Z1k,if_neg]
 ·simp
 ·rintro (q|⟨q1,q2⟩)
  ·exact h (.inl q)
  ·exact h (.inr ⟨by simp at q1;omega,q2⟩)
theorem Zr2 {n:Normal} {us:List Int} {bs:List Block} {ms:List (List Int)} {b:Block} {m:List Int} {k:Nat} {t:Int} (hb:bs[k]? = some b) (hm:ms[k]? = some m)
  (h:Zf n (us++m) b<0∨(k:Int)>0∧Zf n (us++m) b≠t) :
  Z1k n us (bs.drop k) (ms.drop k) (decide (k=0)) t=-1:=by
 rw [Z5 hb,Z5 hm,Z1k,if_pos]
 rcases h with q|⟨q1,q2⟩
 ·exact .inl q
 ·exact .inr ⟨by simp;omega,q2⟩
theorem Zr3 {n:Normal} {us:List Int} {bs:List Block} {ms:List (List Int)} {k:Nat} {f:Bool} {t:Int} (hb:bs.length≤k):Z1k n us (bs.drop k) (ms.drop k) f t=t:=by
 rw [Zt hb,Z1k]
end Go.Abs
end
section
namespace Go.Abs
theorem Z3z (n:Normal) (us:List Int) (s:Step):Z7 n us s =
  if (s.num≠0∧¬Z20 s.op=true)∨¬Z15 us s.op s.into=true∨(0<s.kids.length∧s.op≠7∧s.op≠8) then -1
  else if s.op=0 then (if s.args.length=0∧(-999≤s.num∧s.num≤999) then 0 else -1)
  else if s.op=1∨s.op=2∨s.op=3∨s.op=4 then (if Z1r us s.args [0,0]=true then 0 else -1)
  else if s.op=5 then (if Z1r us s.args [0]=true then 0 else -1)
  else if s.op=6 then (if 0<Z08 n.decls s.num∧Z1r us s.args (Z1 n.decls s.num)=true then Z08 n.decls s.num else -1)
  else if s.op=7 then (if Z1r us s.args [0]=true then Z3o n us s.op s.num s.kids else -1)
  else if s.op=8 then (if Z1r us s.args [s.num]=true then Z3o n us s.op s.num s.kids else -1)
  else if s.op=9∨s.op=10 then Z2l n us s.op s.num s.args
  else if s.op=11 then Z4c n.decls us s.args
  else if s.op=14∨s.op=15∨s.op=16∨s.op=17 then Z1z n.decls us s.op s.args
  else -1:=by
 cases s with
 | mk op num into args kids=>rw [Z7];rfl
theorem Z91 (n:Normal) (us:List Int) (b:Block):Zf n us b=match Z10 n b.steps us with
  | none=>-1
  | some vs=>(atI vs b.result).getD (-1):=by
 cases b with
 | mk st r=>rw [Zf];rfl
theorem Z059 {α:Type} {xs:List α} {x:α} (h:xs.length=2) (hx:xs[0]? = some x):∃y,xs=[x,y]:=by
 match xs,h with
 | [a,b],_=>simp at hx;subst hx;exact ⟨b,rfl⟩
theorem Z22 {ds:List Decl} {us args:List Int} (h:args.length≠2):Z4c ds us args=-1:=by
 match args,h with
 | [],_=>rfl
 | [_],_=>rfl
 | [_,_],h=>simp at h
 | _::_::_::_,_=>rfl
theorem Z23 {ds:List Decl} {us args:List Int} {a:Int} (hl:args.length=2) (h:args[0]? = some a) (hi:¬(0≤a∧a≤(us.length:Int)-1)):Z4c ds us args=-1:=by
 obtain ⟨y,rfl⟩:=Z059 hl h;rw [Z4c];simp only [Z5t hi]
theorem Z2p {ds:List Decl} {us args:List Int} {a t:Int} (hl:args.length=2) (h:args[0]? = some a) (hi:0≤a∧a≤(us.length:Int)-1) (ht:us[a.toNat]? = some t) :
  Z4c ds us args=if Z00 ds t=true then
    (match ds[(t-1).toNat]? with
     | some d=>if Z1r us (args.drop 1) [d.frm]=true then d.to_ else -1
     | none=>-1) else -1:=by
 obtain ⟨y,rfl⟩:=Z059 hl h;rw [Z4c];simp only [Z6v hi ht];rfl
theorem Z02l {ds:List Decl} {us args:List Int} {a t:Int} {d:Decl} (hl:args.length=2) (h:args[0]? = some a) (hi:0≤a∧a≤(us.length:Int)-1) (ht:us[a.toNat]? = some t)
  (hA:Z00 ds t=true) (hd:ds[(t-1).toNat]? = some d):Z4c ds us args=if Z1r us (args.drop 1) [d.frm]=true then d.to_ else -1:=by
 rw [Z2p hl h hi ht,if_pos hA];simp only [hd]
theorem Ze5 {ds:List Decl} {t:Int} (h:Z00 ds t=true):1≤t∧t≤ds.length:=by
 simp only [Z00,Bool.and_eq_true,decide_eq_true_eq] at h;exact h.1
theorem Zr4 (b:Block) (l:Int):Z3m b l=Z6h b.steps l:=by cases b;rw [Z3m];rfl
theorem Zg2 (s:Step) (l:Int):Zne s l=Z6x s.kids l:=by cases s;rw [Zne];rfl
end Go.Abs
end
section
namespace Go.Abs
structure NSz (n:Normal):Prop where
 decls:DSz n.decls
 len:n.routines.length≤4194304
 params:∀r∈n.routines,r.params.length≤4194304
 lent:∀r∈n.routines,r.lent.length≤4194304
 body:∀r∈n.routines,r.body.sz≤10000000
theorem Zbs {m:Nat} {fs:List Sg} (h:Z6s m fs=true):∀f∈fs,Z9m m f=true:=by
 induction fs with
 | nil=>simp
 | cons f r ih=>
  rw [Z6s] at h
  split at h
  ·rename_i h1
   intro g hg
   rcases List.mem_cons.1 hg with rfl|hg
   ·exact h1
   ·exact ih h g hg
  ·cases h
theorem Z9b {n:Normal} (hz:NSz n) (h:Z0e n=true):NOk n:=by
 simp only [Z0e,Z2v,Bool.and_eq_true,decide_eq_true_eq] at h
 obtain ⟨h1,⟨h2,h3,h4,h5⟩,h6⟩:=h
 refine ⟨Zlt h2,h1,fun r hr=>?_,hz.lent⟩
 have:=Zbs h4 (Z5p r) (List.mem_map.2 ⟨r,hr,rfl⟩)
 simp only [Z9m,Bool.and_eq_true,decide_eq_true_eq] at this
 exact this.1
end Go.Abs
end
section
namespace Go.Abs
def gI (xs:List Int) (i:Int):Int:=xs[i.toNat]?.getD 0
theorem Z5a {xs:List Int} {i:Int} {x:Int} (h:xs[i.toNat]? = some x):gI xs i=x:=by rw [gI,h];rfl
structure Led where
 vars:List Int
 own:List Int
 par:List Int
 con:List Int
 fst:List Int
 tok:List Int
def Led.grow (L:Led) (t own par:Int):Led:=⟨L.vars++[t],L.own++[own],L.par++[par],L.con++[-1],L.fst++[-1],L.tok++[-1]⟩
def Z7q (L:Led) (v:Int):Option Led:=if gI L.own v<1 then none else some { L with own:=L.own.set v.toNat (gI L.own v-1) }
def Z7u (own par ln:List Int):Nat→Int→Bool
 | 0,_=>false
 | k+1,v=>if gI own v<1∧¬v∈ln then (if gI par v<0 then false else Z7u own par ln k (gI par v)) else true
def Z1m (L:Led) (ln:List Int) (v:Int):Bool:=Z7u L.own L.par ln (v.toNat+1) v
def addF:List Int→Int→List Int→List Int
 | own,_,[]=>own
 | own,p,f::r=>addF (if f≠0 then own.set p.toNat (gI own p+1) else own) (p+1) r
def Zax (ds:List Decl) (L:Led) (op x:Int):Option Led:=
 if gI L.con x<0∨(op=17∧0≤gI L.tok x) then none
 else match Z7q L x with
  | none=>none
  | some L1=>some { L1 with
    own:=addF L1.own (gI L.fst x) (Z1 ds (gI L.con x))
    tok:=if op=17 then L.tok.set x.toNat (Z1 ds (gI L.con x)).length else L.tok }
def Z2i (op:Int):Bool:=op==6||(op==9||(op==10||op==11))
def Zbo (n:Normal) (op num:Int):List Int:=if op=9 then ((n.routines[num.toNat]?).map (·.lent)).getD [] else []
def Z2d (n:Normal) (op num:Int) (i:Nat):Bool:=decide ((i:Int)∈Zbo n op num)
def Zau (n:Normal) (vars:List Int) (op num a:Int) (i:Nat):Bool:=Z2i op&&(gI vars a != 0&&!Z2d n op num i)
def Z3q (n:Normal) (op num:Int):List Int→Nat→Led→Option Led
 | [],_,L=>some L
 | a::r,i,L=>if Zau n L.vars op num a i=true then (match Z7q L a with
   | none=>none
   | some L1=>Z3q n op num r (i+1) L1) else Z3q n op num r (i+1) L
def Z47 (n:Normal) (op num:Int) (ln:List Int) (L:Led):List Int→Nat→Bool
 | [],_=>true
 | a::r,i=>if Z2d n op num i=true∧¬Z1m L ln a=true then false else Z47 n op num ln L r (i+1)
def Z4z (L:Led) (into:Int) (m:Nat):Option Led:=
 if 0<into then (if gI L.tok (into-1)≠m then none else some { L with tok:=L.tok.set (into-1).toNat (-1) }) else some L
def Z7r (n:Normal) (ln:List Int) (L:Led) (op num into:Int) (args:List Int):Option Led:=
 match Z3q n op num args 0 L with
 | none=>none
 | some L1=>if Z47 n op num ln L1 args 0=true then Z4z L1 into args.length else none
def Z30:List Int→List Int→Bool
 | o::os,t::ts=>if o≠0∨0≤t then false else Z30 os ts
 | _,_=>true
def Led.take (L:Led) (m:Nat):Led:=⟨L.vars.take m,L.own.take m,L.par.take m,L.con.take m,L.fst.take m,L.tok.take m⟩
def cutL (L:Led) (m:Nat):Option Led:=if Z30 (L.own.drop m) (L.tok.drop m)=true then some (L.take m) else none
def Z6m (L:Led) (par:Int):List Int→Led
 | []=>L
 | t::r=>Z6m (L.grow t 0 par) par r
def armL (ds:List Decl) (L:Led) (x c:Int):Led:=
 Z6m { L with con:=L.con.set x.toNat c,fst:=L.fst.set x.toNat L.vars.length } x (Z1 ds c)
def kidL (ds:List Decl) (L:Led) (op num:Int) (args:List Int) (i:Nat):Led:=
 if op=8 then armL ds L (gI args 0) (gI (Zb ds num) i) else L
def Z5o (lent:List Int):List Int→Nat→Led→Led
 | [],_,L=>L
 | t::r,i,L=>Z5o lent r (i+1) (L.grow t (if t≠0∧¬(i:Int)∈lent then 1 else 0) (-1))
def newL (r:Routine):Led:=Z5o r.lent r.params 0 ⟨[],[],[],[],[],[]⟩
def dupL (L:Led) (ln:List Int) (v:Int):Option Led:=if Z1m L ln v=true then some { L with own:=L.own.set v.toNat (gI L.own v+1) } else none
def Zbp (n:Normal) (ln:List Int) (L:Led) (op num into:Int) (args:List Int) (ch:Option Led):Option Led:=
 if op=14 then dupL L ln (gI args 0)
 else if op=15 then Z7q L (gI args 0)
 else if op=16∨op=17 then Zax n.decls L op (gI args 0)
 else if op=7∨op=8 then (if op=8∧¬Z1m L ln (gI args 0)=true then none else ch)
 else Z7r n ln L op num into args
def finL (L:Led) (op t:Int) (r:Option Led):Option Led:=
 match r with
 | none=>none
 | some L1=>if Zx op=true then some (L1.grow t (if t≠0 then 1 else 0) (-1)) else some L1
def Znj (L:Led) (first:Option Led) (rest:Led→Bool):Option Led:=
 match first with
 | none=>none
 | some one=>if rest one=true then some { L with own:=one.own,tok:=one.tok } else none
def Z017 (one:Led) (two:Option Led) (rest:Bool):Bool:=
 match two with
 | none=>false
 | some two=>if one.own=two.own∧one.tok=two.tok then rest else false
def Zu3 (r:Option Led) (f:Led→Option Led):Option Led:=match r with|none=>none|some L=>f L
def endL (m:Nat) (res:Int) (L:Led):Option Led:=Zu3 (if gI L.vars res≠0 then Z7q L res else some L) fun L2=>cutL L2 m
mutual
def Z8w (n:Normal) (ln:List Int) (L:Led):Step→Option Led
 | .mk op num into args kids=>finL L op (Z7 n L.vars (.mk op num into args kids)) (Zbp n ln L op num into args (Z6w n ln L op num args kids))
def Z6w (n:Normal) (ln:List Int) (L:Led) (op num:Int) (args:List Int):List Block→Option Led
 | []=>none
 | b::bs=>Znj L (Z39 n ln (kidL n.decls L op num args 0) L.vars.length b) fun one=>Ze7 n ln L op num args one bs 1
def Ze7 (n:Normal) (ln:List Int) (L:Led) (op num:Int) (args:List Int) (one:Led):List Block→Nat→Bool
 | [],_=>true
 | b::bs,i=>Z017 one (Z39 n ln (kidL n.decls L op num args i) L.vars.length b) (Ze7 n ln L op num args one bs (i+1))
def Z3c (n:Normal) (ln:List Int) (L:Led):List Step→Option Led
 | []=>some L
 | s::r=>Zu3 (Z8w n ln L s) fun L1=>Z3c n ln L1 r
def Z39 (n:Normal) (ln:List Int) (L:Led) (m:Nat):Block→Option Led
 | .mk steps result=>Zu3 (Z3c n ln L steps) (endL m result)
end
theorem Zlo (n:Normal) (ln:List Int) (L:Led) (s:Step):Z8w n ln L s=finL L s.op (Z7 n L.vars s) (Zbp n ln L s.op s.num s.into s.args (Z6w n ln L s.op s.num s.args s.kids)):=by
 cases s with
 | mk op num into args kids=>rw [Z8w];rfl
theorem Z4e (n:Normal) (ln:List Int) (L:Led) (m:Nat) (b:Block):Z39 n ln L m b=Zu3 (Z3c n ln L b.steps) (endL m b.result):=by
 cases b with
 | mk st r=>rw [Z39];rfl
def Z1y (n:Normal) (r:Routine):Bool:=
 match Z39 n r.lent (newL r) r.params.length r.body with
 | none=>false
 | some L=>(cutL L 0).isSome
def Z36 (n:Normal):List Routine→Bool
 | []=>true
 | r::rs=>if Z1y n r=true then Z36 n rs else false
def Z1x (n:Normal):Bool:=Z05 n&&Z36 n n.routines
structure LLen (L:Led):Prop where
 own:L.own.length=L.vars.length
 par:L.par.length=L.vars.length
 con:L.con.length=L.vars.length
 fst:L.fst.length=L.vars.length
 tok:L.tok.length=L.vars.length
structure LOk (ds:List Decl) (L:Led) (q:Int):Prop where
 len:LLen L
 down:∀j:Int,0≤j→j<L.vars.length→gI L.par j<j
 arm:∀x:Int,0≤x→x<L.vars.length→0≤gI L.con x→0≤gI L.fst x∧gI L.fst x+(Z1 ds (gI L.con x)).length≤L.vars.length
 nn:∀x∈L.own,0≤x
 bd:∀x∈L.own,x≤q
end Go.Abs
end
section
namespace Go.Abs
end Go.Abs
namespace Go.Abs
theorem Z00m {n:Normal} {op num:Int} {r:Routine} (h:op=9) (hr:n.routines[num.toNat]? = some r):Zbo n op num=r.lent:=by
 rw [Zbo,if_pos h,hr];rfl
end Go.Abs
namespace Go.Abs
theorem Zoq {own par ln:List Int} {N:Int} (hd:∀j:Int,0≤j→j<N→gI par j<j):∀(k:Nat) (v:Int),0≤v→v<N→v.toNat+1≤k→Z7u own par ln k v=Z7u own par ln (v.toNat+1) v:=by
 intro k
 induction k using Nat.strongRecOn with
 | ind k ih=>
  intro v h0 hN hk
  cases k with
  | zero=>omega
  | succ k=>
   rw [Z7u,Z7u]
   split
   ·split
    ·rfl
    ·have hdv:=hd v h0 hN
     rw [ih k om (gI par v) om om om]
     rw [ih v.toNat om (gI par v) om om om]
   ·rfl
theorem Zqd {own par ln:List Int} {N j x1 x2:Int} {r:Bool} (h1:gI own j=x1) (h2:gI par j=x2) (hj:0≤j∧j<N) (hx:x1<1∧¬j∈ln) (h0:¬x2<0) (hd:∀i:Int,0≤i→i<N→gI par i<i)
  (h:Z7u own par ln (j.toNat+1) j=r):Z7u own par ln (x2.toNat+1) x2=r:=by
 rw [Z7u,h1,h2,if_pos hx,if_neg h0] at h
 have hdv:=hd j hj.1 hj.2
 rw [←h,Zoq hd j.toNat x2 om om om]
theorem Ziu {own par ln:List Int} {j x1 x2:Int} {r:Bool} (h1:gI own j=x1) (h2:gI par j=x2) (hx:x1<1∧¬j∈ln) (h0:x2<0) (h:Z7u own par ln (j.toNat+1) j=r):false=r:=by
 rw [Z7u,h1,h2,if_pos hx,if_pos h0] at h;exact h
theorem Ziv {own par ln:List Int} {j x1:Int} {r:Bool} (h1:gI own j=x1) (hx:¬(x1<1∧¬j∈ln)) (h:Z7u own par ln (j.toNat+1) j=r):true=r:=by
 rw [Z7u,h1,if_neg hx] at h;exact h
end Go.Abs
namespace Go.Abs
theorem Z35 {L L':Led} {v:Int} (h:Z7q L v=some L'):1≤gI L.own v∧L'.vars=L.vars∧L'.par=L.par∧L'.con=L.con∧L'.fst=L.fst∧L'.tok=L.tok∧L'.own=L.own.set v.toNat (gI L.own v-1):=by
 rw [Z7q] at h
 split at h
 ·cases h
 ·cases h;exact ⟨by omega,rfl,rfl,rfl,rfl,rfl,rfl⟩
theorem Zw2 {xs:List Int} {v:Int} (h:gI xs v≠0):gI xs v∈xs:=by
 rw [gI] at h ⊢
 cases hx:xs[v.toNat]? with
 | none=>rw [hx] at h;exact absurd rfl h
 | some y=>exact List.mem_of_getElem? hx
theorem Z33 {xs:List Int} {i:Nat} {a x:Int} (h:x∈xs.set i a):x∈xs∨x=a:=List.mem_or_eq_of_mem_set h
theorem LOk.take {ds:List Decl} {L L':Led} {q v:Int} (hk:LOk ds L q) (h:Z7q L v=some L'):LOk ds L' q:=by
 obtain ⟨t1,t2,t3,t4,t5,t6,t7⟩:=Z35 h
 obtain ⟨f1,f2,f3,f4,f5⟩:=hk.len
 have hm:=Zw2 (xs:=L.own) (v:=v) om
 refine ⟨⟨by rw [t7,t2,List.length_set];exact f1,by rw [t3,t2];exact f2,by rw [t4,t2];exact f3,by rw [t5,t2];exact f4,by rw [t6,t2];exact f5⟩,?_,?_,?_,?_⟩
 ·rw [t2,t3];exact hk.down
 ·rw [t2,t4,t5];exact hk.arm
 ·rw [t7];intro x hx
  rcases Z33 hx with hx|rfl
  ·exact hk.nn x hx
  ·omega
 ·rw [t7];intro x hx
  rcases Z33 hx with hx|rfl
  ·exact hk.bd x hx
  ·have:=hk.bd _ hm;omega
end Go.Abs
end
section
namespace Go.Abs
theorem Z8f {us:List Int}:∀{args tys:List Int},Z25 us args tys=true→args.length=tys.length∧∀a∈args,0≤a∧a<us.length
 | [],[],_=>⟨rfl,by simp⟩
 | [],_::_,h=>by cases h
 | _::_,[],h=>by cases h
 | a::as1,t::ts,h=>by
  rw [Z25] at h
  split at h
  ·rename_i h1
   obtain ⟨q1,q2⟩:=Z8f h
   refine ⟨by simp [q1],fun x hx=>?_⟩
   rcases List.mem_cons.1 hx with rfl|hx
   ·have:=(Z4y h1).1;omega
   ·exact q2 x hx
  ·cases h
theorem Zf1 {n:Normal} {us:List Int}:∀{bs:List Block} {ms:List (List Int)} {f:Bool} {t:Int},0≤t→0≤Z1k n us bs ms f t →
  ∀(i:Nat) (b:Block) (m:List Int),bs[i]? = some b→ms[i]? = some m→0≤Zf n (us++m) b
 | [],_,_,_,_,_,i,b,m,hb,_=>by simp at hb
 | b::bs,[],_,_,_,h,_,_,_,_,hm=>by simp at hm
 | b::bs,m::ms,f,t,ht,h,i,c,l,hc,hl=>by
  rw [Z1k] at h
  split at h
  ·omega
  ·rename_i hq
   have h0:0≤Zf n (us++m) b:=by
    rcases Int.lt_or_le (Zf n (us++m) b) 0 with q|q
    ·exact absurd (.inl q) hq
    ·exact q
   cases i with
   | zero=>simp at hc hl;subst hc hl;exact h0
   | succ i=>exact Zf1 h0 h i c l (by simpa using hc) (by simpa using hl)
structure SFacts (n:Normal) (us:List Int) (s:Step):Prop where
 args:∀a∈s.args,0≤a∧a<us.length
 one:(s.op=7∨s.op=8∨(14≤s.op∧s.op≤17))→∃a,s.args=[a]
 num:s.op=9→0≤s.num∧s.num<n.routines.length
 into:s.into≠0→1≤s.into∧s.into≤us.length
 kids:(s.op=7∨s.op=8)→s.kids.length=(Zq n.decls s.op s.num).length∧(Zq n.decls s.op s.num).length≠0 ∧
  ∀(i:Nat) (b:Block) (m:List Int),s.kids[i]? = some b→(Zq n.decls s.op s.num)[i]? = some m→0≤Zf n (us++m) b
theorem Zn9 {n:Normal} {us:List Int} {op num:Int} {kids:List Block} (h:0≤Z3o n us op num kids) :
  kids.length=(Zq n.decls op num).length∧(Zq n.decls op num).length≠0∧∀(i:Nat) (b:Block) (m:List Int),kids[i]? = some b→(Zq n.decls op num)[i]? = some m→0≤Zf n (us++m) b:=by
 rw [Z3o] at h
 split at h
 ·omega
 ·rename_i hq
  exact ⟨by omega,by omega,Zf1 (Int.le_refl 0) h⟩
theorem Zr5 {xs:List Int} (h:xs.length=1):∃a,xs=[a]:=by
 match xs,h with
 | [a],_=>exact ⟨a,rfl⟩
theorem Z7b {n:Normal} {us:List Int} {s:Step} (h:0≤Z7 n us s):SFacts n us s:=by
 rw [Z3z] at h
 split at h
 ·omega
 rename_i h0
 have hinto:s.into≠0→1≤s.into∧s.into≤us.length:=by
  intro hi
  have hv:Z15 us s.op s.into=true:=by
   cases q:Z15 us s.op s.into with
   | true=>rfl
   | false=>exact absurd (.inr (.inl (by rw [q];simp))) h0
  rw [Z15,if_neg hi] at hv
  split at hv
  ·cases ha:atI us (s.into-1) with
   | none=>rw [ha] at hv;cases hv
   | some t=>have:=(Z4y ha).1;omega
  ·cases hv
 have mk:(∀a∈s.args,0≤a∧a<us.length)→((s.op=7∨s.op=8∨(14≤s.op∧s.op≤17))→∃a,s.args=[a])→(s.op=9→0≤s.num∧s.num<n.routines.length) →
   ((s.op=7∨s.op=8)→0≤Z3o n us s.op s.num s.kids)→SFacts n us s:=fun a b c d=>⟨a,b,c,hinto,fun q=>Zn9 (d q)⟩
 have ty:∀{tys},Z1r us s.args tys=true→s.args.length=tys.length∧∀a∈s.args,0≤a∧a<us.length:=fun q=>Z8f q
 split at h
 ·rename_i h1
  split at h
  ·rename_i h2
   exact mk (by rw [List.eq_nil_of_length_eq_zero h2.1];simp) om om om
  ·omega
 split at h
 ·split at h
  ·rename_i h1 h2;exact mk (ty h2).2 om om om
  ·omega
 split at h
 ·split at h
  ·rename_i h1 h2;exact mk (ty h2).2 om om om
  ·omega
 split at h
 ·split at h
  ·rename_i h1 h2;exact mk (ty h2.2).2 om om om
  ·omega
 split at h
 ·split at h
  ·rename_i h1 h2;exact mk (ty h2).2 (fun _=>Zr5 (by simpa using (ty h2).1)) om (fun _=>h)
  ·omega
 split at h
 ·split at h
  ·rename_i h1 h2;exact mk (ty h2).2 (fun _=>Zr5 (by simpa using (ty h2).1)) om (fun _=>h)
  ·omega
 split at h
 ·rename_i hop
  rw [Z2l] at h
  cases hr:atI n.routines s.num with
  | none=>rw [hr] at h;simp at h
  | some r=>
   rw [hr] at h
   simp only at h
   have hn:=(Z4y hr).1
   rw [Z3d] at h
   split at h
   ·split at h
    ·rename_i h2;exact mk (ty h2).2 om om om
    ·omega
   ·split at h
    ·omega
    ·rename_i h2
     have h3:Z1r us s.args (r.params.take (r.params.length-1))=true:=by
      cases q:Z1r us s.args (r.params.take (r.params.length-1)) with
      | true=>rfl
      | false=>exact absurd (.inr (.inr (by rw [q];simp))) h2
     exact mk (ty h3).2 om om om
 split at h
 ·rename_i hop
  rcases he:s.args with _|⟨a,_|⟨b,_|⟨c,r⟩⟩⟩
  ·rw [he,show Z4c n.decls us []=-1 from rfl] at h;omega
  ·rw [he,show Z4c n.decls us [a]=-1 from rfl] at h;omega
  ·rw [he,Z4c] at h
   cases ha:atI us a with
   | none=>rw [ha] at h;simp at h
   | some t=>
    rw [ha] at h
    simp only at h
    split at h
    ·cases hd:n.decls[(t-1).toNat]? with
     | none=>rw [hd] at h;simp at h
     | some d=>
      rw [hd] at h
      simp only at h
      split at h
      ·rename_i h3
       have h4:=(Z8f h3).2 b (by simp)
       have h5:=(Z4y ha).1
       refine mk (fun x hx=>?_) om om om
       rw [he] at hx
       rcases List.mem_cons.1 hx with rfl|hx
       ·omega
       ·rw [List.mem_singleton.1 hx];exact h4
      ·omega
    ·omega
  ·rw [he,show Z4c n.decls us (a::b::c::r)=-1 from rfl] at h;omega
 split at h
 ·rename_i hop
  rcases he:s.args with _|⟨a,_|⟨b,r⟩⟩
  ·rw [he,show Z1z n.decls us s.op []=-1 from rfl] at h;omega
  ·rw [he,Z1z] at h
   cases ha:atI us a with
   | none=>rw [ha] at h;simp at h
   | some t=>
    have h5:=(Z4y ha).1
    refine mk (fun x hx=>?_) (fun _=>⟨a,he⟩) om om
    rw [he] at hx
    rw [List.mem_singleton.1 hx];omega
  ·rw [he,show Z1z n.decls us s.op (a::b::r)=-1 from rfl] at h;omega
 ·omega
def Za6 (n:Normal) (us:List Int) (s:Step):List Int:=if Zx s.op=true then us++[Z7 n us s] else us
theorem Zgq {L L':Led} {ln:List Int} {v:Int} (h:dupL L ln v=some L'):L'.vars=L.vars∧L'.par=L.par∧L'.con=L.con∧L'.fst=L.fst∧L'.tok=L.tok∧L'.own=L.own.set v.toNat (gI L.own v+1):=by
 rw [dupL] at h
 split at h
 ·cases h;exact ⟨rfl,rfl,rfl,rfl,rfl,rfl⟩
 ·cases h
theorem Zk8:∀(fs:List Int) (own:List Int) (p:Int),(addF own p fs).length=own.length
 | [],own,p=>rfl
 | f::r,own,p=>by rw [addF,Zk8 r];split<;>simp
theorem Z03b {xs:List Int} {q v:Int} (h:∀x∈xs,x≤q) (hq:0≤q):gI xs v≤q:=by
 by_cases h0:gI xs v=0
 ·omega
 ·exact h _ (Zw2 h0)
theorem Z03c {xs:List Int} {v:Int} (h:∀x∈xs,0≤x):0≤gI xs v:=by
 by_cases h0:gI xs v=0
 ·omega
 ·exact h _ (Zw2 h0)
theorem Zop:∀(fs:List Int) (own:List Int) (p:Int),(∀x∈own,0≤x)→∀x∈addF own p fs,0≤x
 | [],own,p,h=>h
 | f::r,own,p,h=>by
  rw [addF]
  refine Zop r _ _ fun x hx=>?_
  split at hx
  ·rcases Z33 hx with hx|rfl
   ·exact h x hx
   ·have:=Z03c (v:=p) h;omega
  ·exact h x hx
theorem Zoo:∀(fs:List Int) (own:List Int) (p q:Int),0≤q→(∀x∈own,x≤q)→∀x∈addF own p fs,x≤q+fs.length
 | [],own,p,q,hq,h=>by intro x hx;have:=h x hx;simp;omega
 | f::r,own,p,q,hq,h=>by
  intro x hx
  rw [addF] at hx
  have:=Zoo r _ _ (q+1) om (fun y hy=>by
   split at hy
   ·rcases Z33 hy with hy|rfl
    ·have:=h y hy;omega
    ·have:=Z03b (v:=p) h hq;omega
   ·have:=h y hy;omega) x hx
  simp only [List.length_cons];omega
theorem Zed {ds:List Decl} {L L':Led} {op v:Int} (h:Zax ds L op v=some L'):L'.vars=L.vars∧L'.par=L.par∧L'.con=L.con∧L'.fst=L.fst∧L'.tok.length=L.tok.length ∧
  ∃L1,Z7q L v=some L1∧L'.own=addF L1.own (gI L.fst v) (Z1 ds (gI L.con v)):=by
 rw [Zax] at h
 split at h
 ·cases h
 ·cases ht:Z7q L v with
  | none=>rw [ht] at h;cases h
  | some L1=>
   rw [ht] at h
   simp only at h
   obtain ⟨t1,t2,t3,t4,t5,t6,t7⟩:=Z35 ht
   cases h
   refine ⟨t2,t3,t4,t5,?_,L1,rfl,rfl⟩
   split
   ·rw [List.length_set]
   ·rfl
theorem Z72 {n:Normal} {op num:Int} {ds:List Decl} {q:Int}:∀{as1:List Int} {i:Nat} {L L':Led},LOk ds L q→Z3q n op num as1 i L=some L'→LOk ds L' q∧L'.vars=L.vars∧L'.par=L.par∧L'.con=L.con∧L'.fst=L.fst∧L'.tok=L.tok
 | [],i,L,L',hk,h=>by rw [Z3q] at h;cases h;exact ⟨hk,rfl,rfl,rfl,rfl,rfl⟩
 | a::r,i,L,L',hk,h=>by
  rw [Z3q] at h
  split at h
  ·cases ht:Z7q L a with
   | none=>rw [ht] at h;cases h
   | some L1=>
    rw [ht] at h
    obtain ⟨t1,t2,t3,t4,t5,t6,t7⟩:=Z35 ht
    obtain ⟨k1,k2,k3,k4,k5,k6⟩:=Z72 (hk.take ht) h
    exact ⟨k1,k2.trans t2,k3.trans t3,k4.trans t4,k5.trans t5,k6.trans t6⟩
  ·exact Z72 hk h
theorem LOk.le {ds:List Decl} {L:Led} {q q':Int} (h:LOk ds L q) (hq:q≤q'):LOk ds L q':=⟨h.len,h.down,h.arm,h.nn,fun x hx=>Int.le_trans (h.bd x hx) hq⟩
theorem LOk.turn {ds:List Decl} {L L':Led} {q q':Int} (hk:LOk ds L q) (h1:L'.vars=L.vars) (h2:L'.par=L.par) (h3:L'.con=L.con) (h4:L'.fst=L.fst) (h5:L'.tok.length=L.tok.length) (h6:L'.own.length=L.own.length)
  (h7:∀x∈L'.own,0≤x) (h8:∀x∈L'.own,x≤q'):LOk ds L' q':=by
 obtain ⟨f1,f2,f3,f4,f5⟩:=hk.len
 refine ⟨⟨by rw [h6,h1];exact f1,by rw [h2,h1];exact f2,by rw [h3,h1];exact f3,by rw [h4,h1];exact f4,by rw [h5,h1];exact f5⟩,?_,?_,h7,h8⟩
 ·rw [h1,h2];exact hk.down
 ·rw [h1,h3,h4];exact hk.arm
theorem Z5r {xs ys:List Int} {j:Int} (h:j.toNat<xs.length):gI (xs++ys) j=gI xs j:=by
 rw [gI,gI,List.getElem?_append_left h]
theorem Zqz {xs:List Int} {y:Int} {j:Int} (h:j.toNat=xs.length):gI (xs++[y]) j=y:=by
 rw [gI,h];simp
theorem LOk.grow {ds:List Decl} {L:Led} {q t o p:Int} (hk:LOk ds L q) (hp:p<L.vars.length) (ho:0≤o∧o≤q):LOk ds (L.grow t o p) q:=by
 obtain ⟨f1,f2,f3,f4,f5⟩:=hk.len
 refine ⟨⟨by simp [Led.grow,f1],by simp [Led.grow,f2],by simp [Led.grow,f3],by simp [Led.grow,f4],by simp [Led.grow,f5]⟩,?_,?_,?_,?_⟩
 ·intro j hj hl
  simp only [Led.grow,List.length_append,List.length_singleton] at hl ⊢
  by_cases hlt:j<L.vars.length
  ·rw [Z5r om];exact hk.down j hj hlt
  ·rw [Zqz om];omega
 ·intro x hx hl
  simp only [Led.grow,List.length_append,List.length_singleton] at hl ⊢
  by_cases hlt:x<L.vars.length
  ·rw [Z5r om,Z5r om]
   intro hc
   have:=hk.arm x hx hlt hc
   exact ⟨this.1,by omega⟩
  ·rw [Zqz om];omega
 ·intro x hx
  simp only [Led.grow,List.mem_append,List.mem_singleton] at hx
  rcases hx with hx|rfl
  ·exact hk.nn x hx
  ·exact ho.1
 ·intro x hx
  simp only [Led.grow,List.mem_append,List.mem_singleton] at hx
  rcases hx with hx|rfl
  ·exact hk.bd x hx
  ·exact ho.2
theorem Zr0 {xs:List Int} {k:Nat} {a:Int} {j:Int} (h:xs.length≤j.toNat∧j.toNat<xs.length+k):gI (xs++List.replicate k a) j=a:=by
 rw [gI,List.getElem?_append_right h.1,List.getElem?_replicate,if_pos om];rfl
theorem Z5j {xs:List Int} {x j c:Int} (h:j.toNat=x.toNat) (hl:x.toNat<xs.length):gI (xs.set x.toNat c) j=c:=by
 rw [gI,h,List.getElem?_set_self hl];rfl
theorem Z4u {xs:List Int} {x j c:Int} (h:j.toNat≠x.toNat):gI (xs.set x.toNat c) j=gI xs j:=by
 rw [gI,gI,List.getElem?_set_ne (fun q=>h q.symm)]
theorem Zai {p:Int}:∀(fs:List Int) (L:Led),Z6m L p fs=⟨L.vars++fs,L.own++List.replicate fs.length 0,L.par++List.replicate fs.length p,L.con++List.replicate fs.length (-1),
  L.fst++List.replicate fs.length (-1),L.tok++List.replicate fs.length (-1)⟩
 | [],L=>by simp [Z6m]
 | t::r,L=>by rw [Z6m,Zai r];simp [Led.grow,List.replicate_succ]
theorem Z02m {ds:List Decl} {L:Led} {q x c:Int} (hk:LOk ds L q) (hq:0≤q) (hx:0≤x∧x<L.vars.length):LOk ds (armL ds L x c) q∧(armL ds L x c).vars=L.vars++Z1 ds c:=by
 obtain ⟨f1,f2,f3,f4,f5⟩:=hk.len
 rw [armL,Zai]
 refine ⟨⟨⟨by simp [f1],by simp [f2],by simp [f3],by simp [f4],by simp [f5]⟩,?_,?_,?_,?_⟩,rfl⟩
 ·intro j hj hl
  simp only [List.length_append] at hl ⊢
  by_cases hlt:j<L.vars.length
  ·rw [Z5r om];exact hk.down j hj hlt
  ·rw [Zr0 om];omega
 ·intro y hy hl
  simp only [List.length_append] at hl ⊢
  by_cases hlt:y<L.vars.length
  ·rw [Z5r (by simp;omega),Z5r (by simp;omega)]
   by_cases he:y.toNat=x.toNat
   ·rw [Z5j he om,Z5j he om]
    intro _
    exact ⟨by omega,by simp⟩
   ·rw [Z4u he,Z4u he]
    intro hc
    have:=hk.arm y hy hlt hc
    exact ⟨this.1,by omega⟩
  ·rw [Zr0 (by simp;omega)];omega
 ·intro y hy
  simp only [List.mem_append,List.mem_replicate] at hy
  rcases hy with hy|⟨_,rfl⟩
  ·exact hk.nn y hy
  ·exact Int.le_refl 0
 ·intro y hy
  simp only [List.mem_append,List.mem_replicate] at hy
  rcases hy with hy|⟨_,rfl⟩
  ·exact hk.bd y hy
  ·exact hq
theorem Ze6 {n:Normal} {L:Led} {q:Int} {s:Step} {i:Nat} {m:List Int} (hk:LOk n.decls L q) (hq:0≤q) (hf:SFacts n L.vars s) (hop:s.op=7∨s.op=8) (hm:(Zq n.decls s.op s.num)[i]? = some m) :
  LOk n.decls (kidL n.decls L s.op s.num s.args i) q∧(kidL n.decls L s.op s.num s.args i).vars=L.vars++m:=by
 rw [kidL]
 split
 ·rename_i h8
  obtain ⟨a,ha⟩:=hf.one om
  have hb:=hf.args a (by rw [ha];simp)
  have hg:gI s.args 0=a:=by rw [ha];rfl
  rw [Zq,if_neg om,List.getElem?_map] at hm
  cases hc:(Zb n.decls s.num)[i]? with
  | none=>rw [hc] at hm;cases hm
  | some c=>
   rw [hc] at hm
   cases hm
   have hgc:gI (Zb n.decls s.num) (i:Int)=c:=by rw [gI];simp [hc]
   rw [hg,hgc]
   exact Z02m hk hq hb
 ·rename_i h8
  rw [Zq,if_pos om] at hm
  have:m=[]:=by
   match i,hm with
   | 0,hm=>simpa using hm.symm
   | 1,hm=>simpa using hm.symm
   | i+2,hm=>simp at hm
  subst this
  exact ⟨hk,by simp⟩
theorem Zfa {n:Normal}:∀{l:List Step} {us vs:List Int},Z10 n l us=some vs→us.length≤vs.length
 | [],us,vs,h=>by rw [Z10] at h;cases h;exact Nat.le_refl _
 | s::r,us,vs,h=>by
  rw [Z10] at h
  split at h
  ·cases h
  ·have:=Zfa h
   split at this
   ·simp only [List.length_append,List.length_singleton] at this;omega
   ·exact this
theorem Zjc {n:Normal} {ln:List Int} {L L':Led} {op num into q:Int} {args:List Int} {ds:List Decl} (hk:LOk ds L q) (h:Z7r n ln L op num into args=some L'):LOk ds L' q∧L'.vars=L.vars:=by
 rw [Z7r] at h
 cases ht:Z3q n op num args 0 L with
 | none=>rw [ht] at h;cases h
 | some L1=>
  rw [ht] at h
  simp only at h
  obtain ⟨k1,k2,k3,k4,k5,k6⟩:=Z72 hk ht
  split at h
  ·rw [Z4z] at h
   split at h
   ·split at h
    ·cases h
    ·cases h
     exact ⟨k1.turn rfl rfl rfl rfl (by simp) rfl k1.nn k1.bd,k2⟩
   ·cases h;exact ⟨k1,k2⟩
  ·cases h
theorem Zvh {L L':Led} {m:Nat} (h:cutL L m=some L'):L'=L.take m∧Z30 (L.own.drop m) (L.tok.drop m)=true:=by
 rw [cutL] at h
 split at h
 ·rename_i hz;cases h;exact ⟨rfl,hz⟩
 ·cases h
theorem Zer {r:Option Led} {f:Led→Option Led} {L:Led} (h:Zu3 r f=some L):∃L1,r=some L1∧f L1=some L:=by
 cases r with
 | none=>cases h
 | some L1=>exact ⟨L1,rfl,h⟩
theorem Zhb (n:Normal) (hn:NOk n) (ln:List Int):∀m:Nat,
  (∀(s:Step) (L L':Led) (q:Int),s.sz≤m→LOk n.decls L q→0≤q→0≤Z7 n L.vars s→Z8w n ln L s=some L'→LOk n.decls L' (q+4*s.sz)∧L'.vars=Za6 n L.vars s) ∧
  (∀(b:Block) (L O:Led) (q:Int) (k:Nat),b.sz≤m→LOk n.decls L q→0≤q→0≤Zf n L.vars b→k≤L.vars.length→Z39 n ln L k b=some O →
   (O.own.length=k∧O.tok.length=k∧(∀x∈O.own,0≤x∧x≤q+4*b.sz))∧LLen O∧O.vars.length=k):=by
 intro m
 induction m with
 | zero=>exact ⟨fun s _ _ _ h=>by have:=s.sz_pos;omega,fun s _ _ _ _ h=>by have:=s.sz_pos;omega⟩
 | succ m ih=>
  have hs:∀(s:Step) (L L':Led) (q:Int),s.sz≤m+1→LOk n.decls L q→0≤q→0≤Z7 n L.vars s→Z8w n ln L s=some L'→LOk n.decls L' (q+4*s.sz)∧L'.vars=Za6 n L.vars s:=by
   intro s L L' q hsz hk hq hty h
   have hp:=s.sz_pos
   have hf:=Z7b hty
   obtain ⟨f1,f2,f3,f4,f5⟩:=hk.len
   rw [Zlo] at h
   unfold finL at h
   cases hpk:Zbp n ln L s.op s.num s.into s.args (Z6w n ln L s.op s.num s.args s.kids) with
   | none=>rw [hpk] at h;cases h
   | some L1=>
    rw [hpk] at h
    simp only at h
    have key:LOk n.decls L1 (q+4*s.sz)∧L1.vars=L.vars:=by
     rw [Zbp] at hpk
     split at hpk
     ·obtain ⟨d1,d2,d3,d4,d5,d6⟩:=Zgq hpk
      refine ⟨hk.turn d1 d2 d3 d4 (by rw [d5]) (by rw [d6,List.length_set]) ?_ ?_,d1⟩
      ·rw [d6];intro x hx
       rcases Z33 hx with hx|rfl
       ·exact hk.nn x hx
       ·have:=Z03c (v:=gI s.args 0) hk.nn;omega
      ·rw [d6];intro x hx
       rcases Z33 hx with hx|rfl
       ·have:=hk.bd x hx;omega
       ·have:=Z03b (v:=gI s.args 0) hk.bd hq;omega
     split at hpk
     ·exact ⟨(hk.take hpk).le om,(Z35 hpk).2.1⟩
     split at hpk
     ·rename_i hop
      obtain ⟨d1,d2,d3,d4,d5,Lt,ht,d6⟩:=Zed hpk
      have hkt:=hk.take ht
      have h3:=Z13 hn.decls (gI L.con (gI s.args 0))
      refine ⟨hk.turn d1 d2 d3 d4 d5 ?_ ?_ ?_,d1⟩
      ·rw [d6,Zk8,(Z35 ht).2.2.2.2.2.2,List.length_set]
      ·rw [d6];exact Zop _ _ _ hkt.nn
      ·rw [d6];intro x hx
       have:=Zoo _ _ _ q hq hkt.bd x hx;omega
     split at hpk
     ·rename_i hop
      split at hpk
      ·cases hpk
      ·cases hks:s.kids with
       | nil=>rw [hks,Z6w] at hpk;cases hpk
       | cons b bs=>
        rw [hks,Z6w] at hpk
        unfold Znj at hpk
        cases hb:Z39 n ln (kidL n.decls L s.op s.num s.args 0) L.vars.length b with
        | none=>rw [hb] at hpk;cases hpk
        | some one=>
         rw [hb] at hpk
         simp only at hpk
         split at hpk
         ·cases hpk
          obtain ⟨q1,q2,q3⟩:=hf.kids hop
          have hks0:s.kids[0]? = some b:=by rw [hks];rfl
          obtain ⟨a0,ha0⟩:=Z6 (xs:=Zq n.decls s.op s.num) (j:=0) om
          obtain ⟨k1,k2⟩:=Ze6 hk hq hf hop ha0
          have hbz:=Z9k hks0
          obtain ⟨⟨r1,r2,r3⟩,_⟩:=ih.2 b _ one q L.vars.length om k1 hq (by rw [k2];exact q3 0 b a0 hks0 ha0) (by rw [k2];simp) hb
          refine ⟨hk.turn rfl rfl rfl rfl (by simp only;omega) (by simp only;omega) (fun x hx=>(r3 x hx).1) (fun x hx=>?_),rfl⟩
          have:=(r3 x hx).2;omega
         ·cases hpk
     ·obtain ⟨k1,k2⟩:=Zjc hk hpk
      exact ⟨k1.le om,k2⟩
    split at h
    ·rename_i hd
     cases h
     refine ⟨key.1.grow om ?_,by rw [Za6,if_pos hd];simp [Led.grow,key.2]⟩
     split<;>omega
    ·rename_i hd
     cases h
     exact ⟨key.1,by rw [Za6,if_neg hd];exact key.2⟩
  refine ⟨hs,?_⟩
  intro b L O q k hsz hk hq hty hkl h
  have hsteps:∀(l:List Step) (L L':Led) (q:Int) (vs:List Int),ssz l≤m→LOk n.decls L q→0≤q→Z10 n l L.vars=some vs→Z3c n ln L l=some L'→LOk n.decls L' (q+4*ssz l)∧L'.vars=vs:=by
   intro l
   induction l with
   | nil=>intro L L' q vs _ hk _ h1 h2;rw [Z10] at h1;rw [Z3c] at h2;cases h1;cases h2;exact ⟨by simpa [ssz] using hk,rfl⟩
   | cons s r ihr=>
    intro L L' q vs hz hk hq h1 h2
    rw [ssz] at hz
    rw [Z3c] at h2
    obtain ⟨L1,e1,e2⟩:=Zer h2
    rw [Z10] at h1
    split at h1
    ·cases h1
    ·rename_i h0
     obtain ⟨k1,k2⟩:=hs s L L1 q om hk hq om e1
     obtain ⟨k3,k4⟩:=ihr L1 L' (q+4*s.sz) vs om k1 om (by rw [k2];exact h1) e2
     exact ⟨k3.le (by rw [ssz];omega),k4⟩
  have hbz:=b.sz_eq
  rw [Z4e] at h
  obtain ⟨L1,e1,e2⟩:=Zer h
  rw [Z91] at hty
  cases hv:Z10 n b.steps L.vars with
  | none=>rw [hv] at hty;simp at hty
  | some vs=>
   obtain ⟨k1,k2⟩:=hsteps b.steps L L1 q vs om hk hq hv e1
   have hlen:=Zfa hv
   rw [endL] at e2
   obtain ⟨L2,e3,e4⟩:=Zer e2
   have k3:LOk n.decls L2 (q+4*ssz b.steps)∧L2.vars=L1.vars:=by
    split at e3
    ·exact ⟨k1.take e3,(Z35 e3).2.1⟩
    ·cases e3;exact ⟨k1,rfl⟩
   obtain ⟨rfl,_⟩:=Zvh e4
   obtain ⟨g1,g2,g3,g4,g5⟩:=k3.1.len
   have hl2:L2.vars.length=vs.length:=by rw [k3.2,k2]
   refine ⟨⟨by simp [Led.take];omega,by simp [Led.take];omega,fun x hx=>?_⟩,⟨by simp [Led.take];omega,by simp [Led.take];omega,by simp [Led.take];omega,by simp [Led.take];omega,by simp [Led.take];omega⟩,by simp [Led.take];omega⟩
   have hx':x∈L2.own:=List.mem_of_mem_take hx
   have:=k3.1.nn x hx'
   have:=k3.1.bd x hx'
   omega
theorem Zlp {n:Normal} (hn:NOk n) {ln:List Int} {s:Step} {L L':Led} {q:Int} (hk:LOk n.decls L q) (hq:0≤q) (hty:0≤Z7 n L.vars s) (h:Z8w n ln L s=some L'):LOk n.decls L' (q+4*s.sz)∧L'.vars=Za6 n L.vars s:=
 (Zhb n hn ln s.sz).1 s L L' q (Nat.le_refl _) hk hq hty h
theorem Zm9 {n:Normal} (hn:NOk n) {ln:List Int} {b:Block} {L O:Led} {q:Int} {k:Nat} (hk:LOk n.decls L q) (hq:0≤q) (hty:0≤Zf n L.vars b) (hkl:k≤L.vars.length) (h:Z39 n ln L k b=some O) :
  O.own.length=k∧O.tok.length=k∧(∀x∈O.own,0≤x∧x≤q+4*b.sz):=
 ((Zhb n hn ln b.sz).2 b L O q k (Nat.le_refl _) hk hq hty hkl h).1
theorem Z80 {n:Normal} (hn:NOk n) {ln:List Int} {s:Step} {L L1:Led} {q:Int} (hk:LOk n.decls L q) (hq:0≤q) (hf:SFacts n L.vars s)
  (hpk:Zbp n ln L s.op s.num s.into s.args (Z6w n ln L s.op s.num s.args s.kids)=some L1):LOk n.decls L1 (q+4*s.sz)∧L1.vars=L.vars:=by
 have hp:=s.sz_pos
 obtain ⟨f1,f2,f3,f4,f5⟩:=hk.len
 rw [Zbp] at hpk
 split at hpk
 ·obtain ⟨d1,d2,d3,d4,d5,d6⟩:=Zgq hpk
  refine ⟨hk.turn d1 d2 d3 d4 (by rw [d5]) (by rw [d6,List.length_set]) ?_ ?_,d1⟩
  ·rw [d6];intro x hx
   rcases Z33 hx with hx|rfl
   ·exact hk.nn x hx
   ·have:=Z03c (v:=gI s.args 0) hk.nn;omega
  ·rw [d6];intro x hx
   rcases Z33 hx with hx|rfl
   ·have:=hk.bd x hx;omega
   ·have:=Z03b (v:=gI s.args 0) hk.bd hq;omega
 split at hpk
 ·exact ⟨(hk.take hpk).le om,(Z35 hpk).2.1⟩
 split at hpk
 ·rename_i hop
  obtain ⟨d1,d2,d3,d4,d5,Lt,ht,d6⟩:=Zed hpk
  have hkt:=hk.take ht
  have h3:=Z13 hn.decls (gI L.con (gI s.args 0))
  refine ⟨hk.turn d1 d2 d3 d4 d5 ?_ ?_ ?_,d1⟩
  ·rw [d6,Zk8,(Z35 ht).2.2.2.2.2.2,List.length_set]
  ·rw [d6];exact Zop _ _ _ hkt.nn
  ·rw [d6];intro x hx
   have:=Zoo _ _ _ q hq hkt.bd x hx;omega
 split at hpk
 ·rename_i hop
  split at hpk
  ·cases hpk
  ·cases hks:s.kids with
   | nil=>rw [hks,Z6w] at hpk;cases hpk
   | cons b bs=>
    rw [hks,Z6w] at hpk
    unfold Znj at hpk
    cases hb:Z39 n ln (kidL n.decls L s.op s.num s.args 0) L.vars.length b with
    | none=>rw [hb] at hpk;cases hpk
    | some one=>
     rw [hb] at hpk
     simp only at hpk
     split at hpk
     ·cases hpk
      obtain ⟨q1,q2,q3⟩:=hf.kids hop
      have hks0:s.kids[0]? = some b:=by rw [hks];rfl
      obtain ⟨a0,ha0⟩:=Z6 (xs:=Zq n.decls s.op s.num) (j:=0) om
      obtain ⟨k1,k2⟩:=Ze6 hk hq hf hop ha0
      have hbz:=Z9k hks0
      obtain ⟨r1,r2,r3⟩:=Zm9 hn k1 hq (by rw [k2];exact q3 0 b a0 hks0 ha0) (by rw [k2];simp) hb
      refine ⟨hk.turn rfl rfl rfl rfl (by simp only;omega) (by simp only;omega) (fun x hx=>(r3 x hx).1) (fun x hx=>?_),rfl⟩
      have:=(r3 x hx).2;omega
     ·cases hpk
 ·obtain ⟨k1,k2⟩:=Zjc hk hpk
  exact ⟨k1.le om,k2⟩
end Go.Abs
end
section
namespace Go.Abs
theorem Z02o {ds:List Decl} {op num:Int} {i:Nat} {m:List Int} (h8:op=8) (h:(Zq ds op num)[i]? = some m):∃c,(Zb ds num)[i]? = some c∧m=Z1 ds c:=by
 rw [Zq,if_neg om,List.getElem?_map] at h
 cases hc:(Zb ds num)[i]? with
 | none=>rw [hc] at h;cases h
 | some c=>rw [hc] at h;cases h;exact ⟨c,rfl,rfl⟩
theorem Z00i {ds:List Decl} {L:Led} {op num x c:Int} {args:List Int} {i:Nat} (h8:op=8) (hx:args[0]? = some x) (hc:(Zb ds num)[i]? = some c):kidL ds L op num args i=armL ds L x c:=by
 have h1:gI args 0=x:=by rw [gI];simp [hx]
 have h2:gI (Zb ds num) (i:Int)=c:=by rw [gI];simp [hc]
 rw [kidL,if_pos h8,h1,h2]
theorem Z03p {ds:List Decl} {L:Led} {op num:Int} {args:List Int} {i:Nat} (h8:¬op=8):kidL ds L op num args i=L:=by rw [kidL,if_neg h8]
theorem Z00j {n:Normal} {ln:List Int} {L:Led} {op num:Int} {args:List Int} {kids:List Block} {kb:Block} (h:kids[0]? = some kb) :
  Z6w n ln L op num args kids=Znj L (Z39 n ln (kidL n.decls L op num args 0) L.vars.length kb) fun one=>Ze7 n ln L op num args one (kids.drop 1) 1:=by
 cases kids with
 | nil=>simp at h
 | cons b bs=>simp at h;subst h;rw [Z6w];rfl
theorem Z8p {n:Normal} {ln:List Int} {L one:Led} {op num:Int} {args:List Int} {kids:List Block} {kb:Block} {k:Nat} (h:kids[k]? = some kb) :
  Ze7 n ln L op num args one (kids.drop k) k=Z017 one (Z39 n ln (kidL n.decls L op num args k) L.vars.length kb) (Ze7 n ln L op num args one (kids.drop (k+1)) (k+1)):=by
 rw [Z5 h,Ze7]
def Z7f (n:Normal) (ln:List Int) (L:Led) (s:Step):Option Led:=
 if s.op=8∧¬Z1m L ln (gI s.args 0)=true then none else Z6w n ln L s.op s.num s.args s.kids
theorem Zp0 {n:Normal} {ln:List Int} {L:Led} {s:Step} (h8:s.op=8) (ha:¬Z1m L ln (gI s.args 0)=true):Z7f n ln L s=none:=by rw [Z7f,if_pos ⟨h8,ha⟩]
theorem Zmb {n:Normal} {ln:List Int} {L:Led} {s:Step} {kb:Block} (h:¬(s.op=8∧¬Z1m L ln (gI s.args 0)=true)) (hk:s.kids[0]? = some kb) :
  Z7f n ln L s=Znj L (Z39 n ln (kidL n.decls L s.op s.num s.args 0) L.vars.length kb) fun one=>Ze7 n ln L s.op s.num s.args one (s.kids.drop 1) 1:=by
 rw [Z7f,if_neg h,Z00j hk]
theorem gI0 {xs:List Int} {x:Int} (h:xs[0]? = some x):gI xs 0=x:=by rw [gI];simp [h]
end Go.Abs
namespace Go.Abs
theorem LLen.grow {L:Led} {t o p:Int} (h:LLen L):LLen (L.grow t o p):=by
 obtain ⟨f1,f2,f3,f4,f5⟩:=h
 exact ⟨by simp [Led.grow,f1],by simp [Led.grow,f2],by simp [Led.grow,f3],by simp [Led.grow,f4],by simp [Led.grow,f5]⟩
theorem LLen.arm {L:Led} {i j:Nat} {c d:Int} (h:LLen L):LLen ⟨L.vars,L.own,L.par,L.con.set i c,L.fst.set j d,L.tok⟩:=by
 obtain ⟨f1,f2,f3,f4,f5⟩:=h
 exact ⟨f1,f2,by simp [f3],by simp [f4],f5⟩
end Go.Abs
namespace Go.Abs
theorem Zwr {n:Normal} (hn:NOk n) {ln:List Int} {L O:Led} {q:Int} {s:Step} {i:Nat} {kb:Block} {m:List Int} (hk:LOk n.decls L q) (hq:0≤q) (hf:SFacts n L.vars s) (hop:s.op=7∨s.op=8)
  (_:s.kids[i]? = some kb) (harm:(Zq n.decls s.op s.num)[i]? = some m) (hbt:0≤Zf n (L.vars++m) kb) (h:Z39 n ln (kidL n.decls L s.op s.num s.args i) L.vars.length kb=some O) :
  O.own.length=L.vars.length∧O.tok.length=L.vars.length:=by
 obtain ⟨k1,k2⟩:=Ze6 hk hq hf hop harm
 obtain ⟨r1,r2,_⟩:=Zm9 hn k1 hq (by rw [k2];exact hbt) (by rw [k2];simp) h
 exact ⟨r1,r2⟩
theorem Zny {one two:Led} {r:Bool} (h:¬(¬one.own=two.own∨¬one.tok=two.tok)):Z017 one (some two) r=r:=if_pos ⟨Classical.not_not.1 fun q=>h (.inl q),Classical.not_not.1 fun q=>h (.inr q)⟩
theorem Zrq {one two:Led} {r:Bool} (h:¬one.own=two.own∨¬one.tok=two.tok):Z017 one (some two) r=false:=if_neg fun q=>h.elim (fun z=>z q.1) fun z=>z q.2
theorem Znk {L one:Led} {f:Led→Bool} (h:f one=true):Znj L (some one) f=some ⟨L.vars,one.own,L.par,L.con,L.fst,one.tok⟩:=if_pos h
theorem Zd0 {L one:Led} {f:Led→Bool} (h:f one=false):Znj L (some one) f=none:=if_neg (by rw [h];simp)
end Go.Abs
namespace Go.Abs
section
variable {n:Normal} {ln:List Int} {L:Led} {s:Step}
abbrev Zbq (n:Normal) (ln:List Int) (L:Led) (s:Step):Option Led:=Zbp n ln L s.op s.num s.into s.args (Z6w n ln L s.op s.num s.args s.kids)
theorem Zxi {x:Int} (h:s.op=14) (hx:gI s.args 0=x):Zbq n ln L s=dupL L ln x:=hx▸if_pos h
theorem Zxj {x:Int} (h:s.op=15) (hx:gI s.args 0=x):Zbq n ln L s=Z7q L x:=by rw [←hx,Zbq,Zbp,if_neg om,if_pos h]
theorem Zxk {x:Int} (h:s.op=16∨s.op=17) (hx:gI s.args 0=x):Zbq n ln L s=Zax n.decls L s.op x:=by rw [←hx,Zbq,Zbp,if_neg om,if_neg om,if_pos h]
theorem Z00y (h:s.op=7∨s.op=8):Zbq n ln L s=Z7f n ln L s:=by rw [Zbq,Zbp,if_neg om,if_neg om,if_neg om,if_pos h,Z7f]
theorem Z066 (h1:¬s.op=14) (h2:¬s.op=15) (h3:¬(s.op=16∨s.op=17)) (h4:¬(s.op=7∨s.op=8)):Zbq n ln L s=Z7r n ln L s.op s.num s.into s.args:=by
 rw [Zbq,Zbp,if_neg h1,if_neg h2,if_neg h3,if_neg h4]
theorem Z05r {v:Int} (h:¬Z1m L ln v=true):dupL L ln v=none:=if_neg h
theorem Z034 {v x:Int} (h:¬¬Z1m L ln v=true) (hx:gI L.own v=x):dupL L ln v=some ⟨L.vars,L.own.set v.toNat (x+1),L.par,L.con,L.fst,L.tok⟩:=by rw [dupL,if_pos (Classical.not_not.1 h),hx]
theorem Z1u (n:Normal) (ln:List Int) (L:Led) (s:Step):Z8w n ln L s=finL L s.op (Z7 n L.vars s) (Zbq n ln L s):=Zlo n ln L s
theorem fin1 {X:Led} {op t:Int} (h:Zx op=true∧t≠0):finL L op t (some X)=some (X.grow t 1 (-1)):=by
 unfold finL;simp only [h.1,↓reduceIte];rw [if_pos h.2]
theorem fin2 {X:Led} {op t:Int} (h:¬(Zx op=true∧t≠0)) (h2:Zx op=true):finL L op t (some X)=some (X.grow 0 0 (-1)):=by
 have ht:t=0:=Classical.not_not.1 fun q=>h ⟨h2,q⟩
 subst ht
 unfold finL;simp only [h2,↓reduceIte];rfl
theorem fin3 {X:Led} {op t:Int} (h:¬Zx op=true):finL L op t (some X)=some X:=by
 unfold finL;simp only [if_neg h]
end
end Go.Abs
namespace Go.Abs
theorem Z7e {n:Normal} {us:List Int} {b:Block} (h:0≤Zf n us b):∃vs t,Z10 n b.steps us=some vs∧atI vs b.result=some t∧0≤t:=by
 rw [Z91] at h
 cases hv:Z10 n b.steps us with
 | none=>rw [hv] at h;simp at h
 | some vs=>
  rw [hv] at h
  simp only at h
  cases ha:atI vs b.result with
  | none=>rw [ha] at h;simp at h
  | some t=>rw [ha] at h;exact ⟨vs,t,rfl,ha,h⟩
theorem Z8x {n:Normal} {us vs:List Int} {s:Step} {r:List Step} (h:Z10 n (s::r) us=some vs):0≤Z7 n us s∧Z10 n r (Za6 n us s)=some vs:=by
 rw [Z10] at h
 split at h
 ·cases h
 ·exact ⟨by omega,h⟩
theorem Za7 (n:Normal) (us:List Int) (s:Step):us.length≤(Za6 n us s).length∧(Za6 n us s).length≤us.length+s.sz:=by
 have:=s.sz_pos
 rw [Za6];split
 ·simp only [List.length_append,List.length_singleton];omega
 ·omega
end Go.Abs
namespace Go.Abs
theorem Z036 {X L:Led} {m:Nat} {r x:Int} (hg:gI L.vars r=x) (h:x≠0) (ht:Z7q L r=some X):endL m r L=cutL X m:=by rw [endL,hg,if_pos h,ht];rfl
theorem Zzx {L:Led} {m:Nat} {r x:Int} (hg:gI L.vars r=x) (h:x≠0) (ht:Z7q L r=none):endL m r L=none:=by rw [endL,hg,if_pos h,ht];rfl
theorem Zmq {L:Led} {m:Nat} {r x:Int} (hg:gI L.vars r=x) (h:¬x≠0):endL m r L=cutL L m:=by rw [endL,hg,if_neg h];rfl
end Go.Abs
namespace Go.Abs
theorem Zjq {ds:List Decl} {lent:List Int}:∀{ps:List Int} {i:Nat} {L:Led},LOk ds L 1→LOk ds (Z5o lent ps i L) 1∧(Z5o lent ps i L).vars=L.vars++ps
 | [],i,L,hk=>⟨hk,by simp [Z5o]⟩
 | t::r,i,L,hk=>by
  rw [Z5o]
  obtain ⟨k1,k2⟩:=Zjq (lent:=lent) (ps:=r) (i:=i+1) (hk.grow (t:=t) (o:=if t≠0∧¬(i:Int)∈lent then 1 else 0) (p:=-1) om (by split<;>omega))
  exact ⟨k1,by rw [k2];simp [Led.grow]⟩
theorem Zx9 (ds:List Decl) (r:Routine):LOk ds (newL r) 1∧(newL r).vars=r.params:=by
 have h:LOk ds (⟨[],[],[],[],[],[]⟩:Led) 1:=⟨⟨rfl,rfl,rfl,rfl,rfl⟩,fun j h1 h2=>by simp at h2;omega,fun j h1 h2=>by simp at h2;omega,by simp,by simp⟩
 obtain ⟨k1,k2⟩:=Zjq (lent:=r.lent) (ps:=r.params) (i:=0) h
 exact ⟨k1,by rw [newL,k2];rfl⟩
theorem cut0 {L:Led} (h:cutL L 0=none):(cutL L 0).isSome=false:=by rw [h];rfl
theorem cut1 {L L':Led} (h:cutL L 0=some L'):(cutL L 0).isSome=true:=by rw [h];rfl
theorem Zse {n:Normal} (hn:NOk n) {ln:List Int} {b:Block} {L O:Led} {q:Int} {k:Nat} (hk:LOk n.decls L q) (hq:0≤q) (hty:0≤Zf n L.vars b) (hkl:k≤L.vars.length) (h:Z39 n ln L k b=some O) :
  LLen O∧O.vars.length=k:=
 ((Zhb n hn ln b.sz).2 b L O q k (Nat.le_refl _) hk hq hty hkl h).2
end Go.Abs
namespace Go.Abs
theorem Zb9 {n:Normal}:∀{l:List Routine},Z34 n l=true→∀r∈l,¬Z2r r.body<0∧Zf n r.params r.body=r.result
 | [],_,r,h=>by simp at h
 | a::l,h,r,hr=>by
  rw [Z34] at h
  split at h
  ·rename_i h1
   rcases List.mem_cons.1 hr with rfl|hr
   ·exact h1
   ·exact Zb9 h r hr
  ·cases h
theorem Z4t {n:Normal} (hz:NSz n) (h:Z05 n=true):NOk n∧∀r∈n.routines,0≤Zf n r.params r.body:=by
 simp only [Z05,Bool.and_eq_true] at h
 refine ⟨Z9b hz h.1,fun r hr=>?_⟩
 rw [(Zb9 h.2 r hr).2]
 have h1:=h.1
 simp only [Z0e,Z2v,Bool.and_eq_true] at h1
 have:=Zbs h1.2.1.2.2.1 (Z5p r) (List.mem_map.2 ⟨r,hr,rfl⟩)
 simp only [Z9m,Bool.and_eq_true,decide_eq_true_eq,Z5p] at this
 exact (of_decide_eq_true this.2.2).1
end Go.Abs
end
section
namespace Go.Abs
theorem Zgt {xs:List Int} (h:Z8 xs=[]):xs=[]:=by cases xs with|nil=>rfl|cons x r=>cases h
theorem Zvo {xs:List Con} (h:Z37 xs=[]):xs=[]:=by cases xs with|nil=>rfl|cons x r=>cases h
theorem Zsn {xs:List Decl} (h:Z0i xs=[]):xs=[]:=by cases xs with|nil=>rfl|cons x r=>cases h
theorem Zsq {xs:List Step} (h:Zo xs=[]):xs=[]:=by cases xs with|nil=>rfl|cons x r=>rw [Zo] at h;cases h
def Zb6 (i:Int):List Int→Nat→Int
 | [],_=>-1
 | x::r,k=>if i=x then (k:Int) else Zb6 i r (k+1)
def Zn6 (xs:List Int) (i:Int):Int:=Zb6 i xs 0
theorem Zjg (i:Int):∀(xs:List Int) (k:Nat),(0≤Zb6 i xs k↔i∈xs)∧-1≤Zb6 i xs k
 | [],k=>by simp [Zb6]
 | x::r,k=>by
  rw [Zb6]
  obtain ⟨h1,h2⟩:=Zjg i r (k+1)
  split
  ·rename_i h;subst h;simp<;>omega
  ·rename_i h;simp [h1,h,h2]
theorem Zt4 (xs:List Int) (i:Int):decide (Zn6 xs i≥0)=decide (i∈xs):=by
 rw [decide_eq_decide];exact (Zjg i xs 0).1
end Go.Abs
namespace Go.Abs
theorem Zmw (xss:List (List Int)) (k:Nat):(xss.take k).flatten.length≤xss.flatten.length:=by
 conv=>rhs;rw [←List.take_append_drop k xss,List.flatten_append,List.length_append]
 omega
end Go.Abs
namespace Go.Abs
theorem Zgy {xss:List (List Int)} {k:Nat} {x:List Int} (h:xss[k]? = some x):(xss.take (k+1)).flatten=(xss.take k).flatten++x:=by rw [Z1l h,List.flatten_append];simp
theorem Zja {xss:List (List Int)} {k:Nat} {x:List Int} (h:xss[k]? = some x):(xss.take k).flatten.length+x.length≤xss.flatten.length:=by
 have:=Zmw xss (k+1)
 rw [Zgy h,List.length_append] at this
 exact this
end Go.Abs
end
section
namespace Go.Abs
theorem Zsj {c:Int} {ds:List Decl} {k:Nat} {d:Decl} {r:Int × List Int} (h:ds[k]? = some d) (hn:¬(c-Zs (ds.take k)≥0∧c-Zs (ds.take k)<d.cons.length))
  (hr:Z3s c (ds.drop k) k (Zs (ds.take k))=r):Z3s c (ds.drop (k+1)) (k+1) (Zs (ds.take (k+1)))=r:=by
 rw [Z5 h,Z3s,if_neg om] at hr
 rw [Z1l h,Z5f,←hr];rfl
end Go.Abs
namespace Go.Abs
theorem Zp4 {c:Int} {ds:List Decl} {k:Nat} {d:Decl} {x:Con} (h:ds[k]? = some d) (hn:c-Zs (ds.take k)≥0∧c-Zs (ds.take k)<d.cons.length)
  (hx:d.cons[(c-Zs (ds.take k)).toNat]? = some x):Z3s c (ds.drop k) k (Zs (ds.take k))=((k:Int)+1,x.fields):=by
 rw [Z5 h,Z3s,if_pos om,hx];rfl
def AtC (c:Int) (z:Nat) (v:Int):Prop:=v=c-z∨(c<0∧c-z < -9223372036854775808∧v=c-z+18446744073709551616)
theorem Z05b {c:Int} {z l:Nat} {v:Int} (h:AtC c z v) (hz:z≤100) (hl:l≤3) (hc:-9223372036854775808≤c∧c≤9223372036854775807):AtC c (z+l) (wrp (v-l)):=by
 unfold AtC at *;rw [wrp,IntKind.wrap_i64];omega
theorem Zp3 {c v:Int} {ds:List Decl} {k:Nat} {d:Decl} {r:Int × List Int} (h:ds[k]? = some d) (ha:AtC c (Zs (ds.take k)) v) (hn:¬(v≥0∧v<d.cons.length))
  (hr:Z3s c (ds.drop k) k (Zs (ds.take k))=r):Z3s c (ds.drop (k+1)) (k+1) (Zs (ds.take (k+1)))=r:=Zsj h (by unfold AtC at ha;omega) hr
theorem Zmg {c v:Int} {ds:List Decl} {k:Nat} {d:Decl} {x:Con} (h:ds[k]? = some d) (ha:AtC c (Zs (ds.take k)) v) (hz:Zs (ds.take k)≤100) (hl:d.cons.length≤3) (hc:-9223372036854775808≤c)
  (hn:v≥0∧v<d.cons.length) (hx:d.cons[v.toNat]? = some x):Z3s c (ds.drop k) k (Zs (ds.take k))=((k:Int)+1,x.fields):=by
 have:v=c-(Zs (ds.take k):Int):=by unfold AtC at ha;omega
 subst this
 exact Zp4 h hn hx
def Z27 (ds:List Decl) (t:Int):Decl:=if Z00 ds t=true then (ds[(t-1).toNat]?).getD ⟨0,0,[]⟩ else ⟨0,0,[]⟩
end Go.Abs
namespace Go.Abs
abbrev Zvk (ds:List Decl) (d:Decl):Prop:=
 (((¬(0≤d.frm∧d.frm≤ds.length))∨(¬(0≤d.to_∧d.to_≤ds.length)))∨((d.cons.length:Int)>3))∨(((d.cons.length:Int)>0)∧((d.frm≠0)∨(d.to_≠0)))
theorem Zp6 {ds:List Decl} {d:Decl} {i:Nat} (h:Zvk ds d):Z3j ds d i=false:=by
 rw [Z3j]
 split
 ·rw [if_neg];rintro ⟨h1,h2,h3⟩
  rcases h with ((h|h)|h)|h<;>omega
 ·split
  ·rfl
  ·rcases h with ((h|h)|h)|h
   ·rw [decide_eq_false h];rfl
   ·rw [decide_eq_false h,Bool.and_false]
   ·omega
   ·omega
theorem Zp7 {ds:List Decl} {d:Decl} {i:Nat} (hl:0<d.cons.length) (h:Z4a ds.length d.cons=false):Z3j ds d i=false:=by
 rw [Z3j,if_pos hl];split
 ·exact h
 ·rfl
theorem Zp8 {ds:List Decl} {d:Decl} {i:Nat} (hl:d.cons.length=0) (h:Zcc d (ds.take i)=true):Z3j ds d i=false:=by
 rw [Z3j,if_neg om,if_pos h]
theorem Zp9 {ds:List Decl} {d:Decl} {i:Nat} (h1:¬Zvk ds d) (h2:Z4a ds.length d.cons=true) (h3:d.cons.length=0→Zcc d (ds.take i)=false):Z3j ds d i=true:=by
 rw [Z3j]
 have ha:0≤d.frm∧d.frm≤ds.length:=Classical.not_not.1 fun q=>h1 (.inl (.inl (.inl q)))
 have hb:0≤d.to_∧d.to_≤ds.length:=Classical.not_not.1 fun q=>h1 (.inl (.inl (.inr q)))
 have hc:¬(d.cons.length:Int)>3:=fun q=>h1 (.inl (.inr q))
 split
 ·rename_i hl
  have hd:¬(d.frm≠0∨d.to_≠0):=fun q=>h1 (.inr ⟨by omega,q⟩)
  rw [if_pos ⟨by omega,by omega,by omega⟩];exact h2
 ·rw [if_neg (by rw [h3 om];simp),decide_eq_true ha,decide_eq_true hb];rfl
theorem Zi3 {ds:List Decl} {k:Nat} {d:Decl} (h:ds[k]? = some d) (hA:Z3j ds d k=false) (c:Z3t ds (ds.drop k) k=Z3t ds ds 0):false=Zw ds:=by
 rw [Zw,←c,Z5 h,Z3t,Z7g h,hA,if_neg (by simp),Bool.and_false]
theorem Z01p {ds:List Decl} {k:Nat} {d:Decl} {r:Bool} (h:ds[k]? = some d) (hA:Z3j ds d k=true) (c:Z3t ds (ds.drop k) k=r):Z3t ds (ds.drop (k+1)) (k+1)=r:=by
 rw [Z5 h,Z3t,Z7g h,hA,if_pos rfl] at c;exact c
theorem Zz4 {ds:List Decl} {k:Nat} (hl:ds.length≤4) (hk:ds.length≤k) (c:Z3t ds (ds.drop k) k=Z3t ds ds 0):true=Zw ds:=by
 rw [Zw,←c,Zt hk,decide_eq_true hl];rfl
theorem Zvd {m:Nat} {c:Con} (h:((c.fields.length:Int)>3)∨(¬(Z1p m c.fields=true))):Z9z m c=false:=by
 rw [Z9z]
 rcases h with h|h
 ·rw [decide_eq_false om];rfl
 ·rw [Bool.eq_false_iff.2 h,Bool.and_false]
theorem Zsk {m:Nat} {c:Con} (h:¬(((c.fields.length:Int)>3)∨(¬(Z1p m c.fields=true)))):Z9z m c=true:=by
 rw [Z9z,Classical.not_not.1 fun q=>h (.inr q),decide_eq_true (by have:¬(c.fields.length:Int)>3:=fun q=>h (.inl q);omega)];rfl
end Go.Abs
end
section
namespace Go.Abs
structure Sg3 where
 pms:List Int
 lnt:List Int
 res:Int
abbrev lSg3 (f:Sg3):List AV:=[nInt f.pms,nInt f.lnt,.i f.res]
abbrev aSg3 (f:Sg3):AV:=.agg (lSg3 f)
def Z6l (fs:List Sg3):List AV:=fs.map aSg3
abbrev nSg3 (xs:List Sg3):AV:=.sl (Z6l xs) none
abbrev oSg3 (xs:List Sg3) (v:Value):AV:=.sl (Z6l xs) (some v)
theorem Z7i {xs:List Sg3} {j:Nat} {x:Sg3} (h:xs[j]? = some x):(Z6l xs)[j]? = some (aSg3 x):=by simp [Z6l,h]
@[simp] theorem Z6f (xs:List Sg3):(Z6l xs).length=xs.length:=by simp [Z6l]
theorem Zmp (xs:List Sg3):∀y∈Z6l xs,y.leaves.length=3:=by intro y hy;simp only [Z6l,List.mem_map] at hy;obtain ⟨x,_,rfl⟩:=hy;rfl
theorem Zvs (xs:List Sg3):(flat (Z6l xs)).all AV.one=true:=Z70 fun y hy=>by simp only [Z6l,List.mem_map] at hy;obtain ⟨x,_,rfl⟩:=hy;rfl
def Z17 (r:Routine):Sg3:=⟨r.params,r.lent,r.result⟩
def Z8a (m:Nat) (f:Sg3):Bool:=Z9m m ⟨f.pms,f.res⟩&&Z3e f.pms f.lnt
def Z61 (m:Nat):List Sg3→Bool
 | []=>true
 | f::r=>if Z8a m f=true then Z61 m r else false
def Zko:List Sg3→Bool
 | []=>false
 | f::_=>decide (f.pms.length=0)&&decide (f.res=0)
def Z2u (ds:List Decl) (fs:List Sg3):Bool:=Zw ds&&(decide (1≤fs.length∧fs.length≤4)&&(Zko fs&&Z61 ds.length fs))
theorem Zj6 {fs:List Sg3} {x:Sg3} (h:fs[0]? = some x):Zko fs=(decide (x.pms.length=0)&&decide (x.res=0)):=by
 cases fs with
 | nil=>simp at h
 | cons f r=>simp at h;subst h;rfl
theorem Zo0 (m:Nat):∀rs:List Routine,Z61 m (rs.map Z17)=(Z6s m (rs.map Z5p)&&Z51 rs)
 | []=>rfl
 | r::rs=>by
  simp only [List.map_cons,Z61,Z6s,Z51,Z8a,Zo0 m rs]
  simp only [Z17,Z5p]
  by_cases h1:Z9m m { params:=r.params,result:=r.result }=true<;>by_cases h2:Z3e r.params r.lent=true<;>simp [h1,h2]
theorem Zhf (n:Normal):Z0e n=(decide (n.routines.length≤4)&&Z2u n.decls (n.routines.map Z17)):=by
 have hf:Zko (n.routines.map Z17)=Zfy (n.routines.map Z5p):=by
  cases n.routines with
  | nil=>rfl
  | cons r rs=>rfl
 rw [Z0e,Z2u,Z2v,Zo0,hf]
 simp only [List.length_map]
 cases decide (n.routines.length≤4)<;>cases Zw n.decls<;>cases decide (1≤n.routines.length∧n.routines.length≤4)<;>cases Z6s n.decls.length (n.routines.map Z5p) <;>
  cases Zfy (n.routines.map Z5p)<;>cases Z51 n.routines<;>rfl
theorem Zg7 {rs:List Routine} {j:Nat} {x:Sg3} (h:(rs.map Z17)[j]? = some x):∃r,rs[j]? = some r∧x=Z17 r:=by
 rw [List.getElem?_map] at h
 cases hr:rs[j]? with
 | none=>rw [hr] at h;cases h
 | some r=>rw [hr] at h;cases h;exact ⟨r,rfl,rfl⟩
theorem Zx1 {ps ls:List Int} {j:Nat} {v:Int} {r:Bool} (h:ls[j]? = some v) (hg:(0≤v∧v≤(ps.length:Int)-1)∧ps[v.toNat]?≠some 0∧(∀p,(if j=0 then none else ls[j-1]?)=some p→p<v))
  (hr:Z43 ps (ls.drop j) (if j=0 then none else ls[j-1]?)=r):Z43 ps (ls.drop (j+1)) (if j+1=0 then none else ls[j+1-1]?)=r:=by
 rw [Z5 h,Z9a hg] at hr
 rw [if_neg om,show j+1-1=j from rfl,h];exact hr
theorem Zl0 {ps ls:List Int} {j:Nat} {v:Int} {r:Bool} (h:ls[j]? = some v) (hg:¬((0≤v∧v≤(ps.length:Int)-1)∧ps[v.toNat]?≠some 0∧(∀p,(if j=0 then none else ls[j-1]?)=some p→p<v)))
  (hr:Z43 ps (ls.drop j) (if j=0 then none else ls[j-1]?)=r):r=false:=by
 rw [Z5 h,Z7z hg] at hr;exact hr.symm
theorem Zd8 {m:Nat} {fs:List Sg3} {k:Nat} {f:Sg3} {r:Bool} (h:fs[k]? = some f) (hb:Z8a m f=false) (hr:Z61 m (fs.drop k)=r):r=false:=by
 rw [Z5 h,Z61,hb,if_neg (by simp)] at hr;exact hr.symm
theorem Z01a {m:Nat} {fs:List Sg3} {k:Nat} {f:Sg3} {r:Bool} (h:fs[k]? = some f) (hb:Z8a m f=true) (hr:Z61 m (fs.drop k)=r):Z61 m (fs.drop (k+1))=r:=by
 rw [Z5 h,Z61,if_pos hb] at hr;exact hr
end Go.Abs
namespace Go.Abs
section
variable {ds:List Decl} {fs:List Sg3} {x:Sg3}
theorem Z04z (h:((¬(Zw ds=true))∨((fs.length:Int)<1))∨((fs.length:Int)>4)):false=Z2u ds fs:=by
 rw [Z2u]
 rcases h with (h|h)|h
 ·rw [Bool.eq_false_iff.2 h];rfl
 ·rw [decide_eq_false (p:=1≤fs.length∧fs.length≤4) om];simp
 ·rw [decide_eq_false (p:=1≤fs.length∧fs.length≤4) om];simp
theorem Zz5 (hx:fs[0]? = some x) (h:((x.pms.length:Int)>0)∨x.res≠0):false=Z2u ds fs:=by
 rw [Z2u,Zj6 hx]
 rcases h with h|h
 ·rw [decide_eq_false (p:=x.pms.length=0) om];simp
 ·rw [decide_eq_false (p:=x.res=0) h];simp
theorem Zlu (h:Z61 ds.length fs=false):false=Z2u ds fs:=by rw [Z2u,h];simp
theorem Z050 (h:¬(((¬(Zw ds=true))∨((fs.length:Int)<1))∨((fs.length:Int)>4))) (hx:fs[0]? = some x) (h1:¬((x.pms.length:Int)>0)) (h2:¬x.res≠0) (h3:Z61 ds.length fs=true) :
  true=Z2u ds fs:=by
 have hv:Zw ds=true:=Classical.not_not.1 fun q=>h (.inl (.inl q))
 have ha:¬(fs.length:Int)<1:=fun q=>h (.inl (.inr q))
 have hb:¬(fs.length:Int)>4:=fun q=>h (.inr q)
 rw [Z2u,Zj6 hx,hv,h3,decide_eq_true (p:=1≤fs.length∧fs.length≤4) om,decide_eq_true (p:=x.pms.length=0) om,decide_eq_true (p:=x.res=0) (Classical.not_not.1 h2)];rfl
abbrev Z02a (m:Nat) (x:Sg3):Prop:=(((x.pms.length:Int)>3)∨(¬(Z1p m x.pms=true)))∨(¬(0≤x.res∧x.res≤m))
theorem Z04c {m:Nat} (h:Z02a m x):Z8a m x=false:=by
 rw [Z8a,Z9m]
 rcases h with (h|h)|h
 ·rw [decide_eq_false (p:=x.pms.length≤3) om];simp
 ·rw [Bool.eq_false_iff.2 h];simp
 ·rw [decide_eq_false h];simp
theorem Zpy {m:Nat} (h:Z3e x.pms x.lnt=false):Z8a m x=false:=by rw [Z8a,h,Bool.and_false]
theorem Z04d {m:Nat} (h:¬Z02a m x) (hl:Z3e x.pms x.lnt=true):Z8a m x=true:=by
 have h1:¬(x.pms.length:Int)>3:=fun q=>h (.inl (.inl q))
 rw [Z8a,Z9m,hl,decide_eq_true (p:=x.pms.length≤3) om,Classical.not_not.1 fun q=>h (.inl (.inr q)),decide_eq_true (Classical.not_not.1 fun q=>h (.inr q))];rfl
end
end Go.Abs
namespace Go.Abs
abbrev sq1 (n:Normal):AV:=nSg3 (n.routines.map Z17)
end Go.Abs
end
section
namespace Go.Abs
def Z21 (us:List Int):List Int→Option (List Int)
 | []=>some []
 | a::r=>match atI us a with
  | none=>none
  | some t=>match Z21 us r with
   | none=>none
   | some ts=>some (t::ts)
theorem Zi2 {us:List Int}:∀{args ts:List Int},Z21 us args=some ts→∀tys,Z1r us args tys=true↔ts=tys
 | [],ts,h,tys=>by
  rw [Z21] at h;cases h
  cases tys with
  | nil=>simp [Z1r,Z25]
  | cons t r=>simp [Z1r,Z25]
 | a::r,ts,h,tys=>by
  rw [Z21] at h
  cases ha:atI us a with
  | none=>rw [ha] at h;cases h
  | some t=>
   rw [ha] at h
   cases hr:Z21 us r with
   | none=>rw [hr] at h;cases h
   | some tr=>
    rw [hr] at h;cases h
    cases tys with
    | nil=>simp [Z1r,Z25]
    | cons t2 r2=>
     rw [Z1r,Z25,ha]
     have:=Zi2 hr r2
     rw [Z1r] at this
     by_cases he:t=t2
     ·subst he;simp [this]
     ·rw [if_neg (fun q=>he (Option.some.inj q))];simp [he]
theorem Zix {us:List Int}:∀{args ts:List Int},Z21 us args=some ts→ts.length=args.length
 | [],ts,h=>by rw [Z21] at h;cases h;rfl
 | a::r,ts,h=>by
  rw [Z21] at h
  cases ha:atI us a with
  | none=>rw [ha] at h;cases h
  | some t=>
   rw [ha] at h
   cases hr:Z21 us r with
   | none=>rw [hr] at h;cases h
   | some tr=>rw [hr] at h;cases h;simp [Zix hr]
theorem Zgl {us:List Int} {b t:Int}:∀{xs ts:List Int},Z21 us xs=some ts→atI us b=some t→Z21 us (xs++[b])=some (ts++[t])
 | [],ts,h,hb=>by rw [Z21] at h;cases h;simp [Z21,hb]
 | a::r,ts,h,hb=>by
  rw [Z21] at h
  cases ha:atI us a with
  | none=>rw [ha] at h;cases h
  | some u=>
   rw [ha] at h
   cases hr:Z21 us r with
   | none=>rw [hr] at h;cases h
   | some tr=>
    rw [hr] at h;cases h
    rw [List.cons_append,Z21,ha,Zgl hr hb];rfl
def Zm3 (n:Normal) (num:Int):List Int→Option Int
 | [a,b]=>if Z00 n.decls a=true∧b=(Z27 n.decls a).frm∧num=0 then some (Z27 n.decls a).to_ else none
 | _=>none
def Z0t (n:Normal) (op num:Int) (ts:List Int):Option Int:=
 if op=0 then (if (-999≤num∧num≤999)∧ts.length=0 then some 0 else none)
 else if op=1∨op=2∨op=3∨op=4 then (if num=0∧ts=[0,0] then some 0 else none)
 else if op=5 then (if num=0∧ts=[0] then some 0 else none)
 else if op=11 then Zm3 n num ts
 else if op=6 then (if 0≤Z08 n.decls num∧ts=Z1 n.decls num then some (Z08 n.decls num) else none)
 else if op=9 then (match atI n.routines num with
  | none=>none
  | some r=>if ts=r.params then some r.result else none)
 else if op=10 then (match atI n.routines num with
  | none=>none
  | some r=>if r.params.length≠0∧0≤Z45 n.decls r.params r.result∧ts=r.params.take (r.params.length-1) then some (Z45 n.decls r.params r.result) else none)
 else none
theorem Zad {n:Normal} {num:Int} {ts:List Int} (h:ts.length≠2):Zm3 n num ts=none:=by
 match ts,h with
 | [],_=>rfl
 | [_],_=>rfl
 | [_,_],h=>simp at h
 | _::_::_::_,_=>rfl
structure NTy (n:Normal):Prop where
 result:∀r∈n.routines,0≤r.result
 params:∀r∈n.routines,∀p∈r.params,0≤p
 decl:∀d∈n.decls,d.cons.length=0→0≤d.frm∧0≤d.to_
 fields:∀c,∀f∈Z1 n.decls c,0≤f
abbrev Zwm (us:List Int) (s:Step):Prop:=s.into≠0∧(((s.op≠6∨s.into<1)∨s.into>us.length)∨gI us (s.into-1)=0)
theorem Z03o {us:List Int} {op into:Int} (hnn:∀t∈us,0≤t) (h:¬(into≠0∧(((op≠6∨into<1)∨into>us.length)∨gI us (into-1)=0))):Z15 us op into=true:=by
 rw [Z15]
 split
 ·rfl
 ·rename_i h0
  have h1:¬(((op≠6∨into<1)∨into>us.length)∨gI us (into-1)=0):=fun q=>h ⟨h0,q⟩
  have h2:op=6:=Classical.not_not.1 fun q=>h1 (.inl (.inl (.inl q)))
  have h3:¬into<1:=fun q=>h1 (.inl (.inl (.inr q)))
  have h4:¬into>us.length:=fun q=>h1 (.inl (.inr q))
  have h5:¬gI us (into-1)=0:=fun q=>h1 (.inr q)
  obtain ⟨t,ht⟩:=Z6 (xs:=us) (j:=(into-1).toNat) om
  rw [if_pos h2,Z6v om ht]
  rw [Z5a ht] at h5
  have:=hnn t (List.mem_of_getElem? ht)
  simp;omega
theorem Z00f {us:List Int} {op into:Int} (h:into≠0∧(((op≠6∨into<1)∨into>us.length)∨gI us (into-1)=0)):Z15 us op into=false:=by
 obtain ⟨h0,h⟩:=h
 rw [Z15,if_neg h0]
 split
 ·rename_i h6
  cases ha:atI us (into-1) with
  | none=>rfl
  | some t=>
   obtain ⟨a1,a2⟩:=Z4y ha
   rcases h with ((h|h)|h)|h
   ·exact absurd h6 h
   ·omega
   ·omega
   ·rw [Z5a a2] at h;subst h;rfl
 ·rfl
theorem Zlq {n:Normal} {us:List Int} {s:Step} (h:Zwm us s):Z7 n us s=-1:=by
 rw [Z3z,if_pos (.inr (.inl (by rw [Z00f h];simp)))]
end Go.Abs
namespace Go.Abs
theorem Zwo {α:Type} {c:Prop} [Decidable c] {v:α}:(if c then some v else none).isSome=decide c:=by split<;>simp_all
theorem Zyf {n:Normal} (hty:NTy n) {op num:Int} {ts:List Int} {x:Int} (h:Z0t n op num ts=some x):0≤x:=by
 unfold Z0t at h
 split at h
 ·split at h<;>cases h;exact Int.le_refl 0
 split at h
 ·split at h<;>cases h;exact Int.le_refl 0
 split at h
 ·split at h<;>cases h;exact Int.le_refl 0
 split at h
 ·rcases ts with _|⟨a,_|⟨b,_|⟨c,r⟩⟩⟩
  ·cases h
  ·cases h
  ·rw [Zm3] at h
   split at h
   ·rename_i hq
    cases h
    rw [Z27,if_pos hq.1]
    have hA:=hq.1
    simp only [Z00,Bool.and_eq_true,decide_eq_true_eq] at hA
    cases hd:n.decls[(a-1).toNat]? with
    | none=>rw [hd] at hA;simp at hA
    | some d=>
     rw [hd] at hA
     exact (hty.decl d (List.mem_of_getElem? hd) (by simpa using hA.2)).2
   ·cases h
  ·cases h
 split at h
 ·split at h
  ·rename_i hq;cases h;exact hq.1
  ·cases h
 split at h
 ·cases ha:atI n.routines num with
  | none=>rw [ha] at h;cases h
  | some r=>
   rw [ha] at h
   simp only at h
   split at h
   ·cases h;exact hty.result r (List.mem_of_getElem? (Z4y ha).2)
   ·cases h
 split at h
 ·cases ha:atI n.routines num with
  | none=>rw [ha] at h;cases h
  | some r=>
   rw [ha] at h
   simp only at h
   split at h
   ·rename_i hq;cases h;exact hq.2.1
   ·cases h
 ·cases h
def Zfq (n:Normal) (us:List Int) (s:Step) (ts:List Int):Int:=
 if Z0q s.op=true then (match ts with
  | [t]=>if t≠0∧s.num=0∧s.kids.length=0∧¬((s.op=16∨s.op=17)∧Z00 n.decls t=true) then 0 else -1
  | _=>-1)
 else if s.op=7 then (if ts=[0]∧s.num=0 then Z3o n us s.op s.num s.kids else -1)
 else if s.op=8 then (if ts=[s.num] then Z3o n us s.op s.num s.kids else -1)
 else if 0<s.kids.length∨(s.op=10∧0<(((atI n.routines s.num).map (·.lent)).getD []).length) then -1
 else (Z0t n s.op s.num ts).getD (-1)
theorem Zwp {p q:Prop} [Decidable p] [Decidable q] {a b:Int} (h:p↔q):ite p a b=ite q a b:=by
 by_cases hp:p
 ·rw [if_pos hp,if_pos (h.1 hp)]
 ·rw [if_neg hp,if_neg (fun z=>hp (h.2 z))]
theorem Z6j {n:Normal} {us:List Int} {s:Step} {ts:List Int} (hnn:∀t∈us,0≤t) (hts:Z21 us s.args=some ts) (hi:¬Zwm us s):Z7 n us s=Zfq n us s ts:=by
 have hv:=Z03o hnn hi
 have ht:=Zi2 hts
 have hl:=Zix hts
 have hfirst:((s.num≠0∧¬Z20 s.op=true)∨¬Z15 us s.op s.into=true∨(0<s.kids.length∧s.op≠7∧s.op≠8))↔((s.num≠0∧¬Z20 s.op=true)∨(0<s.kids.length∧s.op≠7∧s.op≠8)):=by
  rw [hv];simp
 rw [Z3z,Zwp hfirst]
 unfold Zfq
 by_cases hc:Z0q s.op=true
 ·have hop:14≤s.op∧s.op≤17:=by simpa [Z0q] using hc
  have hnum:Z20 s.op=false:=by simp [Z20];omega
  rw [if_pos hc]
  by_cases hb:s.num≠0∨0<s.kids.length
  ·rw [if_pos (by rcases hb with hb|hb;exact .inl ⟨hb,by rw [hnum];simp⟩;exact .inr ⟨hb,by omega,by omega⟩)]
   split
   ·rw [if_neg];rintro ⟨h1,h2,h3,h4⟩;omega
   ·rfl
  ·rw [if_neg (by rintro (⟨h1,_⟩|⟨h1,_⟩)<;>exact hb (by first|exact .inl h1|exact .inr h1)),if_neg om,if_neg om,if_neg om,if_neg om,if_neg om,if_neg om,if_neg om,if_neg om,if_pos om]
   have hb1:s.num=0:=Classical.not_not.1 fun q=>hb (.inl q)
   have hb2:s.kids.length=0:=by have:¬0<s.kids.length:=fun q=>hb (.inr q);omega
   rcases he:s.args with _|⟨a,_|⟨b,r⟩⟩
   ·rw [he] at hts;rw [Z21] at hts;cases hts;rfl
   ·rw [he] at hts
    rw [Z21] at hts
    cases ha:atI us a with
    | none=>rw [ha] at hts;cases hts
    | some t=>
     rw [ha,Z21] at hts;cases hts
     rw [Z1z,ha]
     simp only
     by_cases ht0:t=0
     ·rw [if_pos ht0,if_neg (fun q=>q.1 ht0)]
     ·rw [if_neg ht0]
      by_cases hA:Z00 n.decls t=true
      ·by_cases h16:s.op=16∨s.op=17
       ·rw [if_pos ⟨by omega,hA⟩,if_neg (fun q=>q.2.2.2 ⟨h16,hA⟩)]
       ·rw [if_neg (by rintro ⟨q,_⟩;omega),if_pos ⟨ht0,hb1,hb2,fun q=>h16 q.1⟩]
      ·rw [if_neg (fun q=>hA q.2),if_pos ⟨ht0,hb1,hb2,fun q=>hA q.2⟩]
   ·rw [he] at hl
    rw [show Z1z n.decls us s.op (a::b::r)=-1 from rfl]
    match ts,hl with
    | [t],hl=>simp at hl
    | [],hl=>simp at hl
    | _::_::_,_=>rfl
 have hop:¬(14≤s.op∧s.op≤17):=by simpa [Z0q] using hc
 by_cases h7:s.op=7
 ·have hnum:Z20 s.op=false:=by simp [Z20];omega
  conv=>rhs;rw [if_neg hc,if_pos h7]
  by_cases hb:s.num=0
  ·rw [if_neg (fun q=>q.elim (fun z=>z.1 hb) fun z=>z.2.1 h7),if_neg om,if_neg om,if_neg om,if_neg om,if_pos h7]
   by_cases hq:ts=[0]
   ·rw [if_pos ((ht _).2 hq),if_pos ⟨hq,hb⟩]
   ·rw [if_neg (fun q=>hq ((ht _).1 q)),if_neg (fun q=>hq q.1)]
  ·rw [if_pos (.inl ⟨hb,by rw [hnum];simp⟩),if_neg (fun q=>hb q.2)]
 by_cases h8:s.op=8
 ·have hnum:Z20 s.op=true:=by simp [Z20,h8]
  conv=>rhs;rw [if_neg hc,if_neg h7,if_pos h8]
  rw [if_neg (fun q=>q.elim (fun z=>z.2 hnum) fun z=>z.2.2 h8),if_neg om,if_neg om,if_neg om,if_neg om,if_neg h7,if_pos h8]
  by_cases hq:ts=[s.num]
  ·rw [if_pos ((ht _).2 hq),if_pos hq]
  ·rw [if_neg (fun q=>hq ((ht _).1 q)),if_neg hq]
 conv=>rhs;rw [if_neg hc,if_neg h7,if_neg h8]
 by_cases hk:0<s.kids.length
 ·rw [if_pos (.inr ⟨hk,h7,h8⟩),if_pos (.inl hk)]
 by_cases hlent:s.op=10∧0<(((atI n.routines s.num).map (·.lent)).getD []).length
 ·conv=>rhs;rw [if_pos (.inr hlent)]
  have hnum:Z20 s.op=true:=by simp [Z20,hlent.1]
  have h10:=hlent.1
  rw [if_neg (fun q=>q.elim (fun z=>z.2 hnum) fun z=>hk z.1),if_neg om,if_neg om,if_neg om,if_neg om,if_neg h7,if_neg h8,if_pos (.inr h10),Z2l]
  cases ha:atI n.routines s.num with
  | none=>rfl
  | some r=>
   have h2:=hlent.2
   rw [ha] at h2
   simp only [Option.map_some,Option.getD_some] at h2
   simp only
   rw [Z3d,if_neg om,if_pos (.inr (.inl h2))]
 conv=>rhs;rw [if_neg (fun q=>Or.elim q hk hlent)]
 have sf:∀{X:Option Int},Z0t n s.op s.num ts=X→Z7 n us s=X.getD (-1)→Z7 n us s=(Z0t n s.op s.num ts).getD (-1):=fun a b=>by rw [a];exact b
 have hL:=Z3z n us s
 rw [Zwp hfirst] at hL
 rw [←hL]
 by_cases hnb:s.num≠0∧¬Z20 s.op=true
 ·have hnn2:¬(s.op=0∨(s.op=6∨(s.op=8∨(s.op=9∨s.op=10)))):=fun q=>hnb.2 (by simpa [Z20] using q)
  refine sf (X:=none) ?_ (by rw [hL,if_pos (.inl hnb)];rfl)
  unfold Z0t
  rw [if_neg om]
  split
  ·rw [if_neg (fun q=>hnb.1 q.1)]
  split
  ·rw [if_neg (fun q=>hnb.1 q.1)]
  split
  ·by_cases hl2:ts.length=2
   ·match ts,hl2 with
    | [a,b],_=>exact if_neg fun q=>hnb.1 q.2.2
   ·exact Zad hl2
  rw [if_neg om,if_neg om,if_neg om]
 rw [if_neg (fun q=>q.elim hnb fun z=>hk z.1)] at hL
 have hnumf:¬(s.op=0∨(s.op=6∨(s.op=8∨(s.op=9∨s.op=10))))→s.num=0:=fun q=>Classical.not_not.1 fun z=>hnb ⟨z,fun y=>q (by simpa [Z20] using y)⟩
 by_cases h0:s.op=0
 ·rw [if_pos h0] at hL
  by_cases hq:s.args.length=0∧(-999≤s.num∧s.num≤999)
  ·exact sf (by unfold Z0t;rw [if_pos h0,if_pos ⟨hq.2,by omega⟩]) (by rw [hL,if_pos hq];rfl)
  ·exact sf (by unfold Z0t;rw [if_pos h0,if_neg (fun q=>hq ⟨by omega,q.1⟩)]) (by rw [hL,if_neg hq];rfl)
 rw [if_neg h0] at hL
 by_cases h1:s.op=1∨s.op=2∨s.op=3∨s.op=4
 ·rw [if_pos h1] at hL
  by_cases hq:ts=[0,0]
  ·exact sf (by unfold Z0t;rw [if_neg h0,if_pos h1,if_pos ⟨hnumf om,hq⟩]) (by rw [hL,if_pos ((ht _).2 hq)];rfl)
  ·exact sf (by unfold Z0t;rw [if_neg h0,if_pos h1,if_neg (fun q=>hq q.2)]) (by rw [hL,if_neg (fun q=>hq ((ht _).1 q))];rfl)
 rw [if_neg h1] at hL
 by_cases h5:s.op=5
 ·rw [if_pos h5] at hL
  by_cases hq:ts=[0]
  ·exact sf (by unfold Z0t;rw [if_neg h0,if_neg h1,if_pos h5,if_pos ⟨hnumf om,hq⟩]) (by rw [hL,if_pos ((ht _).2 hq)];rfl)
  ·exact sf (by unfold Z0t;rw [if_neg h0,if_neg h1,if_pos h5,if_neg (fun q=>hq q.2)]) (by rw [hL,if_neg (fun q=>hq ((ht _).1 q))];rfl)
 rw [if_neg h5] at hL
 by_cases h6:s.op=6
 ·rw [if_pos h6] at hL
  have hct:0<Z08 n.decls s.num↔0≤Z08 n.decls s.num:=by
   rcases Int.lt_or_le (Z08 n.decls s.num) 1 with q|q
   ·have:=(Z7v q).2;omega
   ·omega
  by_cases hq:0≤Z08 n.decls s.num∧ts=Z1 n.decls s.num
  ·exact sf (by unfold Z0t;rw [if_neg h0,if_neg h1,if_neg h5,if_neg om,if_pos h6,if_pos hq]) (by rw [hL,if_pos ⟨hct.2 hq.1,(ht _).2 hq.2⟩];rfl)
  ·exact sf (by unfold Z0t;rw [if_neg h0,if_neg h1,if_neg h5,if_neg om,if_pos h6,if_neg hq]) (by rw [hL,if_neg (fun q=>hq ⟨hct.1 q.1,(ht _).1 q.2⟩)];rfl)
 rw [if_neg h6,if_neg h7,if_neg h8] at hL
 by_cases h9:s.op=9
 ·rw [if_pos (.inl h9),Z2l] at hL
  cases ha:atI n.routines s.num with
  | none=>exact sf (by unfold Z0t;rw [if_neg h0,if_neg h1,if_neg h5,if_neg om,if_neg h6,if_pos h9,ha]) (by rw [hL,ha];rfl)
  | some r=>
   rw [ha] at hL
   simp only at hL
   rw [Z3d,if_pos h9] at hL
   have hF:∀{X:Option Int},(if ts=r.params then some r.result else none)=X→Z0t n s.op s.num ts=X:=fun q=>by
    unfold Z0t;rw [if_neg h0,if_neg h1,if_neg h5,if_neg om,if_neg h6,if_pos h9,ha];exact q
   by_cases hq:ts=r.params
   ·exact sf (hF (if_pos hq)) (by rw [hL,if_pos ((ht _).2 hq)];rfl)
   ·exact sf (hF (if_neg hq)) (by rw [hL,if_neg (fun q=>hq ((ht _).1 q))];rfl)
 by_cases h10:s.op=10
 ·rw [if_pos (.inr h10),Z2l] at hL
  cases ha:atI n.routines s.num with
  | none=>exact sf (by unfold Z0t;rw [if_neg h0,if_neg h1,if_neg h5,if_neg om,if_neg h6,if_neg h9,if_pos h10,ha]) (by rw [hL,ha];rfl)
  | some r=>
   rw [ha] at hL hlent
   simp only [Option.map_some,Option.getD_some] at hL hlent
   rw [Z3d,if_neg h9] at hL
   have hF:∀{X:Option Int},(if r.params.length≠0∧0≤Z45 n.decls r.params r.result∧ts=r.params.take (r.params.length-1) then some (Z45 n.decls r.params r.result) else none)=X→Z0t n s.op s.num ts=X:=fun q=>by
    unfold Z0t;rw [if_neg h0,if_neg h1,if_neg h5,if_neg om,if_neg h6,if_neg h9,if_pos h10,ha];exact q
   by_cases hp:r.params.length=0
   ·exact sf (hF (if_neg fun q=>q.1 hp)) (by rw [hL,if_pos (.inl hp)];rfl)
   by_cases hq:ts=r.params.take (r.params.length-1)
   ·rw [if_neg (fun z=>z.elim hp fun z=>z.elim (fun z=>hlent ⟨h10,z⟩) fun z=>z ((ht _).2 hq))] at hL
    by_cases har:0≤Z45 n.decls r.params r.result
    ·exact sf (hF (if_pos ⟨hp,har,hq⟩)) hL
    ·refine sf (hF (if_neg fun q=>har q.2.1)) ?_
     have key:∀(l:List Decl) (i:Nat) (f t:Int),¬0≤Z3r f t l i→Z3r f t l i=-1:=by
      intro l
      induction l with
      | nil=>intro i f t _;rfl
      | cons d r ih=>
       intro i f t hn
       rw [Z3r] at hn ⊢
       split
       ·rename_i hh;rw [if_pos hh] at hn;omega
       ·rename_i hh;rw [if_neg hh] at hn;exact ih _ _ _ hn
     exact hL.trans (key _ _ _ _ har)
   ·exact sf (hF (if_neg fun q=>hq q.2.2)) (by rw [hL,if_pos (.inr (.inr fun q=>hq ((ht _).1 q)))];rfl)
 rw [if_neg om] at hL
 by_cases h11:s.op=11
 ·rw [if_pos h11] at hL
  have hn0:=hnumf om
  have hF:∀{X:Option Int},Zm3 n s.num ts=X→Z0t n s.op s.num ts=X:=fun q=>by
   unfold Z0t;rw [if_neg h0,if_neg h1,if_neg h5,if_pos h11];exact q
  rcases he:s.args with _|⟨a,_|⟨b,_|⟨c,r⟩⟩⟩
  ·rw [he] at hts hL;rw [Z21] at hts;cases hts;exact sf (hF rfl) hL
  ·rw [he] at hl hL
   exact sf (hF (Zad (by simp at hl;omega))) hL
  ·rw [he] at hts hL
   rw [Z21] at hts
   cases ha:atI us a with
   | none=>rw [ha] at hts;cases hts
   | some t=>
    rw [ha,Z21] at hts
    cases hb:atI us b with
    | none=>rw [hb] at hts;cases hts
    | some t2=>
     rw [hb,Z21] at hts;cases hts
     rw [Z4c,ha] at hL
     simp only at hL
     by_cases hA:Z00 n.decls t=true
     ·rw [if_pos hA] at hL
      have hA2:=hA
      simp only [Z00,Bool.and_eq_true,decide_eq_true_eq] at hA2
      cases hd:n.decls[(t-1).toNat]? with
      | none=>rw [hd] at hA2;simp at hA2
      | some d=>
       rw [hd] at hL
       simp only at hL
       have hD:Z27 n.decls t=d:=by rw [Z27,if_pos hA,hd];rfl
       have h2:=Zi2 (us:=us) (args:=[b]) (ts:=[t2]) (by rw [Z21,hb,Z21]) [d.frm]
       by_cases hq:t2=d.frm
       ·exact sf (hF (if_pos ⟨hA,by rw [hD];exact hq,hn0⟩)) (by rw [hL,if_pos (h2.2 (by rw [hq])),hD];rfl)
       ·exact sf (hF (if_neg fun q=>hq (by rw [hD] at q;exact q.2.1))) (by rw [hL,if_neg (fun q=>hq (by simpa using h2.1 q))];rfl)
     ·exact sf (hF (if_neg fun q=>hA q.1)) (by rw [hL,if_neg hA];rfl)
  ·rw [he] at hl hL
   exact sf (hF (Zad (by simp at hl;omega))) hL
 rw [if_neg h11,if_neg om] at hL
 exact sf (X:=none) (by unfold Z0t;rw [if_neg h0,if_neg h1,if_neg h5,if_neg h11,if_neg h6,if_neg h9,if_neg h10]) hL
end Go.Abs
namespace Go.Abs
theorem Zhg:∀(n:Nat) (f:Int) (k:Nat) (x:Int),(Z18 f n)[k]? = some x→x=f+k∧k<n
 | 0,f,k,x,h=>by simp [Z18] at h
 | n+1,f,k,x,h=>by
  rw [Z18] at h
  cases k with
  | zero=>simp at h;subst h;exact ⟨by omega,by omega⟩
  | succ k=>have:=Zhg n (f+1) k x (by simpa using h);exact ⟨by omega,by omega⟩
theorem Zmi {ds:List Decl} (hd:DOk ds) {t:Int} {k:Nat} {x:Int} (h:(Zb ds t)[k]? = some x):0≤x∧x≤100:=by
 rw [Zb] at h
 split at h
 ·rename_i ht
  obtain ⟨d,hd1⟩:=Z6 (xs:=ds) (j:=(t-1).toNat) om
  rw [hd1] at h
  have:=Zhg _ _ _ _ h
  have h3:=hd.cons_at hd1
  have h4:=(hd.take (t-1).toNat).sum
  simp only [Option.map_some,Option.getD_some] at this
  omega
 ·simp at h
end Go.Abs
namespace Go.Abs
section
variable {S:Option Int} {c:Prop} [Decidable c] {v:Int} {b:Bool}
theorem sfb (h:S=if c then some v else none) (hb:b=true↔c):b=S.isSome:=by rw [h,Zwo,Bool.eq_iff_iff,hb,decide_eq_true_iff]
theorem sfp (h:S=if c then some v else none):∀x,S=some x→v=x:=by
 intro x hx;rw [h] at hx;split at hx
 ·exact Option.some.inj hx
 ·cases hx
theorem sfn (h:S=none):false=S.isSome:=by rw [h];rfl
theorem sfnp (h:S=none):∀x,S=some x→v=x:=by intro x hx;rw [h] at hx;cases hx
end
section
variable {n:Normal} {op num:Int} {ts:List Int}
theorem sf0 (h:op=0):Z0t n op num ts=if (-999≤num∧num≤999)∧ts.length=0 then some 0 else none:=by unfold Z0t;rw [if_pos h]
theorem sf1 (h:op=1∨op=2∨op=3∨op=4):Z0t n op num ts=if num=0∧ts=[0,0] then some 0 else none:=by unfold Z0t;rw [if_neg om,if_pos h]
theorem sf5 (h:op=5):Z0t n op num ts=if num=0∧ts=[0] then some 0 else none:=by unfold Z0t;rw [if_neg om,if_neg om,if_pos h]
theorem sf11 (h:op=11):Z0t n op num ts=Zm3 n num ts:=by unfold Z0t;rw [if_neg om,if_neg om,if_neg om,if_pos h]
theorem Z077 (h:op=11) (hl:(ts.length:Int)≠2):Z0t n op num ts=none:=(sf11 h).trans (Zad om)
theorem Z04g (h:op=11) {a b:Int} (hl:¬(ts.length:Int)≠2) (ha:ts[0]? = some a) (hb:ts[1]? = some b) :
  Z0t n op num ts=if Z00 n.decls a=true∧b=(Z27 n.decls a).frm∧num=0 then some (Z27 n.decls a).to_ else none:=by
 rw [sf11 h]
 match ts,hl,ha,hb with
 | [x,y],_,ha,hb=>simp at ha hb;subst ha;subst hb;rfl
 | [],hl,_,_=>simp at hl
 | [_],hl,_,_=>simp at hl
 | _::_::_::_,hl,_,_=>simp at hl;omega
theorem Z076 (h:op=11) {a:Int} (hl:¬(ts.length:Int)≠2) (ha:ts[0]? = some a) (hn:¬Z00 n.decls a=true):Z0t n op num ts=none:=by
 obtain ⟨b,hb⟩:=Z6 (xs:=ts) (j:=1) om
 rw [Z04g h hl ha hb,if_neg fun q=>hn q.1]
theorem sf6 (h:op=6):Z0t n op num ts=if 0≤Z08 n.decls num∧ts=Z1 n.decls num then some (Z08 n.decls num) else none:=by
 unfold Z0t;rw [if_neg om,if_neg om,if_neg om,if_neg om,if_pos h]
theorem sf9n (h:op=9∨op=10) (hr:num<0∨num≥(((n.routines.map Z17).length:Nat):Int)):Z0t n op num ts=none:=by
 have ha:atI n.routines num=none:=Z5t (by simp at hr;omega)
 unfold Z0t
 rw [if_neg om,if_neg om,if_neg om,if_neg om,if_neg om]
 rcases h with h|h
 ·rw [if_pos h,ha]
 ·rw [if_neg om,if_pos h,ha]
theorem sf9 (h:op=9) {x:Sg3} (hr:¬(num<0∨num≥(((n.routines.map Z17).length:Nat):Int))) (hx:(n.routines.map Z17)[num.toNat]? = some x) :
  Z0t n op num ts=if ts=x.pms then some x.res else none:=by
 obtain ⟨r,h1,rfl⟩:=Zg7 hx
 have ha:atI n.routines num=some r:=Z6v (by simp at hr;omega) h1
 unfold Z0t
 rw [if_neg om,if_neg om,if_neg om,if_neg om,if_neg om,if_pos h,ha];rfl
theorem Z075 (h:op=10) {x:Sg3} (hr:¬(num<0∨num≥(((n.routines.map Z17).length:Nat):Int))) (hx:(n.routines.map Z17)[num.toNat]? = some x) (hp:(x.pms.length:Int)-1<0) :
  Z0t n op num ts=none:=by
 obtain ⟨r,h1,rfl⟩:=Zg7 hx
 have ha:atI n.routines num=some r:=Z6v (by simp at hr;omega) h1
 have hp':r.params.length=0:=by simp only [Z17] at hp;omega
 unfold Z0t
 rw [if_neg om,if_neg om,if_neg om,if_neg om,if_neg om,if_neg om,if_pos h,ha]
 exact if_neg fun q=>q.1 hp'
theorem sf10 (h:op=10) {x:Sg3} {l:Int} (hr:¬(num<0∨num≥(((n.routines.map Z17).length:Nat):Int))) (hx:(n.routines.map Z17)[num.toNat]? = some x) (hp:¬(x.pms.length:Int)-1<0)
  (hl:x.pms[((x.pms.length:Int)-1).toNat]? = some l) :
  Z0t n op num ts=if 0≤Z2a n.decls l x.res∧ts=x.pms.take ((x.pms.length:Int)-1).toNat then some (Z2a n.decls l x.res) else none:=by
 obtain ⟨r,h1,rfl⟩:=Zg7 hx
 have ha:atI n.routines num=some r:=Z6v (by simp at hr;omega) h1
 simp only [Z17] at hp hl ⊢
 have hq:((r.params.length:Int)-1).toNat=r.params.length-1:=by omega
 have ht:r.params.take ((r.params.length:Int)-1).toNat=r.params.take (r.params.length-1):=congrArg (fun k=>r.params.take k) hq
 have hl':r.params[r.params.length-1]? = some l:=by rw [←hl];exact congrArg (fun k=>r.params[k]?) hq.symm
 have hlast:Z45 n.decls r.params r.result=Z2a n.decls l r.result:=by rw [Z45,Zjb hl']
 unfold Z0t
 rw [if_neg om,if_neg om,if_neg om,if_neg om,if_neg om,if_neg om,if_pos h,ha]
 simp only [hlast]
 by_cases hc:0≤Z2a n.decls l r.result∧ts=r.params.take (r.params.length-1)
 ·rw [if_pos ⟨by omega,hc⟩]
  exact (if_pos ⟨hc.1,hc.2.trans ht.symm⟩).symm
 ·rw [if_neg fun q=>hc q.2]
  exact (if_neg (fun q=>hc ⟨q.1,q.2.trans ht⟩)).symm
theorem sfd (h0:¬op=0) (h1:¬(op=1∨op=2∨op=3∨op=4)) (h5:¬op=5) (h11:¬op=11) (h6:¬op=6) (h9:¬(op=9∨op=10)):Z0t n op num ts=none:=by
 unfold Z0t;rw [if_neg h0,if_neg h1,if_neg h5,if_neg h11,if_neg h6,if_neg om,if_neg om]
end
end Go.Abs
end
section
namespace Go.Abs
mutual
def Step.rng:Step→Prop
 | .mk _ num _ _ kids=>(-9223372036854775808≤num∧num≤9223372036854775807)∧brng kids
def Block.rng:Block→Prop
 | .mk steps _=>srng steps
def srng:List Step→Prop
 | []=>True
 | s::r=>s.rng∧srng r
def brng:List Block→Prop
 | []=>True
 | b::r=>b.rng∧brng r
end
theorem Step.rng_eq (s:Step):s.rng=((-9223372036854775808≤s.num∧s.num≤9223372036854775807)∧brng s.kids):=by cases s;rw [Step.rng];rfl
theorem Block.rng_eq (b:Block):b.rng=srng b.steps:=by cases b;rw [Block.rng];rfl
theorem Zln:∀{xs:List Step} {k:Nat} {s:Step},srng xs→xs[k]? = some s→s.rng
 | [],k,s,_,h=>by simp at h
 | x::r,0,s,hr,h=>by rw [srng] at hr;simp at h;subst h;exact hr.1
 | x::r,k+1,s,hr,h=>by rw [srng] at hr;exact Zln (k:=k) hr.2 (by simpa using h)
theorem Zfs:∀{xs:List Block} {k:Nat} {b:Block},brng xs→xs[k]? = some b→b.rng
 | [],k,s,_,h=>by simp at h
 | x::r,0,s,hr,h=>by rw [brng] at hr;simp at h;subst h;exact hr.1
 | x::r,k+1,s,hr,h=>by rw [brng] at hr;exact Zfs (k:=k) hr.2 (by simpa using h)
theorem Zes {us:List Int}:∀{args:List Int},Z21 us args=none→∀tys,Z1r us args tys=false
 | [],h,tys=>by rw [Z21] at h;cases h
 | a::r,h,tys=>by
  cases tys with
  | nil=>simp [Z1r,Z25]
  | cons t ts=>
   rw [Z21] at h
   rw [Z1r,Z25]
   cases ha:atI us a with
   | none=>simp
   | some u=>
    rw [ha] at h
    cases hr:Z21 us r with
    | none=>
     have:=Zes hr ts
     rw [Z1r] at this
     by_cases he:u=t
     ·subst he;simpa using this
     ·rw [if_neg (fun q=>he (Option.some.inj q))]
    | some tr=>rw [hr] at h;cases h
theorem Zio {n:Normal} {us:List Int} {s:Step} (h:Z21 us s.args=none):Z7 n us s=-1:=by
 have ht:=Zes h
 rw [Z3z]
 split
 ·rfl
 split
 ·rw [if_neg];rintro ⟨q,_⟩
  have:s.args=[]:=List.length_eq_zero_iff.1 q
  rw [this,Z21] at h;cases h
 split
 ·rw [if_neg (by rw [ht];simp)]
 split
 ·rw [if_neg (by rw [ht];simp)]
 split
 ·rw [if_neg (by rw [ht];simp)]
 split
 ·rw [if_neg (by rw [ht];simp)]
 split
 ·rw [if_neg (by rw [ht];simp)]
 split
 ·rw [Z2l]
  cases atI n.routines s.num with
  | none=>rfl
  | some r=>
   simp only
   rw [Z3d]
   split
   ·rw [if_neg (by rw [ht];simp)]
   ·rw [if_pos (.inr (.inr (by rw [ht];simp)))]
 split
 ·match hA:s.args with
  | []=>rfl
  | [_]=>rfl
  | [a,b]=>
   rw [Z4c]
   rw [hA,Z21] at h
   cases ha:atI us a with
   | none=>rfl
   | some t=>
    rw [ha] at h
    simp only at h ⊢
    split
    ·cases n.decls[(t-1).toNat]? with
     | none=>rfl
     | some d=>
      simp only
      rw [if_neg]
      cases hb:Z21 us [b] with
      | none=>rw [Zes hb];simp
      | some tr=>rw [hb] at h;cases h
    ·rfl
  | _::_::_::_=>rfl
 split
 ·match hA:s.args with
  | []=>rfl
  | [a]=>
   rw [Z1z]
   rw [hA,Z21] at h
   cases ha:atI us a with
   | none=>rfl
   | some t=>rw [ha,Z21] at h;cases h
  | _::_::_=>rfl
 ·rfl
theorem Ziw {us:List Int} {a:Int}:∀{xs:List Int} {k:Nat},xs[k]? = some a→atI us a=none→Z21 us xs=none
 | [],k,h,_=>by simp at h
 | x::r,0,h,ha=>by simp at h;subst h;rw [Z21,ha]
 | x::r,k+1,h,ha=>by
  have:=Ziw (xs:=r) (k:=k) (by simpa using h) ha
  rw [Z21]
  cases atI us x with
  | none=>rfl
  | some t=>simp only [this]
theorem Zws {n:Normal} {us:List Int} {ks:List Block} {ms:List (List Int)} (h:0<ks.length) (t:Int) :
  Z1k n us (ks.drop 0) (ms.drop 0) (decide (0=0)) t=Z1k n us ks ms true 0:=by
 cases ks with
 | nil=>simp at h
 | cons b bs=>
  cases ms with
  | nil=>rw [List.drop_zero,List.drop_zero,Z1k,Z1k]
  | cons m r=>
   simp only [List.drop_zero,decide_true]
   rw [Z1k,Z1k];simp
theorem Zuy {b:Block}:∀{ks:List Block} {k:Nat},ks[k]? = some b→b.sz≤bsz ks
 | [],k,h=>by simp at h
 | x::r,0,h=>by simp at h;subst h;rw [bsz];omega
 | x::r,k+1,h=>by have:=Zuy (ks:=r) (k:=k) (by simpa using h);rw [bsz];omega
theorem Zdo (us m:List Int):[us,m].flatten=us++m:=by simp
theorem Z024 {xs:List Int} {i:Int} (h:i.toNat<xs.length):xs[i.toNat]? = some (gI xs i):=by rw [gI,List.getElem?_eq_getElem h];rfl
theorem Zkq {xs:List Int} (h:0<xs.length):xs[0]? = some (gI xs 0):=Z024 (i:=0) h
def sgI (n:Normal) (num:Int):Sg3:=((n.routines.map Z17)[num.toNat]?).getD ⟨[],[],0⟩
theorem Zye {n:Normal} {i:Int} (h:i.toNat<(n.routines.map Z17).length):(n.routines.map Z17)[i.toNat]? = some (sgI n i):=by rw [sgI,List.getElem?_eq_getElem h];rfl
theorem Znl {us m:List Int} (h1:∀t∈us,0≤t) (h2:∀t∈m,0≤t):∀t∈us++m,0≤t:=fun t h=>(List.mem_append.1 h).elim (h1 t) (h2 t)
theorem Z54 {us:List Int} {args ts:List Int} {k:Nat} (h:Z21 us (args.take k)=some ts) (hk:args.length≤k):Z21 us args=some ts:=by
 rw [List.take_of_length_le hk] at h;exact h
theorem Zot {us:List Int} {args ts:List Int} {k:Nat} {a t:Int} (h:Z21 us (args.take k)=some ts) (ha:args[k]? = some a) (ht:atI us a=some t):Z21 us (args.take (k+1))=some (ts++[t]):=by
 rw [Z1l ha];exact Zgl h ht
theorem Z027 {ts:List Int} (h:(ts.length:Int)=1):ts=[gI ts 0]:=by
 match ts,h with
 | [a],_=>rfl
section
variable {n:Normal} {us ts:List Int} {s:Step}
theorem Zcs {p1 p2 p3 p4 p5:Prop}:(p1∧(p2∨(p3∨(p4∨p5))))↔(p1∧(((p2∨p3)∨p4)∨p5)):=by simp only [or_assoc]
def cntI (n:Normal) (s:Step) (ts:List Int):Int:=match ts with
  | [t]=>if t≠0∧s.num=0∧s.kids.length=0∧¬((s.op=16∨s.op=17)∧Z00 n.decls t=true) then 0 else -1
  | _=>-1
theorem Z84:Zfq n us s ts =
 if Z0q s.op=true then cntI n s ts
 else if s.op=7 then (if ts=[0]∧s.num=0 then Z3o n us s.op s.num s.kids else -1)
 else if s.op=8 then (if ts=[s.num] then Z3o n us s.op s.num s.kids else -1)
 else if 0<s.kids.length∨(s.op=10∧0<(((atI n.routines s.num).map (·.lent)).getD []).length) then -1
 else (Z0t n s.op s.num ts).getD (-1):=by unfold Zfq cntI;rfl
theorem Zqo (h:(ts.length:Int)=1):cntI n s ts=if gI ts 0≠0∧s.num=0∧s.kids.length=0∧¬((s.op=16∨s.op=17)∧Z00 n.decls (gI ts 0)=true) then 0 else -1:=by
 match ts,h with
 | [a],_=>rfl
theorem Zzl (h:(ts.length:Int)≠1):cntI n s ts=-1:=by
 match ts,h with
 | [],_=>rfl
 | [a],h=>exact absurd rfl h
 | _::_::_,_=>rfl
theorem Zyo (hS:Z7 n us s=Zfq n us s ts) (hc:Z0q s.op=true)
  (h:((((ts.length:Int)=1∧gI ts 0≠0)∧s.num=0)∧(s.kids.length:Int)=0)∧(s.op=16∨s.op=17)) :
  (!Z00 n.decls (gI ts 0))=decide (0≤Z7 n us s):=by
 obtain ⟨⟨⟨⟨h1,h2⟩,h3⟩,h4⟩,h5⟩:=h
 have h4':s.kids.length=0:=by omega
 rw [hS,Z84,if_pos hc,Zqo h1]
 cases hA:Z00 n.decls (gI ts 0)
 ·rw [if_pos ⟨h2,h3,h4',by simp⟩];rfl
 ·rw [if_neg (fun q=>q.2.2.2 ⟨h5,rfl⟩)];rfl
theorem Zyp (hS:Z7 n us s=Zfq n us s ts) (hc:Z0q s.op=true)
  (h:¬(((((ts.length:Int)=1∧gI ts 0≠0)∧s.num=0)∧(s.kids.length:Int)=0)∧(s.op=16∨s.op=17))) :
  ((((((ts.length:Int)==1)&&(gI ts 0 != 0))&&(s.num==0))&&((s.kids.length:Int)==0)))=decide (0≤Z7 n us s):=by
 rw [hS,Z84,if_pos hc]
 by_cases h1:(ts.length:Int)=1
 ·rw [Zqo h1]
  by_cases h2:(gI ts 0≠0∧s.num=0)∧(s.kids.length:Int)=0
  ·obtain ⟨⟨h2,h3⟩,h4⟩:=h2
   have h4':s.kids.length=0:=by omega
   rw [if_pos ⟨h2,h3,h4',fun q=>h ⟨⟨⟨⟨h1,h2⟩,h3⟩,h4⟩,q.1⟩⟩,beq_iff_eq.2 h1,bne_iff_ne.2 h2,beq_iff_eq.2 h3,beq_iff_eq.2 h4];rfl
  ·rw [if_neg (fun q=>h2 ⟨⟨q.1,q.2.1⟩,by have:=q.2.2.1;omega⟩)]
   show _=false
   rw [Bool.eq_false_iff];intro q
   obtain ⟨⟨⟨_,q1⟩,q2⟩,q3⟩:=(Zj (Zj (Zj beq_iff_eq bne_iff_ne) beq_iff_eq) beq_iff_eq).1 q
   exact h2 ⟨⟨q1,q2⟩,q3⟩
 ·rw [Zzl h1]
  show _=false
  rw [Bool.eq_false_iff];intro q
  obtain ⟨⟨⟨q1,_⟩,_⟩,_⟩:=(Zj (Zj (Zj beq_iff_eq bne_iff_ne) beq_iff_eq) beq_iff_eq).1 q
  exact h1 q1
theorem Z04o (hS:Z7 n us s=Zfq n us s ts) (hc:¬Z0q s.op=true) (h7:s.op=7)
  (h:(((ts.length:Int)≠1∨gI ts 0≠0)∨s.num≠0)∨(s.kids.length:Int)≠2):Z7 n us s=-1:=by
 rw [hS,Z84,if_neg hc,if_pos h7]
 split
 ·rename_i q
  obtain ⟨q1,q2⟩:=q
  rw [q1] at h
  rw [Z3o,if_pos]
  right
  rw [Zq,if_pos h7]
  have:gI [0] 0=0:=rfl
  simp [this] at h
  show s.kids.length≠2
  omega
 ·rfl
theorem Z06g (hS:Z7 n us s=Zfq n us s ts) (hc:¬Z0q s.op=true) (h7:s.op=7)
  (h:¬((((ts.length:Int)≠1∨gI ts 0≠0)∨s.num≠0)∨(s.kids.length:Int)≠2)):Z7 n us s=Z1k n us s.kids (List.replicate 2 []) true 0:=by
 have h1:(ts.length:Int)=1:=Classical.not_not.1 fun q=>h (.inl (.inl (.inl q)))
 have h2:gI ts 0=0:=Classical.not_not.1 fun q=>h (.inl (.inl (.inr q)))
 have h3:s.num=0:=Classical.not_not.1 fun q=>h (.inl (.inr q))
 have h4:(s.kids.length:Int)=2:=Classical.not_not.1 fun q=>h (.inr q)
 rw [hS,Z84,if_neg hc,if_pos h7,if_pos ⟨by rw [Z027 h1,h2],h3⟩,Z3o,if_neg]
 ·rw [Zq,if_pos h7];rfl
 ·rw [Zq,if_pos h7];simp;omega
theorem Z04p (hS:Z7 n us s=Zfq n us s ts) (hc:¬Z0q s.op=true) (h7:¬s.op=7) (h8:s.op=8)
  (h:(ts.length:Int)≠1∨(gI ts 0≠s.num∨(((((Zb n.decls s.num).map (Z1 n.decls)).length:Nat):Int)=0∨(s.kids.length:Int)≠((((Zb n.decls s.num).map (Z1 n.decls)).length:Nat):Int)))):Z7 n us s=-1:=by
 rw [hS,Z84,if_neg hc,if_neg h7,if_pos h8]
 split
 ·rename_i q
  have hg:gI ts 0=s.num:=by rw [q];rfl
  have hl:(ts.length:Int)=1:=by rw [q];rfl
  rw [Z3o,if_pos]
  rw [Zq,if_neg h7]
  omega
 ·rfl
theorem Z06h (hS:Z7 n us s=Zfq n us s ts) (hc:¬Z0q s.op=true) (h7:¬s.op=7) (h8:s.op=8)
  (h:¬((ts.length:Int)≠1∨(gI ts 0≠s.num∨(((((Zb n.decls s.num).map (Z1 n.decls)).length:Nat):Int)=0∨(s.kids.length:Int)≠((((Zb n.decls s.num).map (Z1 n.decls)).length:Nat):Int))))) :
  Z7 n us s=Z1k n us s.kids ((Zb n.decls s.num).map (Z1 n.decls)) true 0:=by
 have h1:(ts.length:Int)=1:=Classical.not_not.1 fun q=>h (.inl q)
 have h2:gI ts 0=s.num:=Classical.not_not.1 fun q=>h (.inr (.inl q))
 rw [hS,Z84,if_neg hc,if_neg h7,if_pos h8,if_pos (by rw [Z027 h1,h2]),Z3o,if_neg]
 ·rw [Zq,if_neg h7]
 ·rw [Zq,if_neg h7];omega
theorem Z05z {n:Normal} {num:Int}:(((atI n.routines num).map (·.lent)).getD []).length=if 0≤num∧num<(((n.routines.map Z17).length:Nat):Int) then (sgI n num).lnt.length else 0:=by
 split
 ·rename_i h
  rw [List.length_map] at h
  obtain ⟨r,hr⟩:=Z6 (xs:=n.routines) (j:=num.toNat) om
  rw [Z6v om hr,sgI,List.getElem?_map,hr];rfl
 ·rename_i h
  rw [List.length_map] at h
  rw [Z5t om];rfl
theorem Zyn:(0<s.kids.length∨(s.op=10∧0<(((atI n.routines s.num).map (·.lent)).getD []).length)) ↔
  ((s.kids.length:Int)>0∨(s.op=10∧(s.num≥0∧(s.num<(((n.routines.map Z17).length:Nat):Int)∧((((sgI n s.num).lnt).length:Nat):Int)>0)))):=by
 rw [Z05z]
 by_cases hq:0≤s.num∧s.num<(((n.routines.map Z17).length:Nat):Int)
 ·rw [if_pos hq];omega
 ·rw [if_neg hq];omega
theorem stB (hS:Z7 n us s=Zfq n us s ts) (hc:¬Z0q s.op=true) (h7:¬s.op=7) (h8:¬s.op=8)
  (h:((s.kids.length:Int)>0∨(s.op=10∧(s.num≥0∧(s.num<(((n.routines.map Z17).length:Nat):Int)∧((((sgI n s.num).lnt).length:Nat):Int)>0))))):Z7 n us s=-1:=by
 rw [hS,Z84,if_neg hc,if_neg h7,if_neg h8,if_pos (Zyn.2 h)]
theorem stS (hS:Z7 n us s=Zfq n us s ts) (hc:¬Z0q s.op=true) (h7:¬s.op=7) (h8:¬s.op=8)
  (h:¬((s.kids.length:Int)>0∨(s.op=10∧(s.num≥0∧(s.num<(((n.routines.map Z17).length:Nat):Int)∧((((sgI n s.num).lnt).length:Nat):Int)>0))))):Z7 n us s=(Z0t n s.op s.num ts).getD (-1):=by
 rw [hS,Z84,if_neg hc,if_neg h7,if_neg h8,if_neg (fun q=>h (Zyn.1 q))]
theorem Z078 (hty:NTy n) (h:Z7 n us s=(Z0t n s.op s.num ts).getD (-1)):(Z0t n s.op s.num ts).isSome=decide (0≤Z7 n us s):=by
 rw [h]
 cases hs:Z0t n s.op s.num ts with
 | none=>rfl
 | some x=>have:=Zyf hty hs;simp [this]
theorem Z079 {t:Int} (h:Z7 n us s=(Z0t n s.op s.num ts).getD (-1)) (hp:∀x,Z0t n s.op s.num ts=some x→t=x):¬Z0q s.op=true→0≤Z7 n us s→t=Z7 n us s:=by
 intro _ h0
 rw [h] at h0 ⊢
 cases hs:Z0t n s.op s.num ts with
 | none=>rw [hs] at h0;exact absurd h0 (by decide)
 | some x=>exact hp x hs
end
theorem Zu0 {n:Normal} {us:List Int} {s:Step} (h:0≤Z7 n us s):(0≤s.op∧s.op≤11)∨(14≤s.op∧s.op≤17):=by
 rw [Z3z] at h
 by_cases hq:(0≤s.op∧s.op≤11)∨(14≤s.op∧s.op≤17)
 ·exact hq
 ·exfalso
  split at h
  ·omega
  rw [if_neg om,if_neg om,if_neg om,if_neg om,if_neg om,if_neg om,if_neg om,if_neg om,if_neg om] at h
  omega
theorem Zgp {n:Normal} {us:List Int} {s:Step} (h:0≤Z7 n us s):Zx s.op=!Z0q s.op:=by
 have:=Zu0 h
 rw [Zx,Z0q,Bool.eq_iff_iff];simp;omega
theorem Z01f {n:Normal} {xs:List Step} {vs:List Int} {k:Nat} {s:Step} {t:Int} {r:Option (List Int)} (hs:xs[k]? = some s) (h:0≤Z7 n vs s) (ht:¬Z0q s.op=true→0≤Z7 n vs s→t=Z7 n vs s)
  (hr:Z10 n (xs.drop k) vs=r):Z10 n (xs.drop (k+1)) (if Z0q s.op=true then vs else vs++[t])=r:=by
 rw [Z5 hs,Z10,if_neg om] at hr
 rw [←hr,Zgp h]
 by_cases hc:Z0q s.op=true
 ·rw [if_pos hc,hc];rfl
 ·rw [if_neg hc,if_pos (by simpa using hc),ht hc h]
theorem Zu1 {n:Normal} {xs:List Step} {vs:List Int} {k:Nat} {s:Step} {r:Option (List Int)} (hs:xs[k]? = some s) (h:¬0≤Z7 n vs s) (hr:Z10 n (xs.drop k) vs=r):r=none:=by
 rw [Z5 hs,Z10,if_pos om] at hr;exact hr.symm
theorem Z070 {c:Prop} [Decidable c] {vs:List Int} {t:Int} (h:∀x∈vs,0≤x) (ht:¬c→0≤t):∀x∈(if c then vs else vs++[t]),0≤x:=by
 split
 ·exact h
 ·rename_i hc
  exact Znl h (fun x hx=>by rw [List.mem_singleton.1 hx];exact ht hc)
end Go.Abs
end
section
namespace Go.Abs
theorem Zm1 {m:Nat} {xs:List Int} (h:Z1p m xs=true):∀x∈xs,0≤x∧x≤m:=by
 rw [Z1p,List.all_eq_true] at h
 exact fun x hx=>of_decide_eq_true (h x hx)
theorem Zd1 {n:Normal} (h:Z0e n=true):NTy n:=by
 simp only [Z0e,Z2v,Bool.and_eq_true,decide_eq_true_eq] at h
 obtain ⟨h1,⟨h2,h3,h4,h5⟩,h6⟩:=h
 have hs:∀r∈n.routines,Z1p n.decls.length r.params=true∧0≤r.result:=fun r hr=>by
  have:=Zbs h4 (Z5p r) (List.mem_map.2 ⟨r,hr,rfl⟩)
  simp only [Z9m,Bool.and_eq_true,decide_eq_true_eq] at this
  exact ⟨this.2.1,this.2.2.1⟩
 simp only [Zw,Bool.and_eq_true,decide_eq_true_eq] at h2
 obtain ⟨h2a,h2b⟩:=h2
 rw [Zbh] at h2b
 have key:∀(i:Nat) (d:Decl),n.decls[i]? = some d→Z3j n.decls d i=true:=fun i d hi=>by
  have:=h2b i (List.getElem?_eq_some_iff.1 hi).1
  rwa [Nat.zero_add,Z7g hi] at this
 refine ⟨fun r hr=>(hs r hr).2,fun r hr p hp=>(Zm1 (hs r hr).1 p hp).1,fun d hd h0=>?_,fun c f hf=>?_⟩
 ·obtain ⟨i,hi⟩:=List.mem_iff_getElem?.1 hd
  have:=key i d hi
  rw [Z3j,if_neg om] at this
  split at this
  ·cases this
  ·simp only [Bool.and_eq_true,decide_eq_true_eq] at this;omega
 ·by_cases hc:Z08 n.decls c<1
  ·rw [(Z7v hc).1] at hf;cases hf
  ·obtain ⟨k,d,x,q1,q2,q3,q4,q5⟩:=Za0 hc
   rw [q5] at hf
   have:=key k d q1
   have hp:0<d.cons.length:=by have:=(List.getElem?_eq_some_iff.1 q3).1;omega
   rw [Z3j,if_pos hp] at this
   split at this
   ·have:=Zgn.1 this x (List.mem_of_getElem? q3)
    simp only [Z9z,Bool.and_eq_true] at this
    exact (Zm1 this.2 f hf).1
   ·cases this
end Go.Abs
end
section
namespace Go.Abs
structure Arm where
 mat:Int
 fst:Int
 fds:List Int
 chg:Bool
abbrev lArm (a:Arm):List AV:=[.i a.mat,.i a.fst,nInt a.fds,.b a.chg]
abbrev aArm (a:Arm):AV:=.agg (lArm a)
def Z14 (xs:List Arm):List AV:=xs.map aArm
abbrev nArm (xs:List Arm):AV:=.sl (Z14 xs) none
abbrev oArm (xs:List Arm) (v:Value):AV:=.sl (Z14 xs) (some v)
theorem Zvm {xs:List Arm} {j:Nat} {x:Arm} (h:xs[j]? = some x):(Z14 xs)[j]? = some (aArm x):=by simp [Z14,h]
@[simp] theorem Zmm (xs:List Arm):(Z14 xs).length=xs.length:=by simp [Z14]
theorem Z6d (xs ys:List Arm):Z14 (xs++ys)=Z14 xs++Z14 ys:=by simp [Z14]
theorem Z46 (xs:List Arm):∀y∈Z14 xs,y.leaves.length=4:=by intro y hy;simp only [Z14,List.mem_map] at hy;obtain ⟨x,_,rfl⟩:=hy;rfl
theorem Za3 (xs:List Arm):(flat (Z14 xs)).all AV.one=true:=Z70 fun y hy=>by simp only [Z14,List.mem_map] at hy;obtain ⟨x,_,rfl⟩:=hy;rfl
theorem Zmn {xs:List Arm} (h:Z14 xs=[]):xs=[]:=by cases xs with|nil=>rfl|cons x r=>cases h
abbrev LedB:=Led
def Z5b:List Int→Int→List Int
 | [],_=>[]
 | t::r,p=>if t≠0 then p::Z5b r (p+1) else Z5b r (p+1)
theorem Z003 {xs:List Int} {k:Nat} {t p:Int} {acc r:List Int} (h:xs[k]? = some t) (ha:acc++Z5b (xs.drop k) (p+k)=r) :
  (if t≠0 then acc++[p+k] else acc)++Z5b (xs.drop (k+1)) (p+((k+1:Nat):Int))=r:=by
 rw [Z5 h,Z5b] at ha
 rw [show p+((k+1:Nat):Int)=p+k+1 by omega]
 split
 ·rename_i q;rw [if_pos q] at ha;rw [List.append_assoc];exact ha
 ·rename_i q;rw [if_neg q] at ha;exact ha
theorem Zw6 {xs:List Int} {k:Nat} {p:Int} {acc r:List Int} (h:xs.length≤k) (ha:acc++Z5b (xs.drop k) (p+k)=r):acc=r:=by
 rw [Zt h,Z5b,List.append_nil] at ha;exact ha
theorem Zgz:∀(xs:List Int) (p:Int) (own:List Int),addF own p xs=(Z5b xs p).foldl (fun o f=>o.set f.toNat (gI o f+1)) own
 | [],_,_=>rfl
 | t::r,p,own=>by
  rw [addF,Z5b]
  split
  ·rw [List.foldl_cons];exact Zgz r _ _
  ·exact Zgz r _ _
theorem Zh0:∀{xs:List Int} {p f:Int},f∈Z5b xs p→p≤f∧f<p+xs.length
 | [],_,_,h=>by simp [Z5b] at h
 | t::r,p,f,h=>by
  rw [Z5b] at h
  split at h
  ·rcases List.mem_cons.1 h with rfl|h
   ·simp only [List.length_cons];omega
   ·have:=Zh0 h;simp only [List.length_cons];omega
  ·have:=Zh0 h;simp only [List.length_cons];omega
theorem Zmx:∀(xs:List Int) (p:Int),(Z5b xs p).length≤xs.length
 | [],_=>by simp [Z5b]
 | t::r,p=>by
  have:=Zmx r (p+1)
  rw [Z5b];split<;>simp<;>omega
def ofF:List Arm→Int→Option Arm
 | [],_=>none
 | a::r,v=>match ofF r v with
  | some x=>some x
  | none=>if a.mat=v then some a else none
theorem Zra {a:Arm}:∀{as1:List Arm} {v:Int},ofF (as1++[a]) v=if a.mat=v then some a else ofF as1 v
 | [],v=>rfl
 | x::r,v=>by
  rw [List.cons_append,ofF,Zra]
  by_cases h:a.mat=v
  ·rw [if_pos h,if_pos h]
  ·rw [if_neg h,if_neg h];rfl
theorem Zd3 {v:Int}:∀{as1:List Arm},(∀a∈as1,a.mat≠v)→ofF as1 v=none
 | [],_=>rfl
 | x::r,h=>by rw [ofF,Zd3 (fun a ha=>h a (List.mem_cons_of_mem _ ha))];exact if_neg (h x (List.mem_cons_self ..))
theorem Zpr {v:Int} {a:Arm}:∀{as1:List Arm},ofF as1 v=some a→a∈as1∧a.mat=v
 | [],h=>by cases h
 | x::r,h=>by
  rw [ofF] at h
  cases hr:ofF r v with
  | some y=>rw [hr] at h;cases h;have:=Zpr hr;exact ⟨List.mem_cons_of_mem _ this.1,this.2⟩
  | none=>
   rw [hr] at h
   simp only at h
   split at h
   ·cases h;exact ⟨List.mem_cons_self ..,by assumption⟩
   ·cases h
structure ArmR (ds:List Decl) (L:Led) (as1:List Arm):Prop where
 rng:∀a∈as1,0≤a.mat∧a.mat<a.fst∧a.fst+a.fds.length≤L.vars.length
 par:∀a∈as1,∀v:Int,a.fst≤v→v<a.fst+a.fds.length→gI L.par v=a.mat
 non:∀v:Int,0≤v→v<L.vars.length→0≤gI L.par v→∃a∈as1,a.fst≤v∧v<a.fst+a.fds.length
 off:∀v:Int,0≤v→v<L.vars.length→match ofF as1 v with
  | none=>gI L.con v<0
  | some a=>0≤gI L.con v∧a.fst=gI L.fst v∧a.fds=Z1 ds (gI L.con v)
theorem ArmR.same {ds:List Decl} {L M:Led} {as1:List Arm} (h:ArmR ds L as1) (h1:M.vars.length=L.vars.length) (h2:M.par=L.par) (h3:M.con=L.con) (h4:M.fst=L.fst):ArmR ds M as1:=by
 refine ⟨?_,?_,?_,?_⟩
 ·rw [h1];exact h.rng
 ·rw [h2];exact h.par
 ·rw [h1,h2];exact h.non
 ·rw [h1,h3,h4];exact h.off
theorem ArmR.grow {ds:List Decl} {L:Led} {as1:List Arm} {t o:Int} (h:ArmR ds L as1) (hl:LLen L):ArmR ds (L.grow t o (-1)) as1:=by
 obtain ⟨e1,e2,e3,e4,e5⟩:=hl
 have key:∀{xs:List Int} {y v:Int},xs.length=L.vars.length→0≤v→v<L.vars.length→gI (xs++[y]) v=gI xs v:=fun hx h0 h1=>Z5r om
 have kend:∀{xs:List Int} {y v:Int},xs.length=L.vars.length→v=(L.vars.length:Int)→gI (xs++[y]) v=y:=fun hx h1=>Zqz om
 have hlen:(L.grow t o (-1)).vars.length=L.vars.length+1:=by simp [Led.grow]
 refine ⟨fun a ha=>?_,fun a ha v h1 h2=>?_,fun v h0 h1 h2=>?_,fun v h0 h1=>?_⟩
 ·have:=h.rng a ha;omega
 ·have:=h.rng a ha
  show gI (L.par++[-1]) v=a.mat
  rw [key e2 om om];exact h.par a ha v h1 h2
 ·have h2':0≤gI (L.par++[-1]) v:=h2
  by_cases hv:v<L.vars.length
  ·rw [key e2 h0 hv] at h2';exact h.non v h0 hv h2'
  ·rw [kend e2 om] at h2';omega
 ·show match ofF as1 v with
   | none=>gI (L.con++[-1]) v<0
   | some a=>0≤gI (L.con++[-1]) v∧a.fst=gI (L.fst++[-1]) v∧a.fds=Z1 ds (gI (L.con++[-1]) v)
  by_cases hv:v<L.vars.length
  ·rw [key e3 h0 hv,key e4 h0 hv];exact h.off v h0 hv
  ·rw [Zd3 (fun a ha=>by have:=h.rng a ha;omega)]
   show gI (L.con++[-1]) v<0
   rw [kend e3 om];omega
theorem ArmR.arm {ds:List Decl} {L:Led} {as1:List Arm} {x c:Int} (h:ArmR ds L as1) (hl:LLen L) (hx:0≤x∧x<L.vars.length) (hc:0≤c) :
  ArmR ds (armL ds L x c) (as1++[⟨x,(L.vars.length:Nat),Z1 ds c,false⟩]):=by
 obtain ⟨e1,e2,e3,e4,e5⟩:=hl
 rw [armL,Zai]
 have hnew:∀{xs:List Int} {y v:Int},xs.length=L.vars.length→(L.vars.length:Int)≤v→v<L.vars.length+(Z1 ds c).length→gI (xs++List.replicate (Z1 ds c).length y) v=y:=fun hx h0 h1=>Zr0 om
 have hold:∀{xs:List Int} {y v:Int},xs.length=L.vars.length→0≤v→v<L.vars.length→gI (xs++List.replicate (Z1 ds c).length y) v=gI xs v:=fun hx h0 h1=>Z5r om
 refine ⟨fun a ha=>?_,fun a ha v h1 h2=>?_,fun v h0 h1 h2=>?_,fun v h0 h1=>?_⟩
 ·simp only [List.length_append]
  rcases List.mem_append.1 ha with ha|ha
  ·have:=h.rng a ha;omega
  ·rw [List.mem_singleton.1 ha]
   show 0≤x∧x<(L.vars.length:Nat)∧(L.vars.length:Int)+((Z1 ds c).length:Nat)≤_
   omega
 ·show gI (L.par++List.replicate _ x) v=a.mat
  rcases List.mem_append.1 ha with ha|ha
  ·have:=h.rng a ha
   rw [hold e2 om om];exact h.par a ha v h1 h2
  ·rw [List.mem_singleton.1 ha] at h1 h2 ⊢
   exact hnew e2 h1 h2
 ·simp only [List.length_append] at h1
  have h2':0≤gI (L.par++List.replicate (Z1 ds c).length x) v:=h2
  by_cases hv:v<L.vars.length
  ·rw [hold e2 h0 hv] at h2'
   obtain ⟨a,ha,q⟩:=h.non v h0 hv h2'
   exact ⟨a,List.mem_append_left _ ha,q⟩
  ·exact ⟨_,List.mem_append_right _ (List.mem_singleton.2 rfl),by show (L.vars.length:Int)≤v;omega,by show v<(L.vars.length:Int)+(Z1 ds c).length;omega⟩
 ·simp only [List.length_append] at h1
  show match ofF (as1++[⟨x,(L.vars.length:Nat),Z1 ds c,false⟩]) v with
   | none=>gI (L.con.set x.toNat c++List.replicate (Z1 ds c).length (-1)) v<0
   | some a=>0≤gI (L.con.set x.toNat c++List.replicate (Z1 ds c).length (-1)) v∧a.fst=gI (L.fst.set x.toNat L.vars.length++List.replicate (Z1 ds c).length (-1)) v ∧
     a.fds=Z1 ds (gI (L.con.set x.toNat c++List.replicate (Z1 ds c).length (-1)) v)
  rw [Zra]
  by_cases hv:v<L.vars.length
  ·rw [hold (by simp [e3]) h0 hv,hold (by simp [e4]) h0 hv]
   by_cases he:x=v
   ·rw [if_pos he]
    show 0≤gI (L.con.set x.toNat c) v∧(L.vars.length:Int)=gI (L.fst.set x.toNat L.vars.length) v∧Z1 ds c=Z1 ds (gI (L.con.set x.toNat c) v)
    rw [Z5j om om,Z5j om om]
    exact ⟨hc,rfl,rfl⟩
   ·rw [if_neg he,Z4u om,Z4u om];exact h.off v h0 hv
  ·rw [hnew (by simp [e3]) om om]
   rw [if_neg (by show ¬x=v;omega),Zd3 (fun a ha=>by have:=h.rng a ha;omega)]
   show (-1:Int)<0
   omega
theorem Zzd {L:Led} {ln:List Int} {v:Int} {p:Int} (hv:0≤v∧v<L.vars.length) (hd:∀i:Int,0≤i→i<L.vars.length→gI L.par i<i) (h:¬(gI L.own v>0∨v∈ln)) (hp:gI L.par v=p) (h0:0≤p):Z1m L ln v=Z1m L ln p:=
 (Zqd (N:=L.vars.length) rfl hp hv ⟨by omega,fun q=>h (.inr q)⟩ om hd rfl).symm
theorem Zuj {L:Led} {ln:List Int} {v:Int} (h:¬(gI L.own v>0∨v∈ln)) (hp:gI L.par v<0):Z1m L ln v=false:=
 (Ziu rfl rfl ⟨by omega,fun q=>h (.inr q)⟩ hp rfl).symm
theorem Zuk {L:Led} {ln:List Int} {v:Int} (h:gI L.own v>0∨v∈ln):Z1m L ln v=true:=
 (Ziv rfl (fun q=>h.elim (fun z=>by omega) q.2) rfl).symm
end Go.Abs
namespace Go.Abs
def decL (L:Led) (v:Int):Led:={ L with own:=L.own.set v.toNat (gI L.own v-1) }
theorem Z5q {L:Led} {v:Int}:Z7q L v=if 1≤gI L.own v then some (decL L v) else none:=by
 rw [Z7q]
 by_cases h:gI L.own v<1
 ·rw [if_pos h,if_neg om]
 ·rw [if_neg h,if_pos om];rfl
end Go.Abs
namespace Go.Abs
def endM (L:Led) (r:Int):Led:=if gI L.vars r≠0 then decL L r else L
theorem Zqx {L:Led} {m:Nat} {r:Int} (ho:gI L.vars r≠0→1≤gI L.own r) (hz:Z30 ((endM L r).own.drop m) ((endM L r).tok.drop m)=true):endL m r L=some ((endM L r).take m):=by
 rw [endL]
 by_cases h:gI L.vars r≠0
 ·rw [if_pos h,Z5q,if_pos (ho h)]
  have e:endM L r=decL L r:=if_pos h
  rw [e] at hz ⊢
  exact if_pos hz
 ·rw [if_neg h]
  have e:endM L r=L:=if_neg h
  rw [e] at hz ⊢
  exact if_pos hz
theorem Zzw {L:Led} {m:Nat} {r:Int} (h:gI L.vars r≠0) (ho:¬1≤gI L.own r):endL m r L=none:=by
 rw [endL,if_pos h,Z5q,if_neg ho];rfl
theorem Zfv {L:Led} {m:Nat} {r:Int} (hz:Z30 ((endM L r).own.drop m) ((endM L r).tok.drop m)=false):endL m r L=none:=by
 rw [endL]
 by_cases h:gI L.vars r≠0
 ·rw [if_pos h,Z5q]
  have e:endM L r=decL L r:=if_pos h
  rw [e] at hz
  split
  ·exact if_neg (by rw [hz];simp)
  ·rfl
 ·rw [if_neg h]
  have e:endM L r=L:=if_neg h
  rw [e] at hz
  exact if_neg (by rw [hz];simp)
theorem Zdp {os ts:List Int} {k:Nat} {o t:Int} {r:Bool} (h1:os[k]? = some o) (h2:ts[k]? = some t) (h:o≠0∨0≤t) (hr:Z30 (os.drop k) (ts.drop k)=r):r=false:=by
 rw [Z5 h1,Z5 h2,Z30,if_pos h] at hr;exact hr.symm
theorem Zgb {os ts:List Int} {k:Nat} {o t:Int} {r:Bool} (h1:os[k]? = some o) (h2:ts[k]? = some t) (h:¬(o≠0∨0≤t)) (hr:Z30 (os.drop k) (ts.drop k)=r):Z30 (os.drop (k+1)) (ts.drop (k+1))=r:=by
 rw [Z5 h1,Z5 h2,Z30,if_neg h] at hr;exact hr
theorem Zoj {os ts:List Int} {k:Nat} {r:Bool} (h1:os.length≤k) (hr:Z30 (os.drop k) (ts.drop k)=r):r=true:=by
 rw [Zt h1] at hr;rw [←hr];simp [Z30]
end Go.Abs
namespace Go.Abs
def Zsf (o:List Int) (fs:List Int):List Int:=fs.foldl (fun o f=>o.set f.toNat (gI o f+1)) o
theorem Zzj {p:Int} {xs own:List Int}:Zsf own (Z5b xs p)=addF own p xs:=(Zgz xs p own).symm
theorem Z02u {fs o r:List Int} {k:Nat} {f x:Int} (h:fs[k]? = some f) (hx:gI o f=x) (hr:Zsf o (fs.drop k)=r):Zsf (o.set f.toNat (x+1)) (fs.drop (k+1))=r:=by
 rw [Z5 h,Zsf,List.foldl_cons,hx] at hr;exact hr
theorem Zqn {fs o r:List Int} {k:Nat} (h:fs.length≤k) (hr:Zsf o (fs.drop k)=r):o=r:=by
 rw [Zt h] at hr;exact hr
def cntL (n:Normal) (ln:List Int) (L:Led) (op v:Int):Option Led:=if op=14 then dupL L ln v else if op=15 then Z7q L v else Zax n.decls L op v
section
variable {n:Normal} {ln:List Int} {L:Led} {op v:Int} {am:List Arm} {a:Arm}
theorem Zzm (h:op=14) (ha:¬Z1m L ln v=true):cntL n ln L op v=none:=by rw [cntL,if_pos h,dupL,if_neg ha]
theorem Zzn (h:op=14) (ha:Z1m L ln v=true) {x:Int} (hx:gI L.own v=x):cntL n ln L op v=some { L with own:=L.own.set v.toNat (x+1) }:=by rw [cntL,if_pos h,dupL,if_pos ha,hx]
theorem Zva (h:op=15) (ht:1≤gI L.own v):cntL n ln L op v=some (decL L v):=by rw [cntL,if_neg om,if_pos h,Z5q,if_pos ht]
theorem Zv9 (h:op=15) (ht:¬1≤gI L.own v):cntL n ln L op v=none:=by rw [cntL,if_neg om,if_pos h,Z5q,if_neg ht]
theorem Zqp (h1:¬op=14) (h2:¬op=15):cntL n ln L op v=Zax n.decls L op v:=by rw [cntL,if_neg h1,if_neg h2]
theorem Zti {ds:List Decl} (har:ArmR ds L am) (hv:0≤v∧v<L.vars.length) (ho:ofF am v=none):Zax ds L op v=none:=by
 have:=har.off v hv.1 hv.2
 rw [ho] at this
 rw [Zax,if_pos (.inl this)]
theorem Z00x {ds:List Decl} (har:ArmR ds L am) (hv:0≤v∧v<L.vars.length) (ho:ofF am v=some a) {xt:Int} (hxt:gI L.tok v=xt):Zax ds L op v=if ¬1≤gI L.own v∨(op=17∧xt≥0) then none else
  some { decL L v with own:=addF (decL L v).own a.fst a.fds,tok:=if op=17 then L.tok.set v.toNat a.fds.length else L.tok }:=by
 have:=har.off v hv.1 hv.2
 rw [ho] at this
 obtain ⟨h1,h2,h3⟩:=this
 have hcon:¬gI L.con v<0:=by omega
 rw [Zax,Z5q,hxt,←h2,←h3]
 by_cases ht:1≤gI L.own v
 ·rw [if_pos ht]
  by_cases h17:op=17∧xt≥0
  ·have c1:gI L.con v<0∨(op=17∧0≤xt):=.inr h17
   have c2:¬1≤gI L.own v∨(op=17∧xt≥0):=.inr h17
   rw [if_pos c1,if_pos c2]
  ·have c1:¬(gI L.con v<0∨(op=17∧0≤xt)):=fun q=>q.elim hcon h17
   have c2:¬(¬1≤gI L.own v∨(op=17∧xt≥0)):=fun q=>q.elim (fun z=>z ht) h17
   rw [if_neg c1,if_neg c2]
 ·rw [if_neg ht]
  have c2:¬1≤gI L.own v∨(op=17∧xt≥0):=.inl ht
  rw [if_pos c2]
  split<;>rfl
end
end Go.Abs
namespace Go.Abs
theorem Z05q {ds:List Decl} {L:Led} {q v:Int} (hk:LOk ds L q) (h1:1≤gI L.own v) (hv:0≤v∧v<L.vars.length):∀y∈(decL L v).own,0≤y∧y≤q:=by
 intro y hy
 rcases Z33 hy with hy|rfl
 ·exact ⟨hk.nn y hy,hk.bd y hy⟩
 ·obtain ⟨x,hx⟩:=Z6 (xs:=L.own) (j:=v.toNat) (by have:=hk.len.own;omega)
  have hg:=Z5a hx
  have:=hk.bd x (List.mem_of_getElem? hx)
  omega
end Go.Abs
end
section
namespace Go.Abs
def Z1i (n:Normal) (us:List Int) (op num:Int):List Int→Nat→List Int
 | [],_=>[]
 | a::r,i=>if Zau n us op num a i=true then (i:Int)::Z1i n us op num r (i+1) else Z1i n us op num r (i+1)
section
variable {n:Normal} {us:List Int} {op num:Int}
theorem Ztk {args acc r:List Int} {k:Nat} {a:Int} (h:args[k]? = some a) (hc:Zau n us op num a k=true) (hr:acc++Z1i n us op num (args.drop k) k=r) :
  (acc++[(k:Int)])++Z1i n us op num (args.drop (k+1)) (k+1)=r:=by
 rw [Z5 h,Z1i,if_pos hc] at hr;rw [List.append_assoc];exact hr
theorem Znq {args acc r:List Int} {k:Nat} {a:Int} (h:args[k]? = some a) (hc:¬Zau n us op num a k=true) (hr:acc++Z1i n us op num (args.drop k) k=r) :
  acc++Z1i n us op num (args.drop (k+1)) (k+1)=r:=by
 rw [Z5 h,Z1i,if_neg hc] at hr;exact hr
theorem Ztj {args acc r:List Int} {k:Nat} (h:args.length≤k) (hr:acc++Z1i n us op num (args.drop k) k=r):acc=r:=by
 rw [Zt h,Z1i,List.append_nil] at hr;exact hr
theorem Zbr (h:¬Z2i op=true):∀(args:List Int) (i:Nat),Z1i n us op num args i=[]
 | [],_=>rfl
 | a::r,i=>by
  have hb:Z2i op=false:=by simpa using h
  rw [Z1i,if_neg (by rw [Zau,hb];simp)];exact Zbr h r (i+1)
theorem Zee:∀{args:List Int} {i:Nat} {p:Int},p∈Z1i n us op num args i→(i:Int)≤p∧p<i+args.length
 | [],_,_,h=>by simp [Z1i] at h
 | a::r,i,p,h=>by
  rw [Z1i] at h
  simp only [List.length_cons]
  split at h
  ·rcases List.mem_cons.1 h with rfl|h
   ·omega
   ·have:=Zee h;omega
  ·have:=Zee h;omega
theorem Zjs:∀(args:List Int) (i:Nat),(Z1i n us op num args i).length≤args.length
 | [],_=>by simp [Z1i]
 | a::r,i=>by
  have:=Zjs r (i+1)
  rw [Z1i];split<;>simp<;>omega
theorem Znf (h:¬Z2i op=true) (i:Nat):¬Z2d n op num i=true:=by
 have:op≠9:=fun q=>h (by rw [q];rfl)
 rw [Z2d,Zbo,if_neg this];simp
def Zlw (n:Normal) (op num:Int) (args:List Int) (k:Nat) (ls:List Int):Prop:=∀x,x∈ls↔∃i,i<k∧args[i]? = some x∧Z2d n op num i=true
theorem Zjl {args ls:List Int} {k:Nat} (h:Zlw n op num args k ls) (hl:¬Z2d n op num k=true):Zlw n op num args (k+1) ls:=by
 intro x;rw [h x]
 constructor
 ·rintro ⟨i,q1,q2⟩;exact ⟨i,by omega,q2⟩
 ·rintro ⟨i,q1,q2,q3⟩
  rcases Nat.lt_or_ge i k with q|q
  ·exact ⟨i,q,q2,q3⟩
  ·have:i=k:=by omega
   subst this;exact absurd q3 hl
theorem Zwz {args ls ls2:List Int} {k:Nat} {a:Int} (ha:args[k]? = some a) (h:Zlw n op num args k ls) (hl:Z2d n op num k=true) (h2:∀x,x∈ls2↔x∈ls∨x=a):Zlw n op num args (k+1) ls2:=by
 intro x;rw [h2 x,h x]
 constructor
 ·rintro (⟨i,q1,q2⟩|rfl)
  ·exact ⟨i,by omega,q2⟩
  ·exact ⟨k,by omega,ha,hl⟩
 ·rintro ⟨i,q1,q2,q3⟩
  rcases Nat.lt_or_ge i k with q|q
  ·exact .inl ⟨i,q,q2,q3⟩
  ·have:i=k:=by omega
   subst this;rw [ha] at q2;exact .inr (Option.some.inj q2).symm
theorem Zta {args:List Int}:Zlw n op num args 0 []:=by intro x;simp
theorem Zx0 {args ls:List Int} {k:Nat} (h:Zlw n op num args k ls) (hk:args.length≤k):∀x,x∈ls↔∃i,args[i]? = some x∧Z2d n op num i=true:=by
 intro x;rw [h x]
 constructor
 ·rintro ⟨i,_,q⟩;exact ⟨i,q⟩
 ·rintro ⟨i,q⟩;exact ⟨i,by have:=(List.getElem?_eq_some_iff.1 q.1).1;omega,q⟩
end
def Z85 (args:List Int):List Int→Led→Option Led
 | [],L=>some L
 | k::r,L=>match Z7q L (gI args k) with
  | none=>none
  | some L1=>Z85 args r L1
theorem Z8y {n:Normal} {op num:Int} {all:List Int}:∀{args:List Int} {i:Nat} {L:Led},all.drop i=args→Z3q n op num args i L=Z85 all (Z1i n L.vars op num args i) L
 | [],i,L,_=>rfl
 | a::r,i,L,h=>by
  have hr:all.drop (i+1)=r:=by rw [←List.drop_drop,h];rfl
  have ha:gI all (i:Int)=a:=by
   have:(all.drop i)[0]? = some a:=by rw [h];rfl
   rw [List.getElem?_drop] at this
   exact Z5a (by simpa using this)
  rw [Z3q,Z1i]
  split
  ·rw [Z85,ha]
   cases ht:Z7q L a with
   | none=>rfl
   | some L1=>
    simp only
    rw [Z8y hr,(Z35 ht).2.1]
  ·exact Z8y hr
theorem Z01l {args ps:List Int} {k:Nat} {L:Led} {p x:Int} {r:Option Led} (h:ps[k]? = some p) (hx:gI args p=x) (ht:1≤gI L.own x) (hr:Z85 args (ps.drop k) L=r):Z85 args (ps.drop (k+1)) (decL L x)=r:=by
 rw [Z5 h,Z85,hx,Z5q,if_pos ht] at hr;exact hr
theorem Zu2 {args ps:List Int} {k:Nat} {L:Led} {p x:Int} {r:Option Led} (h:ps[k]? = some p) (hx:gI args p=x) (ht:¬1≤gI L.own x) (hr:Z85 args (ps.drop k) L=r):r=none:=by
 rw [Z5 h,Z85,hx,Z5q,if_neg ht] at hr;exact hr.symm
theorem Zyy {args ps:List Int} {k:Nat} {L:Led} {r:Option Led} (h:ps.length≤k) (hr:Z85 args (ps.drop k) L=r):r=some L:=by
 rw [Zt h,Z85] at hr;exact hr.symm
theorem Z71 {n:Normal} {op num:Int} {ln:List Int} {L:Led} {all:List Int}:∀{args:List Int} {i:Nat},all.drop i=args →
  (Z47 n op num ln L args i=true↔∀j x,i≤j→all[j]? = some x→Z2d n op num j=true→Z1m L ln x=true)
 | [],i,h=>by
  simp only [Z47,true_iff]
  intro j x hj hx _
  have:=(List.getElem?_eq_some_iff.1 hx).1
  have hl:=congrArg List.length h
  simp at hl;omega
 | a::r,i,h=>by
  have hr:all.drop (i+1)=r:=by rw [←List.drop_drop,h];rfl
  have ha:all[i]? = some a:=by
   have:(all.drop i)[0]? = some a:=by rw [h];rfl
   rw [List.getElem?_drop] at this;simpa using this
  rw [Z47]
  split
  ·rename_i q
   simp only [Bool.false_eq_true,false_iff]
   exact fun z=>q.2 (z i a (Nat.le_refl _) ha q.1)
  ·rename_i q
   rw [Z71 hr]
   constructor
   ·intro z j x hj hx hl
    rcases Nat.lt_or_ge i j with hij|hij
    ·exact z j x hij hx hl
    ·have:j=i:=by omega
     subst this;rw [ha] at hx;cases hx
     exact Classical.not_not.1 fun y=>q ⟨hl,y⟩
   ·exact fun z j x hj=>z j x om
theorem Zw3 {n:Normal} {ln:List Int} {L L1:Led} {op num into:Int} {args ls:List Int} (h1:Z85 args (Z1i n L.vars op num args 0) L=some L1) (hl:∀x,x∈ls↔∃i,args[i]? = some x∧Z2d n op num i=true) :
  ((∀x∈ls,Z1m L1 ln x=true)→Z7r n ln L op num into args=Z4z L1 into args.length)∧((∃x∈ls,¬Z1m L1 ln x=true)→Z7r n ln L op num into args=none):=by
 rw [Z7r,Z8y (all:=args) (args:=args) (i:=0) rfl,h1]
 simp only
 constructor
 ·intro h
  rw [if_pos ((Z71 (all:=args) (args:=args) (i:=0) rfl).2 fun j x _ hx hj=>h x ((hl x).2 ⟨j,hx,hj⟩))]
 ·rintro ⟨x,hx,hd⟩
  rw [if_neg]
  intro z
  obtain ⟨j,q1,q2⟩:=(hl x).1 hx
  exact hd ((Z71 (all:=args) (args:=args) (i:=0) rfl).1 z j x (Nat.zero_le _) q1 q2)
theorem Zw4 {n:Normal} {ln:List Int} {L:Led} {op num into:Int} {args:List Int} (h1:Z85 args (Z1i n L.vars op num args 0) L=none):Z7r n ln L op num into args=none:=by
 rw [Z7r,Z8y (all:=args) (args:=args) (i:=0) rfl,h1]
end Go.Abs
namespace Go.Abs
theorem Z06d {n:Normal} (hn:NOk n) (num:Int):(sgI n num).lnt.length≤4194304:=by
 rw [sgI,List.getElem?_map]
 cases h:n.routines[num.toNat]? with
 | none=>simp
 | some r=>exact hn.lent r (List.mem_of_getElem? h)
theorem Zwy {n:Normal} {op num:Int} {k:Nat}:Z2d n op num k=true↔(op=9∧(k:Int)∈(sgI n num).lnt):=by
 rw [Z2d,Zbo,decide_eq_true_iff]
 by_cases h:op=9
 ·rw [if_pos h,sgI,List.getElem?_map]
  cases n.routines[num.toNat]? with
  | none=>simp
  | some r=>simp [h,Z17]
 ·rw [if_neg h];simp [h]
end Go.Abs
namespace Go.Abs
theorem clS {xs:List Int} {p:List Int→Prop}:Ziq fun r h=>∃(vp vl:Value) (ls:List Int),r=.tup [oInt xs vp,oInt ls vl]∧h=[.tail vp 1,.tail vl 1]∧p ls:=by
 rintro _ _ ⟨vp,vl,ls,rfl,rfl,_⟩
 refine ⟨.tup fun y hy=>?_,by simp [Zet]⟩
 simp only [List.mem_cons,List.not_mem_nil,or_false] at hy
 rcases hy with rfl|rfl
 ·exact .own (k:=1) (Zat _) (by simp)
 ·exact .own (k:=1) (Zat _) (by simp)
end Go.Abs
end
section
namespace Go.Abs
section
variable {n:Normal} {ln:List Int}
theorem Zw5 {L L':Led} {op num into q:Int} {args:List Int} {ds:List Decl} (hk:LOk ds L q) (h:Z7r n ln L op num into args=some L'):L'.vars=L.vars∧L'.par=L.par∧L'.con=L.con∧L'.fst=L.fst:=by
 rw [Z7r] at h
 cases ht:Z3q n op num args 0 L with
 | none=>rw [ht] at h;cases h
 | some L1=>
  rw [ht] at h
  obtain ⟨_,h1,h2,h3,h4,_⟩:=Z72 hk ht
  simp only at h
  split at h
  ·rw [Z4z] at h
   split at h
   ·split at h
    ·cases h
    ·cases h;exact ⟨h1,h2,h3,h4⟩
   ·cases h;exact ⟨h1,h2,h3,h4⟩
  ·cases h
theorem Zxm {L L1:Led} {s:Step} {q:Int} {ds:List Decl} (hk:LOk ds L q) (h:Zbp n ln L s.op s.num s.into s.args (Z6w n ln L s.op s.num s.args s.kids)=some L1):L1.vars=L.vars∧L1.par=L.par∧L1.con=L.con∧L1.fst=L.fst:=by
 rw [Zbp] at h
 split at h
 ·obtain ⟨h1,h2,h3,h4,_⟩:=Zgq h;exact ⟨h1,h2,h3,h4⟩
 split at h
 ·obtain ⟨_,h1,h2,h3,h4,_⟩:=Z35 h;exact ⟨h1,h2,h3,h4⟩
 split at h
 ·obtain ⟨h1,h2,h3,h4,_⟩:=Zed h;exact ⟨h1,h2,h3,h4⟩
 split at h
 ·split at h
  ·cases h
  ·cases hks:s.kids with
   | nil=>rw [hks,Z6w] at h;cases h
   | cons b bs=>
    rw [hks,Z6w] at h
    unfold Znj at h
    cases hb:Z39 n ln (kidL n.decls L s.op s.num s.args 0) L.vars.length b with
    | none=>rw [hb] at h;cases h
    | some one=>
     rw [hb] at h
     simp only at h
     split at h
     ·cases h;exact ⟨rfl,rfl,rfl,rfl⟩
     ·cases h
 ·exact Zw5 hk h
theorem Zrx (hn:NOk n) {s:Step} {L L':Led} {q:Int} {am:List Arm} (hk:LOk n.decls L q) (hq:0≤q) (hty:0≤Z7 n L.vars s) (h:Z8w n ln L s=some L') (ha:ArmR n.decls L am):ArmR n.decls L' am:=by
 rw [Zlo] at h
 cases hp:Zbp n ln L s.op s.num s.into s.args (Z6w n ln L s.op s.num s.args s.kids) with
 | none=>rw [hp] at h;cases h
 | some L1=>
  rw [hp] at h
  obtain ⟨h1,h2,h3,h4⟩:=Zxm hk hp
  have hk1:=(Z80 hn hk hq (Z7b hty) hp).1
  have ha1:ArmR n.decls L1 am:=ha.same (by rw [h1]) h2 h3 h4
  rw [finL] at h
  split at h
  ·cases h;exact ha1.grow hk1.len
  ·cases h;exact ha1
theorem Zg8 (hn:NOk n) {am:List Arm}:∀{xs:List Step} {L L':Led} {q:Int} {vs:List Int},LOk n.decls L q→0≤q→ArmR n.decls L am→Z10 n xs L.vars=some vs→Z3c n ln L xs=some L' →
  LOk n.decls L' (q+4*ssz xs)∧L'.vars=vs∧ArmR n.decls L' am
 | [],L,L',q,vs,hk,hq,ha,ht,h=>by
  rw [Z3c] at h;rw [Z10] at ht;cases h;cases ht
  exact ⟨by simpa [ssz] using hk,rfl,ha⟩
 | s::r,L,L',q,vs,hk,hq,ha,ht,h=>by
  rw [Z3c] at h
  cases hs:Z8w n ln L s with
  | none=>rw [hs] at h;cases h
  | some L1=>
   rw [hs] at h
   obtain ⟨g1,g2⟩:=Z8x ht
   obtain ⟨k1,k2⟩:=Zlp hn hk hq g1 hs
   have:=Zg8 hn (xs:=r) k1 (by have:=s.sz_pos;omega) (Zrx hn hk hq g1 hs ha) (by rw [k2];exact g2) h
   refine ⟨?_,this.2⟩
   rw [show q+4*ssz (s::r)=q+4*s.sz+4*ssz r by rw [ssz];omega]
   exact this.1
end
end Go.Abs
namespace Go.Abs
def NLt (n:Normal):Prop:=∀r∈n.routines,∀i:Nat,(i:Int)∈r.lent→∃t,r.params[i]? = some t∧t≠0
theorem Zf4 {ps:List Int}:∀{ls:List Int} {prev:Option Int},Z43 ps ls prev=true→∀v∈ls,(0≤v∧v≤(ps.length:Int)-1)∧ps[v.toNat]?≠some 0
 | [],_,_,v,h=>by cases h
 | x::r,prev,h,v,hv=>by
  rw [Z43] at h
  split at h
  ·rename_i q
   rcases List.mem_cons.1 hv with rfl|hv
   ·exact ⟨q.1,q.2.1⟩
   ·exact Zf4 h v hv
  ·cases h
theorem Zhd:∀{rs:List Routine},Z51 rs=true→∀r∈rs,Z3e r.params r.lent=true
 | [],_,r,h=>by cases h
 | x::rs,h,r,hr=>by
  rw [Z51] at h
  split at h
  ·rcases List.mem_cons.1 hr with rfl|hr
   ·assumption
   ·exact Zhd h r hr
  ·cases h
theorem Zl3 {n:Normal} (h:Z0e n=true):NLt n:=by
 simp only [Z0e,Z2v,Bool.and_eq_true,decide_eq_true_eq] at h
 obtain ⟨_,_,h6⟩:=h
 intro r hr i hi
 obtain ⟨h1,h2⟩:=Zf4 (Zhd h6 r hr) i hi
 obtain ⟨t,ht⟩:=Z6 (xs:=r.params) (j:=i) om
 refine ⟨t,ht,fun q=>h2 ?_⟩
 rw [Int.toNat_natCast,ht,q]
theorem Zga {us:List Int}:∀{args tys:List Int} {i:Nat} {a t:Int},Z25 us args tys=true→args[i]? = some a→tys[i]? = some t→atI us a=some t
 | [],_,i,a,t,_,h,_=>by simp at h
 | x::r,[],i,a,t,_,_,h=>by simp at h
 | x::r,y::ys,i,a,t,h,ha,ht=>by
  rw [Z25] at h
  split at h
  ·rename_i hq
   cases i with
   | zero=>simp at ha ht;subst ha;subst ht;exact hq
   | succ i=>exact Zga h (by simpa using ha) (by simpa using ht)
  ·cases h
theorem Zx2 {n:Normal} (hl:NLt n) {us:List Int} {s:Step} (h:0≤Z7 n us s):∀(i:Nat) (a:Int),s.args[i]? = some a→Z2d n s.op s.num i=true→gI us a≠0:=by
 intro i a ha hla
 rw [Z2d,Zbo,decide_eq_true_iff] at hla
 by_cases h9:s.op=9
 ·rw [if_pos h9] at hla
  have hn:=(Z7b h).num h9
  obtain ⟨r,hr⟩:=Z6 (xs:=n.routines) (j:=s.num.toNat) om
  rw [hr] at hla
  obtain ⟨t,ht,h0⟩:=hl r (List.mem_of_getElem? hr) i hla
  rw [Z3z] at h
  split at h
  ·omega
  rw [if_neg om,if_neg om,if_neg om,if_neg om,if_neg om,if_neg om,if_pos (.inl h9),Z2l,Z6v om hr] at h
  simp only [Z3d] at h
  rw [if_pos h9] at h
  split at h
  ·rename_i hty
   rw [Z1r] at hty
   have hq:atI us a=some t:=by
    first
    | exact Zga hty ha ht
    | exact Zga (Bool.and_eq_true_iff.1 hty).2 ha ht
    | exact Zga (Bool.and_eq_true_iff.1 hty).1 ha ht
   rw [Z5a (Z4y hq).2];exact h0
  ·omega
 ·rw [if_neg h9] at hla;cases hla
end Go.Abs
namespace Go.Abs
theorem Z018 {n:Normal} {us:List Int} {s:Step} (h:∀t∈us,0≤t) (h0:0≤Z7 n us s):∀t∈Za6 n us s,0≤t:=by
 rw [Za6];split
 ·exact Znl h fun t ht=>by rw [List.mem_singleton.1 ht];exact h0
 ·exact h
end Go.Abs
namespace Go.Abs
theorem clT {c:Bool} {ok:Int→Prop}:Ziq fun r h=>∃t:Int,r=.tup [.i t,.b c]∧h=[]∧ok t:=by
 rintro _ _ ⟨t,rfl,rfl,_⟩
 refine ⟨.tup fun y hy=>?_,by simp⟩
 simp only [List.mem_cons,List.not_mem_nil,or_false] at hy
 rcases hy with rfl|rfl<;>exact .val
section
variable {n:Normal} {ln:List Int} {L:Led} {s:Step}
theorem Zst {op t:Int} {r:Option Led} (h:¬Zx op=true):finL L op t r=r:=by
 cases r with
 | none=>rfl
 | some X=>exact if_neg h
theorem Zk3 {x:Int} (hc:Z0q s.op=true) (hx:gI s.args 0=x):Z8w n ln L s=cntL n ln L s.op x:=by
 have hop:14≤s.op∧s.op≤17:=by simpa [Z0q] using hc
 have hd:¬Zx s.op=true:=by rw [Zx];simp;omega
 rw [Z1u,Zst hd,cntL]
 by_cases h14:s.op=14
 ·rw [if_pos h14];exact Zxi h14 hx
 rw [if_neg h14]
 by_cases h15:s.op=15
 ·rw [if_pos h15];exact Zxj h15 hx
 rw [if_neg h15]
 exact Zxk om hx
theorem Zhw {L1:Led} {t:Int} (hP:Zbq n ln L s=some L1) (h0:0≤Z7 n L.vars s) (hnc:¬Z0q s.op=true) (ht:t=Z7 n L.vars s):Z8w n ln L s=some (L1.grow t (min t 1) (-1)):=by
 have hd:Zx s.op=true:=by rw [Zgp h0];simpa using hnc
 rw [Z1u,hP]
 show (if Zx s.op=true then _ else _)=_
 rw [if_pos hd,ht,show (if Z7 n L.vars s≠0 then (1:Int) else 0)=min (Z7 n L.vars s) 1 by split<;>omega]
theorem Zo6 (hP:Zbq n ln L s=none):Z8w n ln L s=none:=by rw [Z1u,hP];rfl
theorem Zl7 (h1:¬Z0q s.op=true) (h2:¬(s.op=7∨s.op=8)):Zbq n ln L s=Z7r n ln L s.op s.num s.into s.args:=by
 have hop:¬(14≤s.op∧s.op≤17):=by simpa [Z0q] using h1
 rw [Zbq,Zbp,if_neg om,if_neg om,if_neg om,if_neg h2]
theorem Zxl (h1:¬Z0q s.op=true) (h2:¬(s.op=7∨s.op=8)) (h3:¬Z2i s.op=true) (h0:0≤Z7 n L.vars s):Zbq n ln L s=some L:=by
 rw [Zl7 h1 h2,Z7r,Z8y (all:=s.args) (args:=s.args) (i:=0) rfl,Zbr h3]
 show (if Z47 n s.op s.num ln L s.args 0=true then Z4z L s.into s.args.length else none)=some L
 rw [if_pos ((Z71 (all:=s.args) (args:=s.args) (i:=0) rfl).2 fun j x _ _ hl=>absurd hl (Znf h3 j)),Z4z]
 have hi:¬0<s.into:=by
  intro hi
  rw [Z3z] at h0
  split at h0
  ·omega
  ·rename_i hq
   have hv:Z15 L.vars s.op s.into=true:=Classical.not_not.1 fun z=>hq (.inr (.inl z))
   rw [Z15,if_neg om] at hv
   split at hv
   ·rename_i h6;exact h3 (by rw [h6];rfl)
   ·cases hv
 rw [if_neg hi]
end
end Go.Abs
namespace Go.Abs
def Z6y (L:Led) (am:List Arm) (s:Step) (m:List Int):List Arm:=if s.op=8 then am++[⟨gI s.args 0,(L.vars.length:Nat),m,false⟩] else am
def Z9r (n:Normal) (L:Led) (s:Step) (k:Nat):Led:=if s.op=8 then { L with con:=L.con.set (gI s.args 0).toNat (gI (Zb n.decls s.num) k),fst:=L.fst.set (gI s.args 0).toNat L.vars.length } else L
theorem Z4m {n:Normal} {L:Led} {s:Step} {k:Nat}:(Z9r n L s k).vars=L.vars:=by rw [Z9r];split<;>rfl
theorem Z79 {n:Normal} {L:Led} {s:Step} {k:Nat}:(Z9r n L s k).own=L.own:=by rw [Z9r];split<;>rfl
theorem Z7a {n:Normal} {L:Led} {s:Step} {k:Nat}:(Z9r n L s k).tok=L.tok:=by rw [Z9r];split<;>rfl
theorem Zk2 {n:Normal} {L:Led} {s:Step} {k:Nat} (h:LLen L):LLen (Z9r n L s k):=by rw [Z9r];split;exact h.arm;exact h
theorem Zhv {n:Normal} {L:Led} {s:Step} {k:Nat} {m:List Int} (hop:s.op=7∨s.op=8) (hm:(Zq n.decls s.op s.num)[k]? = some m):Z6m (Z9r n L s k) (gI s.args 0) m=kidL n.decls L s.op s.num s.args k:=by
 rw [Z9r,kidL]
 by_cases h8:s.op=8
 ·rw [if_pos h8,if_pos h8]
  obtain ⟨c,hc,rfl⟩:=Z02o h8 hm
  have hgc:gI (Zb n.decls s.num) (k:Int)=c:=by rw [gI];simp [hc]
  rw [armL,hgc]
 ·rw [if_neg h8,if_neg h8]
  rw [Zq,if_pos om] at hm
  have:m=[]:=by
   match k,hm with
   | 0,hm=>simpa using hm.symm
   | 1,hm=>simpa using hm.symm
   | k+2,hm=>simp at hm
  rw [this];rfl
theorem Zqf {n:Normal} {L:Led} {am:List Arm} {s:Step} {k:Nat} {m:List Int} (hn:NOk n) (ha:ArmR n.decls L am) (hl:LLen L) (hop:s.op=7∨s.op=8) (hx:0≤gI s.args 0∧gI s.args 0<L.vars.length) (hm:(Zq n.decls s.op s.num)[k]? = some m) :
  ArmR n.decls (kidL n.decls L s.op s.num s.args k) (Z6y L am s m):=by
 rw [Z6y,kidL]
 by_cases h8:s.op=8
 ·rw [if_pos h8,if_pos h8]
  obtain ⟨c,hc,rfl⟩:=Z02o h8 hm
  have hgc:gI (Zb n.decls s.num) (k:Int)=c:=by rw [gI];simp [hc]
  rw [hgc]
  exact ha.arm hl hx (Zmi hn.decls hc).1
 ·rw [if_neg h8,if_neg h8];exact ha
end Go.Abs
namespace Go.Abs
theorem Zdi {n:Normal}:∀{xs:List Step} {us vs:List Int},Z10 n xs us=some vs→us.length≤vs.length∧vs.length≤us.length+ssz xs
 | [],us,vs,h=>by rw [Z10] at h;cases h;simp [ssz]
 | s::r,us,vs,h=>by
  obtain ⟨_,g2⟩:=Z8x h
  have:=Zdi g2
  have h2:=Za7 n us s
  rw [ssz];omega
theorem Zm5 {L:Led} {am:List Arm} {s:Step} {m:List Int}:(Z6y L am s m).length≤am.length+1:=by rw [Z6y];split<;>simp
theorem Zul {n:Normal} (hty:NTy n) {op num:Int} {k:Nat} {m:List Int} (h:(Zq n.decls op num)[k]? = some m):∀f∈m,0≤f:=by
 by_cases h7:op=7
 ·rw [Zq,if_pos h7] at h
  have:m=[]:=by
   match k,h with
   | 0,h=>simpa using h.symm
   | 1,h=>simpa using h.symm
   | k+2,h=>simp at h
  rw [this];intro f hf;cases hf
 ·rw [Zq,if_neg h7,List.getElem?_map] at h
  cases hc:(Zb n.decls num)[k]? with
  | none=>rw [hc] at h;cases h
  | some c=>rw [hc] at h;cases h;exact hty.fields c
theorem Zfu {L:Led} {r:Int}:(endM L r).own.length=L.own.length∧(endM L r).tok.length=L.tok.length∧(endM L r).vars=L.vars:=by
 rw [endM];split
 ·exact ⟨List.length_set,rfl,rfl⟩
 ·exact ⟨rfl,rfl,rfl⟩
end Go.Abs
namespace Go.Abs
theorem Zg9 {L M:Led} {n:Normal} {ln:List Int} {xs:List Step} {f:Led→Option Led} (h:Z3c n ln L xs=some M):Zu3 (Z3c n ln L xs) f=f M:=by rw [h];rfl
end Go.Abs
end
section
namespace Go.Abs
theorem Zoi:∀{os ts:List Int} {m:Nat},os.length=ts.length→(Z30 os ts=true↔Z30 (os.take m) (ts.take m)=true∧Z30 (os.drop m) (ts.drop m)=true)
 | [],[],m,_=>by simp [Z30]
 | [],_::_,_,h=>by simp at h
 | _::_,[],_,h=>by simp at h
 | o::os,t::ts,0,h=>by simp [Z30]
 | o::os,t::ts,m+1,h=>by
  simp only [List.take_succ_cons,List.drop_succ_cons]
  rw [Z30,Z30]
  split
  ·simp
  ·exact Zoi (by simpa using h)
theorem Zf7 {n:Normal} {r:Routine} {M:Led} (hP:Z3c n r.lent (newL r) r.body.steps=some M) (hl:M.own.length=M.tok.length):Z1y n r=(endL 0 r.body.result M).isSome:=by
 rw [Z1y,Z4e,hP]
 show (match endL r.params.length r.body.result M with|none=>false|some L=>(cutL L 0).isSome)=_
 rw [endL,endL]
 cases hT:(if gI M.vars r.body.result≠0 then Z7q M r.body.result else some M) with
 | none=>rfl
 | some M2=>
  have h2:M2.own.length=M2.tok.length:=by
   split at hT
   ·have:=Z35 hT;rw [this.2.2.2.2.2.1,this.2.2.2.2.2.2,List.length_set];exact hl
   ·cases hT;exact hl
  show (match cutL M2 r.params.length with|none=>false|some L=>(cutL L 0).isSome)=(cutL M2 0).isSome
  have key:=Zoi (m:=r.params.length) h2
  rw [cutL,cutL]
  by_cases h1:Z30 (M2.own.drop r.params.length) (M2.tok.drop r.params.length)=true
  ·rw [if_pos h1]
   show (cutL (M2.take r.params.length) 0).isSome=_
   rw [cutL]
   by_cases h3:Z30 (M2.own.take r.params.length) (M2.tok.take r.params.length)=true
   ·rw [if_pos (show Z30 ((M2.take r.params.length).own.drop 0) ((M2.take r.params.length).tok.drop 0)=true from h3),if_pos (show Z30 (M2.own.drop 0) (M2.tok.drop 0)=true from key.2 ⟨h3,h1⟩)];rfl
   ·rw [if_neg (show ¬Z30 ((M2.take r.params.length).own.drop 0) ((M2.take r.params.length).tok.drop 0)=true from h3),if_neg (show ¬Z30 (M2.own.drop 0) (M2.tok.drop 0)=true from fun z=>h3 (key.1 z).1)]
  ·rw [if_neg h1,if_neg (show ¬Z30 (M2.own.drop 0) (M2.tok.drop 0)=true from fun z=>h1 (key.1 z).2)];rfl
theorem Znu {n:Normal} {r:Routine} (hP:Z3c n r.lent (newL r) r.body.steps=none):Z1y n r=false:=by rw [Z1y,Z4e,hP];rfl
end Go.Abs
namespace Go.Abs
theorem Zlf {xs:List Int} {k:Nat} {a b:Int} (h:xs.length=k):(xs++[a]).set k b=xs++[b]:=by subst h;simp
end Go.Abs
namespace Go.Abs
theorem Zzf {ds:List Decl}:ArmR ds ⟨[],[],[],[],[],[]⟩ []:=⟨fun a ha=>(nomatch ha),fun a ha=>(nomatch ha),fun v h0 h1=>(by have h2:v<((0:Nat):Int):=h1;omega),fun v h0 h1=>(by have h2:v<((0:Nat):Int):=h1;omega)⟩
theorem Zjr {ds:List Decl} {lent:List Int}:∀{ps:List Int} {i:Nat} {L:Led},LLen L→ArmR ds L []→ArmR ds (Z5o lent ps i L) []
 | [],_,_,_,h=>h
 | t::r,i,L,hl,h=>by rw [Z5o];exact Zjr hl.grow (h.grow hl)
theorem Zr7 {ds:List Decl} (rt:Routine):ArmR ds (newL rt) []:=Zjr ⟨rfl,rfl,rfl,rfl,rfl⟩ Zzf
end Go.Abs
end
section
namespace Go.Abs
def szL (c:Nat) (left:Int):Int:=if left<c then -1 else left-c
theorem Zhy {a b:Nat} {left:Int} (h:0≤szL a left):szL b (szL a left)=szL (a+b) left:=by
 rw [szL] at h ⊢
 unfold szL at *
 split at h
 ·omega
 ·rename_i q;rw [if_neg q];split<;>split<;>omega
theorem Zi0 {a b:Nat} {left:Int} (h:szL a left<0):szL (a+b) left=-1:=by
 unfold szL at *
 split at h
 ·rw [if_pos om]
 ·omega
theorem Z01h {left:Int} (h:0≤left):szL 0 left=left:=by unfold szL;rw [if_neg om];omega
theorem Zdk {c:Nat} {left:Int} (h:0≤left):-1≤szL c left∧szL c left≤left:=by unfold szL;split<;>omega
def conC (c:Con):Nat:=c.fields.length
def Za1:List Con→Nat
 | []=>0
 | c::r=>conC c+Za1 r
def Z6c (l:List Con):Nat:=l.length+Za1 l
def Z5h (d:Decl):Nat:=Z6c d.cons
def Z7h:List Decl→Nat
 | []=>0
 | d::r=>Z5h d+Z7h r
def Z2x (l:List Decl):Nat:=l.length+Z7h l
end Go.Abs
namespace Go.Abs
theorem Zdl {a b c:Nat} {left lf:Int} {r:Int} (hs:c=a+b) (h:¬szL a lf<0) (hr:szL c lf=r):szL b (szL a lf)=r:=by
 rw [Zhy om,←hs];exact hr
theorem Zhz {a b c:Nat} {lf r:Int} (hs:c=a+b) (h:szL a lf<0) (hr:szL c lf=r):-1=r:=by rw [hs,Zi0 h] at hr;exact hr
theorem Zdj {c:Nat} {lf r:Int} (hc:c=0) (h0:0≤lf) (hr:szL c lf=r):lf=r:=by rw [hc,Z01h h0] at hr;exact hr
theorem Zab {n s:Nat} {left:Int} (h:¬left-(n:Int)<0):szL s (left-(n:Int))=szL (n+s) left:=by
 have:szL n left=left-n:=by unfold szL;rw [if_neg om]
 rw [←this,Zhy (by rw [this];omega)]
theorem Zdm {n s:Nat} {left:Int} (h:left-(n:Int)<0):-1=szL (n+s) left:=by unfold szL;rw [if_pos om]
theorem Zj2 {cs:List Con} {k:Nat} {c:Con} (h:cs[k]? = some c):Za1 (cs.drop k)=conC c+Za1 (cs.drop (k+1)):=by rw [Z5 h,Za1]
theorem Zvf {cs:List Con} {k:Nat} (h:cs.length≤k):Za1 (cs.drop k)=0:=by rw [Zt h,Za1]
theorem Zkf {cs:List Con} {k:Nat} {c:Con} (h:cs[k]? = some c):conC c≤Za1 cs:=by
 induction cs generalizing k with
 | nil=>simp at h
 | cons d r ih=>
  cases k with
  | zero=>simp at h;subst h;rw [Za1];omega
  | succ k=>have:=ih (k:=k) (by simpa using h);rw [Za1];omega
theorem Zgo {cs:List Decl} {k:Nat} {c:Decl} (h:cs[k]? = some c):Z7h (cs.drop k)=Z5h c+Z7h (cs.drop (k+1)):=by rw [Z5 h,Z7h]
theorem Zsm {cs:List Decl} {k:Nat} (h:cs.length≤k):Z7h (cs.drop k)=0:=by rw [Zt h,Z7h]
theorem Zft {cs:List Decl} {k:Nat} {c:Decl} (h:cs[k]? = some c):Z5h c≤Z7h cs:=by
 induction cs generalizing k with
 | nil=>simp at h
 | cons d r ih=>
  cases k with
  | zero=>simp at h;subst h;rw [Z7h];omega
  | succ k=>have:=ih (k:=k) (by simpa using h);rw [Z7h];omega
end Go.Abs
namespace Go.Abs
mutual
def Step.cst:Step→Nat
 | .mk _ _ _ args kids=>args.length+(kids.length+bcs kids)
def Block.cst:Block→Nat
 | .mk steps _=>steps.length+scs steps
def scs:List Step→Nat
 | []=>0
 | s::r=>s.cst+scs r
def bcs:List Block→Nat
 | []=>0
 | b::r=>b.cst+bcs r
end
theorem Step.cst_eq (s:Step):s.cst=s.args.length+(s.kids.length+bcs s.kids):=by cases s;rw [Step.cst];rfl
theorem Block.cst_eq (b:Block):b.cst=b.steps.length+scs b.steps:=by cases b;rw [Block.cst];rfl
def bcsC (l:List Block):Nat:=l.length+bcs l
def scsC (l:List Step):Nat:=l.length+scs l
theorem Zqk {cs:List Block} {k:Nat} {c:Block} (h:cs[k]? = some c):bcs (cs.drop k)=c.cst+bcs (cs.drop (k+1)):=by rw [Z5 h,bcs]
theorem Z02s {cs:List Block} {k:Nat} (h:cs.length≤k):bcs (cs.drop k)=0:=by rw [Zt h,bcs]
theorem Zrr {cs:List Step} {k:Nat} {c:Step} (h:cs[k]? = some c):scs (cs.drop k)=c.cst+scs (cs.drop (k+1)):=by rw [Z5 h,scs]
theorem Z04f {cs:List Step} {k:Nat} (h:cs.length≤k):scs (cs.drop k)=0:=by rw [Zt h,scs]
theorem Zoy {cs:List Block} {k:Nat} {c:Block} (h:cs[k]? = some c):c.cst≤bcs cs:=by
 induction cs generalizing k with
 | nil=>simp at h
 | cons d r ih=>
  cases k with
  | zero=>simp at h;subst h;rw [bcs];omega
  | succ k=>have:=ih (k:=k) (by simpa using h);rw [bcs];omega
theorem Zq0 {cs:List Step} {k:Nat} {c:Step} (h:cs[k]? = some c):c.cst≤scs cs:=by
 induction cs generalizing k with
 | nil=>simp at h
 | cons d r ih=>
  cases k with
  | zero=>simp at h;subst h;rw [scs];omega
  | succ k=>have:=ih (k:=k) (by simpa using h);rw [scs];omega
end Go.Abs
namespace Go.Abs
def rtC (r:Routine):Nat:=r.params.length+(r.lent.length+r.body.cst)
def rtsS:List Routine→Nat
 | []=>0
 | r::rs=>rtC r+rtsS rs
def rtsC (l:List Routine):Nat:=l.length+rtsS l
def Z4l (n:Normal):Nat:=Z2x n.decls+rtsC n.routines
theorem Znw {cs:List Routine} {k:Nat} {c:Routine} (h:cs[k]? = some c):rtsS (cs.drop k)=rtC c+rtsS (cs.drop (k+1)):=by rw [Z5 h,rtsS]
theorem Z014 {cs:List Routine} {k:Nat} (h:cs.length≤k):rtsS (cs.drop k)=0:=by rw [Zt h,rtsS]
theorem Zrn {cs:List Routine} {k:Nat} {c:Routine} (h:cs[k]? = some c):rtC c≤rtsS cs:=by
 induction cs generalizing k with
 | nil=>simp at h
 | cons d r ih=>
  cases k with
  | zero=>simp at h;subst h;rw [rtsS];omega
  | succ k=>have:=ih (k:=k) (by simpa using h);rw [rtsS];omega
theorem Zq5 {a b:Nat} {left:Int} (h:¬szL a left<0):szL b (szL a left)=szL (a+b) left:=Zhy om
theorem Zyv {c:Nat} {left:Int} (h:szL c left<0):-1=szL c left:=by unfold szL at *;split at h<;>first|rfl|omega
end Go.Abs
end
section
namespace Go.Abs
def cntS (op v:Int):Step:=.mk op 0 0 [v] []
def Z3w (ds:List Decl) (num:Int) (k:Nat):List Int:=((Zb ds num).map (Z1 ds))[k]?.getD []
def Z05a (ds:List Decl) (am:List Arm) (m:Nat) (op num:Int) (args:List Int) (k:Nat):List Arm:=if op=8 then am++[⟨gI args 0,(m:Int),Z3w ds num k,false⟩] else am
def lenX (ds:List Decl) (m:Nat) (op num:Int) (k:Nat):Nat:=if op=8 then m+(Z3w ds num k).length else m
section
variable {ds:List Decl} {am:List Arm} {m:Nat}
end
theorem Zbk {ds:List Decl} {num:Int} {k:Nat} {m:List Int} (h:((Zb ds num).map (Z1 ds))[k]? = some m):Z3w ds num k=m:=by rw [Z3w,h];rfl
theorem Zbl {ds:List Decl} (hd:DOk ds) (num:Int) (k:Nat):(Z3w ds num k).length≤3:=by
 rw [Z3w,List.getElem?_map]
 cases (Zb ds num)[k]? with
 | none=>simp
 | some c=>exact Z13 hd c
theorem Z000 (xs ys:List HStep):erSs (xs++ys)=erSs xs++erSs ys:=by simp [Zfx]
theorem Zkk (xs ys:List HBlock):erBs (xs++ys)=erBs xs++erBs ys:=by simp [Zfw]
theorem Z001 (x:HStep):erSs [x]=[x.er]:=by simp [Zfx]
theorem Zkl (x:HBlock):erBs [x]=[x.er]:=by simp [Zfw]
def ASm (am:List Arm) (m:Nat):Prop:=∀a∈am,a.fds.length≤3∧0≤a.fst∧a.fst≤m
theorem ASm.at {am:List Arm} {m:Nat} (h:ASm am m) {v:Int} {a:Arm} (ha:ofF am v=some a):a.fds.length≤3∧0≤a.fst∧a.fst≤m:=h a (Zpr ha).1
theorem ASm.le {am:List Arm} {m k:Nat} (h:ASm am m) (hk:m≤k):ASm am k:=fun a ha=>by have:=h a ha;omega
theorem ASm.x {ds:List Decl} (hd:DOk ds) {am:List Arm} {m k:Nat} (h:ASm am m) (op num:Int) (args:List Int):ASm (Z05a ds am m op num args k) (lenX ds m op num k):=by
 rw [Z05a,lenX]
 split
 ·intro a ha
  rcases List.mem_append.1 ha with ha|ha
  ·have:=h a ha;omega
  ·rw [List.mem_singleton.1 ha]
   have:=Zbl hd num k
   show (Z3w ds num k).length≤3∧0≤(m:Int)∧(m:Int)≤((m+(Z3w ds num k).length:Nat):Int)
   omega
 ·exact h
theorem Zrv {xs:List Step} {k:Nat} {s:Step} (h:xs[k]? = some s):ssz (xs.take (k+1))=ssz (xs.take k)+s.sz:=by
 induction xs generalizing k with
 | nil=>simp at h
 | cons t r ih=>
  cases k with
  | zero=>simp at h;subst h;simp [ssz]
  | succ k=>rw [List.take_succ_cons,List.take_succ_cons,ssz,ssz,ih (by simpa using h)];omega
theorem Zhu (xs:List Step) (k:Nat):ssz (xs.take k)≤ssz xs:=by
 induction xs generalizing k with
 | nil=>simp
 | cons t r ih=>
  cases k with
  | zero=>simp [ssz]
  | succ k=>have:=ih k;rw [List.take_succ_cons,ssz,ssz];omega
theorem Z03q {n:Normal} {us:List Int} {s:Step} (g:0≤Z7 n us s) (h:0<s.kids.length):s.op=7∨s.op=8:=by
 rw [Z3z] at g
 split at g
 ·omega
 ·rename_i q
  exact Classical.byContradiction fun z=>q (.inr (.inr ⟨h,fun e=>z (.inl e),fun e=>z (.inr e)⟩))
end Go.Abs
end
section
namespace Go.Abs
theorem Z4q (ys:List HDecl):(flat (Z1d ys)).length=ys.length*3:=by rw [Z1f _ (Zbi _)];simp
theorem Ze1 (ys:List HCon):(flat (Z2n ys)).length=ys.length:=by rw [Z1f _ (Zdy _)];simp
theorem Zmt (ys:List Decl):(flat (Z0i ys)).length=ys.length*3:=by rw [Z1f _ (Z76 _)];simp
theorem Zvz (ys:List Con):(flat (Z37 ys)).length=ys.length:=by rw [Z1f _ (Zcd _)];simp
theorem Zsw {ds:List Decl} {k:Nat} {d:Decl} (h:ds[k]? = some d):flat (Z0i (ds.drop k))=Z2g d++flat (Z0i (ds.drop (k+1))):=by rw [Z5 h];rfl
theorem Zsv {ds:List Con} {k:Nat} {d:Con} (h:ds[k]? = some d):flat (Z37 (ds.drop k))=lCon d++flat (Z37 (ds.drop (k+1))):=by rw [Z5 h];rfl
theorem Zjt {ys:List HDecl} {ds:List Decl} {k:Nat} {d:Decl} (h:ds[k]? = some d):flat (Z1d ys++Z0i (ds.drop k))=flat (Z1d ys)++(Z2g d++flat (Z0i (ds.drop (k+1)))):=by
 rw [Z2q,Zsw h]
theorem Ztn {ys:List HCon} {ds:List Con} {k:Nat} {d:Con} (h:ds[k]? = some d):flat (Z2n ys++Z37 (ds.drop k))=flat (Z2n ys)++(lCon d++flat (Z37 (ds.drop (k+1)))):=by
 rw [Z2q,Zsv h]
theorem Zrk {ys:List HDecl} {ds:List Decl} {k:Nat} (h:ys.length=k) (hk:k≤ds.length):(flat (Z1d ys++Z0i (ds.drop k))).length=ds.length*3:=by
 rw [Z2q,List.length_append,Z4q,Zmt,List.length_drop];omega
theorem Zrj {ys:List HCon} {ds:List Con} {k:Nat} (h:ys.length=k) (hk:k≤ds.length):(flat (Z2n ys++Z37 (ds.drop k))).length=ds.length*1:=by
 rw [Z2q,List.length_append,Ze1,Zvz,List.length_drop];omega
theorem Zxz {ys:List HDecl} {ds:List Decl} {k:Nat} {f t:Int} {zs:List HCon} {u:Value}:flat (Z1d ys)++([.i f,.i t,Zfk zs u]++flat (Z0i (ds.drop (k+1))))=flat (Z1d (ys++[HDecl.mk f t zs u])++Z0i (ds.drop (k+1))):=by
 rw [Zb3,Z2q,Z2q,List.append_assoc];rfl
theorem Zxy {ys:List HCon} {ds:List Con} {k:Nat} {xs:List Int} {u:Value}:flat (Z2n ys)++([oInt xs u]++flat (Z37 (ds.drop (k+1))))=flat (Z2n (ys++[HCon.mk xs u])++Z37 (ds.drop (k+1))):=by
 rw [Zce,Z2q,Z2q,List.append_assoc];rfl
theorem Z012 {ys:List HDecl} {ds:List Decl} {k:Nat} (h:ds.length≤k):flat (Z1d ys++Z0i (ds.drop k))=flat (Z1d ys):=by rw [Zt h];simp [Z0i]
theorem Z011 {ys:List HCon} {ds:List Con} {k:Nat} (h:ds.length≤k):flat (Z2n ys++Z37 (ds.drop k))=flat (Z2n ys):=by rw [Zt h];simp [Z37]
theorem Z013 {A B:List AV} {x y z x':AV} {o:Nat} (hA:A.length=o):(A++([x,y,z]++B)).take (o+2)++[x']++(A++([x,y,z]++B)).drop (o+2+1)=A++([x,y,x']++B):=by
 have h:=Z6q (A:=A++[x,y]) (xs:=[z]) (ys:=[x']) (B:=B) (o:=o+2) (by simp [hA]) rfl
 simpa using h
theorem Zpu {A B:List AV} {x y z:AV} {o:Nat} (hA:A.length=o):((A++([x,y,z]++B)).drop (o+2)).take 1=[z]:=by
 have h:=Zld (A:=A++[x,y]) (xs:=[z]) (B:=B) (o:=o+2) (by simp [hA])
 simpa using h
theorem Znv {A B:List AV} {x y z x':AV} {o:Nat} (hA:A.length=o):(A++([x,y,z]++B)).set (o+2) x'=A++([x,y,x']++B):=by
 subst hA
 rw [List.set_append_right _ _ om]
 simp
theorem Zua {f t:Int} {zs:List HCon} {u:Value} {cs:List Con} (h:zs.map HCon.er=cs):[HDecl.mk f t zs u].map HDecl.er=[Decl.mk f t cs]:=by
 rw [←h];rfl
theorem HBlock.eta (y:HBlock):HBlock.mk y.steps y.sv y.result=y:=by cases y;rfl
theorem Z03t {xs:List HRoutine} {rs:List Routine} {g:Routine→Routine} {k:Nat} {r:Routine} {R:HRoutine} (h:xs.map HRoutine.er=(rs.take k).map g) (hr:rs[k]? = some r) (hy:R.er=g r) :
  (xs++[R]).map HRoutine.er=(rs.take (k+1)).map g:=by
 rw [List.map_append,h,Z1l hr,List.map_append,List.map_cons,hy];rfl
end Go.Abs
end
section
namespace Go.Abs
theorem Zv8 (op v:Int):(cntS op v).sz=2:=by rw [cntS,Step.sz];simp [bsz]
section
variable {ds:List Decl} (hd:DOk ds)
include hd
end
def noN:Normal:=⟨[],[]⟩
theorem Z64 {n:Normal} (hz:NSz n) (h:Z1x n=true):NOk n∧Z0e n=true∧∀r∈n.routines,0≤Zf n r.params r.body:=by
 rw [Z1x,Bool.and_eq_true] at h
 obtain ⟨h1,h2⟩:=Z4t hz h.1
 rw [Z05,Bool.and_eq_true] at h
 exact ⟨h1,h.1.1,h2⟩
end Go.Abs
end
section
namespace Go.Abs
def Zpq (n:Nat):List Int:=(List.range n).map Int.ofNat
theorem Znm (n:Nat):(Zpq n).length=n:=by simp [Zpq]
theorem Z00q (n:Nat):∀f∈Zpq n,0≤f∧f≤n:=by
 intro f hf
 simp only [Zpq,List.mem_map,List.mem_range] at hf
 obtain ⟨a,ha,rfl⟩:=hf
 show 0≤(a:Int)∧(a:Int)≤n
 omega
section
variable {ds:List Decl} {cons first:List Int}
end
def FSm (first:List Int):Prop:=∀f∈first,0≤f∧f≤1000000000
theorem FSm.at {first:List Int} (h:FSm first) (v:Int):0≤gI first v∧gI first v≤1000000000:=by
 rw [gI]
 cases hq:first[v.toNat]? with
 | none=>simp
 | some x=>exact h x (List.mem_of_getElem? hq)
theorem FSm.x {first:List Int} (h:FSm first) {x m k:Nat} (hm:m≤1000000000) (hk:k≤1000000000):FSm (first.set x (m:Int)++Zpq k):=by
 intro f hf
 rcases List.mem_append.1 hf with hf|hf
 ·rcases Z33 hf with hf|rfl
  ·exact h f hf
  ·omega
 ·have:=Z00q k f hf;omega
section
variable {ds:List Decl} (hd:DOk ds)
include hd
end
end Go.Abs
end
section
namespace Go.Abs
section
variable {n:Normal} {ln:List Int} {L:Led}
end
structure CR (L:Led) (cons first:List Int):Prop where
 cl:cons.length=L.vars.length
 fl:first.length=L.vars.length
 eq:∀v:Int,0≤v→v<L.vars.length→0≤gI L.con v→gI cons v=gI L.con v∧gI first v=gI L.fst v
theorem CR.same {L L1:Led} {cons first:List Int} (h:CR L cons first) (h0:L1.vars.length=L.vars.length) (h1:L1.con=L.con) (h2:L1.fst=L.fst):CR L1 cons first:=
 ⟨h.cl.trans h0.symm,h.fl.trans h0.symm,by rw [h0,h1,h2];exact h.eq⟩
theorem CR.grow {L L1:Led} {cons first:List Int} {x y:Int} (h:CR L cons first) (hl:LLen L) (h0:L1.vars.length=L.vars.length+1) (h1:L1.con=L.con++[-1]) (h2:L1.fst=L.fst++[-1]):CR L1 (cons++[x]) (first++[y]):=by
 obtain ⟨e1,e2,e3,e4,e5⟩:=hl
 have hcl:=h.cl
 have hfl:=h.fl
 refine ⟨by simp;omega,by simp;omega,fun v hv1 hv2 hv3=>?_⟩
 rw [h1] at hv3 ⊢
 rw [h2]
 by_cases hlt:v<L.vars.length
 ·rw [Z5r om] at hv3
  rw [Z5r om,Z5r om,Z5r om,Z5r om]
  exact h.eq v hv1 hlt hv3
 ·rw [Zqz om] at hv3
  omega
theorem CR.arm {ds:List Decl} {L:Led} {cons first:List Int} {x c:Int} (h:CR L cons first) (hl:LLen L) (hx:0≤x∧x<L.vars.length) :
  CR (armL ds L x c) (cons.set x.toNat c++Zpq (Z1 ds c).length) (first.set x.toNat (cons.length:Nat)++Zpq (Z1 ds c).length):=by
 obtain ⟨e1,e2,e3,e4,e5⟩:=hl
 have hcl:=h.cl
 have hfl:=h.fl
 rw [armL,Zai]
 refine ⟨by simp [Znm];omega,by simp [Znm];omega,fun v hv1 hv2 hv3=>?_⟩
 have hv2:v<((L.vars++Z1 ds c).length:Nat):=hv2
 rw [List.length_append] at hv2
 have hv3:0≤gI (L.con.set x.toNat c++List.replicate (Z1 ds c).length (-1)) v:=hv3
 show gI (cons.set x.toNat c++_) v=gI (L.con.set x.toNat c++List.replicate (Z1 ds c).length (-1)) v∧gI (first.set x.toNat (cons.length:Nat)++_) v=gI (L.fst.set x.toNat L.vars.length++List.replicate (Z1 ds c).length (-1)) v
 by_cases hlt:v<L.vars.length
 ·rw [Z5r (by rw [List.length_set];omega)] at hv3
  rw [Z5r (by rw [List.length_set];omega),Z5r (by rw [List.length_set];omega),Z5r (by rw [List.length_set];omega),Z5r (by rw [List.length_set];omega)]
  by_cases he:v=x
  ·subst he
   rw [Z5j rfl om,Z5j rfl om,Z5j rfl om,Z5j rfl om,hcl]
   exact ⟨rfl,rfl⟩
  ·rw [Z4u om] at hv3
   rw [Z4u om,Z4u om,Z4u om,Z4u om]
   exact h.eq v hv1 hlt hv3
 ·rw [Zr0 (by rw [List.length_set];omega)] at hv3
  omega
end Go.Abs
end
section
namespace Go.Abs
theorem Zar {A:List AV} {zs:List AV} {a n k q:Nat} (hA:A.length=k*q) (hk:k≤n) (hz:zs.length=q):(A++(List.replicate (n-k) zs).flatten).length=n*q:=by
 have h1:n*q=k*q+(n-k)*q:=by rw [←Nat.add_mul];congr 1;omega
 simp only [List.length_append,List.length_flatten,List.map_replicate,List.sum_replicate_nat,hA,hz]
 omega
theorem Z78 {A:List AV} {zs:List AV} {n k:Nat} (hk:k<n):A++(List.replicate (n-k) zs).flatten=A++(zs++(List.replicate (n-(k+1)) zs).flatten):=by
 rw [show n-k=(n-(k+1))+1 by omega,List.replicate_succ,List.flatten_cons]
theorem Zaq {A:List AV} {zs:List AV} {n k:Nat} (hk:n≤k):A++(List.replicate (n-k) zs).flatten=A:=by
 rw [show n-k=0 by omega];simp
theorem Zmu (ys:List Int):(flat (Z8 ys)).length=ys.length*1:=by rw [Z1f _ (Z11 _)];simp
theorem Zj9 (ys:List HStep):(flat (Z28 ys)).length=ys.length*5:=by rw [Z1f _ (Zbj _)];simp
theorem Zj7 (ys:List HBlock):(flat (Z1c ys)).length=ys.length*2:=by rw [Z1f _ (Z6e _)];simp
theorem Zj8 (ys:List HRoutine):(flat (Z0x ys)).length=ys.length*5:=by rw [Z1f _ (Z65 _)];simp
theorem Zgx (ys:List HCon):(flat (Z2n ys)).length=ys.length*1:=by rw [Ze1];omega
theorem Zy0 {xs:List Int} {k:Nat} {x:Int} {B:List AV} (h:xs[k]? = some x):flat (Z8 (xs.take k))++([AV.i x]++B)=flat (Z8 (xs.take (k+1)))++B:=by
 rw [Z1l h,Z29,Z2q,List.append_assoc];rfl
theorem Ztp {ys:List HCon} {y:HCon} {B:List AV}:flat (Z2n ys)++(Znb y++B)=flat (Z2n (ys++[y]))++B:=by rw [Zce,Z2q,List.append_assoc];rfl
theorem Ztq {ys:List HDecl} {y:HDecl} {B:List AV}:flat (Z1d ys)++(Zf2 y++B)=flat (Z1d (ys++[y]))++B:=by rw [Zb3,Z2q,List.append_assoc];rfl
theorem Ztr {ys:List HRoutine} {y:HRoutine} {B:List AV}:flat (Z0x ys)++(Z6g y++B)=flat (Z0x (ys++[y]))++B:=by rw [Z8j,Z2q,List.append_assoc];rfl
theorem Zts {ys:List HStep} {y:HStep} {B:List AV}:flat (Z28 ys)++(Zf3 y++B)=flat (Z28 (ys++[y]))++B:=by
 rw [Zb4,Z2q,List.append_assoc,Z5x [y]];rfl
theorem Zto {ys:List HBlock} {y:HBlock} {B:List AV}:flat (Z1c ys)++(Z7m y++B)=flat (Z1c (ys++[y]))++B:=by
 rw [Z5i,Z2q,List.append_assoc,Z41 [y]];rfl
theorem Zcy {α β:Type} {f:α→β} {ys:List α} {xs:List β} {k:Nat} {x:β} {y:α} (h:ys.map f=xs.take k) (hx:xs[k]? = some x) (hy:f y=x):(ys++[y]).map f=xs.take (k+1):=by
 rw [List.map_append,h,Z1l hx,←hy];rfl
end Go.Abs
end
section
namespace Go.Abs
theorem Zqc (g:Nat):∀(n k:Nat),k<n→adI g k (n-k)=(g,k)::adI g (k+1) (n-(k+1)):=by
 intro n k h
 rw [show n-k=(n-(k+1))+1 by omega,adI]
theorem Zbe (g:Nat):∀(n o:Nat),(adI g o n).length=n
 | 0,_=>rfl
 | n+1,o=>by rw [adI,List.length_cons,Zbe g n]
theorem Zgg {cs:List HCon} {k:Nat} {c:HCon} (h:cs[k]? = some c):Z2w (cs.drop k)=Zzb c++Z2w (cs.drop (k+1)):=by rw [Z5 h,Z2w]
theorem Zeu {g:Nat} {cs:List HDecl} {k:Nat} {c:HDecl} (h:cs[k]? = some c):Z12 g (k*3) (cs.drop k)=Zgh g (k*3) c++Z12 g ((k+1)*3) (cs.drop (k+1)):=by
 rw [Z5 h,Z12,show k*3+3=(k+1)*3 by omega]
theorem Zex {g:Nat} {cs:List HStep} {k:Nat} {c:HStep} (h:cs[k]? = some c):Ze g (k*5) (cs.drop k)=Z8g g (k*5) c++Ze g ((k+1)*5) (cs.drop (k+1)):=by
 rw [Z5 h,Ze,show k*5+5=(k+1)*5 by omega]
theorem Zc7 {g:Nat} {cs:List HBlock} {k:Nat} {c:HBlock} (h:cs[k]? = some c):Z07 g (k*2) (cs.drop k)=Z5s g (k*2) c++Z07 g ((k+1)*2) (cs.drop (k+1)):=by
 rw [Z5 h,Z07,show k*2+2=(k+1)*2 by omega]
theorem Z9v {g:Nat} {cs:List HRoutine} {k:Nat} {c:HRoutine} (h:cs[k]? = some c):Z0h g (k*5) (cs.drop k)=Z5d g (k*5) c++Z0h g ((k+1)*5) (cs.drop (k+1)):=by
 rw [Z5 h,Z0h,show k*5+5=(k+1)*5 by omega]
section
variable {N:Mem} {g o:Nat} {z:Int}
theorem Z053 {d:HDecl}:wr N (Zgh g o d) z=wr (upd (upd N (g,o) z) (g,o+1) (z+1)) (Z2w d.cons) (z+1+1):=by rw [Zgh,wr,wr]
theorem Z01t {s:HStep}:wr N (Z8g g o s) z=wr (wr (upd (upd (upd N (g,o) z) (g,o+1) (z+1)) (g,o+2) (z+1+1)) (adI (vblk s.av) 0 s.args.length) (z+1+1+1)) (Z07 (vblk s.kv) 0 s.kids) (z+1+1+1+(adI (vblk s.av) 0 s.args.length).length):=by
 rw [Zgi,wr,wr,wr,Zfc]
theorem Zz8 {b:HBlock}:wr N (Z5s g o b) z=upd (wr N (Ze (vblk b.sv) 0 b.steps) z) (g,o+1) (z+(Ze (vblk b.sv) 0 b.steps).length):=by
 rw [Zdq,Zfc,wr,wr]
theorem Zq9 {r:HRoutine}:wr N (Z5d g o r) z=upd (wr (upd (wr (wr N (adI (vblk r.pv) 0 r.params.length) z) (adI (vblk r.lv) 0 r.lent.length) (z+(adI (vblk r.pv) 0 r.params.length).length)) (g,o+2) (z+(adI (vblk r.pv) 0 r.params.length).length+(adI (vblk r.lv) 0 r.lent.length).length))
  (Ze (vblk r.body.sv) 0 r.body.steps) (z+(adI (vblk r.pv) 0 r.params.length).length+(adI (vblk r.lv) 0 r.lent.length).length+1)) (g,o+4) (z+(adI (vblk r.pv) 0 r.params.length).length+(adI (vblk r.lv) 0 r.lent.length).length+1+(Ze (vblk r.body.sv) 0 r.body.steps).length):=by
 rw [Z5d,Zfc,Zfc,wr,Zfc,wr,wr]
theorem Zg3 {d:HDecl}:(Zgh g o d).length=(Z2w d.cons).length+2:=by simp [Zgh]
theorem Zkz {s:HStep}:(Z8g g o s).length=(adI (vblk s.av) 0 s.args.length).length+(Z07 (vblk s.kv) 0 s.kids).length+3:=by rw [Zgi];simp
theorem Zhc {b:HBlock}:(Z5s g o b).length=(Ze (vblk b.sv) 0 b.steps).length+1:=by rw [Zdq];simp
theorem Z99 {r:HRoutine}:(Z5d g o r).length=(adI (vblk r.pv) 0 r.params.length).length+(adI (vblk r.lv) 0 r.lent.length).length+(Ze (vblk r.body.sv) 0 r.body.steps).length+2:=by rw [Z5d];simp;omega
theorem Zwa {d:HDecl} (h:hold N (Zgh g o d) z):N g o=some (.int .i64 z)∧N g (o+1)=some (.int .i64 (z+1))∧hold N (Z2w d.cons) (z+1+1):=h
theorem Zwb {s:HStep} (h:hold N (Z8g g o s) z):N g o=some (.int .i64 z)∧N g (o+1)=some (.int .i64 (z+1))∧N g (o+2)=some (.int .i64 (z+1+1))∧hold N (adI (vblk s.av) 0 s.args.length) (z+1+1+1) ∧
  hold N (Z07 (vblk s.kv) 0 s.kids) (z+1+1+1+(adI (vblk s.av) 0 s.args.length).length):=by
 rw [Zgi] at h
 obtain ⟨h1,h2,h3,h4⟩:=h
 obtain ⟨h5,h6⟩:=(Z50 _ _ _ _).1 h4
 exact ⟨h1,h2,h3,h5,h6⟩
theorem Zt1 {b:HBlock} (h:hold N (Z5s g o b) z):hold N (Ze (vblk b.sv) 0 b.steps) z∧N g (o+1)=some (.int .i64 (z+(Ze (vblk b.sv) 0 b.steps).length)):=by
 rw [Zdq] at h
 obtain ⟨h5,h6⟩:=(Z50 _ _ _ _).1 h
 exact ⟨h5,h6.1⟩
theorem Zmz {r:HRoutine} (h:hold N (Z5d g o r) z):hold N (adI (vblk r.pv) 0 r.params.length) z∧hold N (adI (vblk r.lv) 0 r.lent.length) (z+(adI (vblk r.pv) 0 r.params.length).length) ∧
  N g (o+2)=some (.int .i64 (z+(adI (vblk r.pv) 0 r.params.length).length+(adI (vblk r.lv) 0 r.lent.length).length)) ∧
  hold N (Ze (vblk r.body.sv) 0 r.body.steps) (z+(adI (vblk r.pv) 0 r.params.length).length+(adI (vblk r.lv) 0 r.lent.length).length+1) ∧
  N g (o+4)=some (.int .i64 (z+(adI (vblk r.pv) 0 r.params.length).length+(adI (vblk r.lv) 0 r.lent.length).length+1+(Ze (vblk r.body.sv) 0 r.body.steps).length)):=by
 rw [Z5d] at h
 obtain ⟨h1,h2⟩:=(Z50 _ _ _ _).1 h
 obtain ⟨h3,h4,h5⟩:=(Z50 _ _ _ _).1 h2
 obtain ⟨h6,h7⟩:=(Z50 _ _ _ _).1 h5
 exact ⟨h1,h3,h4,h6,h7.1⟩
end
end Go.Abs
end
section
namespace Go.Abs
theorem Zr1 {xs:List HStep} {k:Nat} {x:HStep} (h:xs[k]? = some x):SizeOf.sizeOf x.kids<SizeOf.sizeOf xs:=by
 have h1:=List.sizeOf_lt_of_mem (List.mem_of_getElem? h)
 cases x
 simp only [HStep.mk.sizeOf_spec,HStep.kids] at h1 ⊢
 omega
theorem Zn0 {xs:List HBlock} {k:Nat} {x:HBlock} (h:xs[k]? = some x):SizeOf.sizeOf x.steps<SizeOf.sizeOf xs:=by
 have h1:=List.sizeOf_lt_of_mem (List.mem_of_getElem? h)
 cases x
 simp only [HBlock.mk.sizeOf_spec,HBlock.steps] at h1 ⊢
 omega
theorem Zds {g:Nat}:∀{o:Nat} {ds:List HDecl},ds.length≤(Z12 g o ds).length
 | _,[]=>Nat.le_refl _
 | o,d::r=>by
  have:=Zds (g:=g) (o:=o+3) (ds:=r)
  have h2:=Zg3 (g:=g) (o:=o) (d:=d)
  rw [Z12,List.length_append,List.length_cons]
  omega
theorem Zdt {g:Nat}:∀{o:Nat} {xs:List HStep},xs.length≤(Ze g o xs).length
 | _,[]=>Nat.zero_le _
 | o,d::r=>by
  have:=Zdt (g:=g) (o:=o+5) (xs:=r)
  have h2:=Zkz (g:=g) (o:=o) (s:=d)
  rw [Ze,List.length_append,List.length_cons]
  omega
theorem Zbc {g:Nat}:∀{o:Nat} {xs:List HBlock},xs.length≤(Z07 g o xs).length
 | _,[]=>Nat.zero_le _
 | o,d::r=>by
  have:=Zbc (g:=g) (o:=o+2) (xs:=r)
  have h2:=Zhc (g:=g) (o:=o) (b:=d)
  rw [Z07,List.length_append,List.length_cons]
  omega
theorem Z8z {g:Nat}:∀{o:Nat} {xs:List HRoutine},xs.length≤(Z0h g o xs).length
 | _,[]=>Nat.le_refl _
 | o,d::r=>by
  have:=Z8z (g:=g) (o:=o+5) (xs:=r)
  have h2:=Z99 (g:=g) (o:=o) (r:=d)
  rw [Z0h,List.length_append,List.length_cons]
  omega
theorem Zoh {N N':Mem} {W:Mem} {A B C:List Adr} {z z':Int} (h:wr N A z=W) (hd:A=B++C) (hw:wr N B z=N') (hz:z'=z+(B.length:Nat)):wr N' C z'=W:=by
 subst hd hw hz
 rw [←h,Zfc]
theorem Zcm {N:Mem} {C:List Adr} {z z':Int} (h:hold N C z') (hz:z=z'):hold N C z:=hz▸h
theorem Zea {y:HNormal}:(Z09 y).length=(Z12 (vblk y.dv) 0 y.decls).length+(Z0h (vblk y.rv) 0 y.routines).length:=by rw [Z09,List.length_append]
theorem Zz9 {M:Mem} {y:HNormal} {q:Int}:wr (wr M (Z12 (vblk y.dv) 0 y.decls) q) (Z0h (vblk y.rv) 0 y.routines) (q+((Z12 (vblk y.dv) 0 y.decls).length:Nat))=wr M (Z09 y) q:=by rw [Z09,Zfc]
end Go.Abs
end
section
namespace Go.Abs
mutual
theorem Step.sz_cst:∀s:Step,s.sz=s.cst+1
 | .mk _ _ _ args kids=>by rw [Step.sz,Step.cst,Zuw kids];omega
theorem Block.sz_cst:∀b:Block,b.sz=b.cst+1
 | .mk steps _=>by rw [Block.sz,Block.cst,Zym steps];omega
theorem Zym:∀xs:List Step,ssz xs=xs.length+scs xs
 | []=>by rw [ssz,scs];rfl
 | s::r=>by rw [ssz,scs,Zym r,s.sz_cst,List.length_cons];omega
theorem Zuw:∀xs:List Block,bsz xs=xs.length+bcs xs
 | []=>by rw [bsz,bcs];rfl
 | s::r=>by rw [bsz,bcs,Zuw r,s.sz_cst,List.length_cons];omega
end
theorem Zvg {cs:List Con} {c:Con} (h:c∈cs):conC c≤Za1 cs:=let ⟨_,hk⟩:=List.getElem?_of_mem h;Zkf hk
theorem Zdx {cs:List Decl} {c:Decl} (h:c∈cs):Z5h c≤Z7h cs:=let ⟨_,hk⟩:=List.getElem?_of_mem h;Zft hk
theorem Zle {cs:List Routine} {c:Routine} (h:c∈cs):rtC c≤rtsS cs:=let ⟨_,hk⟩:=List.getElem?_of_mem h;Zrn hk
theorem Z062 {n:Normal} (h:Z4l n≤4194304):NSz n:=by
 unfold Z4l Z2x rtsC at h
 refine ⟨⟨by omega,fun d hd=>?_,fun d hd c hc=>?_⟩,by omega,fun r hr=>?_,fun r hr=>?_,fun r hr=>?_⟩
 ·have:=Zdx hd;unfold Z5h Z6c at this;omega
 ·have:=Zdx hd;have h2:=Zvg hc;unfold Z5h Z6c at this;unfold conC at h2;omega
 ·have:=Zle hr;unfold rtC at this;omega
 ·have:=Zle hr;unfold rtC at this;omega
 ·have:=Zle hr;unfold rtC at this;have:=r.body.sz_cst;omega
theorem Zqb:∀cs:List HCon,(Z2w cs).length=Za1 (cs.map HCon.er)
 | []=>rfl
 | c::r=>by
  rw [Z2w,List.length_append,Zqb r,List.map_cons,Za1]
  show (adI (vblk c.fv) 0 c.fields.length).length+_=c.fields.length+_
  rw [Zbe]
theorem Zm0 {g:Nat}:∀(o:Nat) (ds:List HDecl),(Z12 g o ds).length≤3*Z2x (ds.map HDecl.er)
 | _,[]=>Nat.zero_le _
 | o,d::r=>by
  have h1:=Zm0 (g:=g) (o+3) r
  have h2:=Zg3 (g:=g) (o:=o) (d:=d)
  rw [Z12,List.length_append,h2,Zqb]
  unfold Z2x at h1 ⊢
  rw [List.map_cons,Z7h,List.length_cons]
  have h3:Z5h d.er=d.cons.length+Za1 (d.cons.map HCon.er):=by unfold Z5h Z6c HDecl.er;simp
  omega
mutual
theorem Zzc {g o:Nat}:∀s:HStep,(Z8g g o s).length≤3*s.er.sz
 | .mk op num into args av kids kv=>by
  have h1:=Zir (g:=vblk kv) (o:=0) kids
  rw [Z8g,HStep.er,Step.sz]
  simp only [List.length_cons,List.length_append,Zbe]
  omega
theorem Zug {g o:Nat}:∀s:HBlock,(Z5s g o s).length≤3*s.er.sz
 | .mk steps sv result=>by
  have h1:=Zgj (g:=vblk sv) (o:=0) steps
  rw [Z5s,HBlock.er,Block.sz]
  simp only [List.length_cons,List.length_append,List.length_nil]
  omega
theorem Zgj {g o:Nat}:∀xs:List HStep,(Ze g o xs).length≤3*ssz (erSs xs)
 | []=>by rw [Ze];exact Nat.zero_le _
 | s::r=>by
  have h1:=Zzc (g:=g) (o:=o) s
  have h2:=Zgj (g:=g) (o:=o+5) r
  rw [Ze,erSs,ssz,List.length_append]
  omega
theorem Zir {g o:Nat}:∀xs:List HBlock,(Z07 g o xs).length≤3*bsz (erBs xs)
 | []=>by rw [Z07];exact Nat.zero_le _
 | s::r=>by
  have h1:=Zug (g:=g) (o:=o) s
  have h2:=Zir (g:=g) (o:=o+2) r
  rw [Z07,erBs,bsz,List.length_append]
  omega
end
theorem Zew {g:Nat}:∀(o:Nat) (rs:List HRoutine),(Z0h g o rs).length≤3*rtsC (rs.map HRoutine.er)
 | _,[]=>Nat.zero_le _
 | o,r::rs=>by
  have h1:=Zew (g:=g) (o+5) rs
  have h2:=Z99 (g:=g) (o:=o) (r:=r)
  have h3:=Zgj (g:=vblk r.body.sv) (o:=0) r.body.steps
  have h4:r.body.er.sz=1+ssz (erSs r.body.steps):=by cases hb:r.body;rw [HBlock.er,Block.sz];rfl
  rw [Block.sz_cst] at h4
  rw [Z0h,List.length_append,h2,Zbe,Zbe]
  unfold rtsC at h1 ⊢
  rw [List.map_cons,rtsS,List.length_cons]
  have h5:rtC r.er=r.params.length+(r.lent.length+r.body.er.cst):=rfl
  omega
theorem Zit (y:HNormal):(Z09 y).length≤3*Z4l y.er:=by
 have h1:=Zm0 (g:=vblk y.dv) 0 y.decls
 have h2:=Zew (g:=vblk y.rv) 0 y.routines
 rw [Zea]
 have:Z4l y.er=Z2x (y.decls.map HDecl.er)+rtsC (y.routines.map HRoutine.er):=rfl
 omega
theorem Z023 {y:HNormal}:∀d∈y.decls,d.cons.length≤Z4l y.er:=by
 intro d hd
 have h1:=Zdx (List.mem_map_of_mem (f:=HDecl.er) hd)
 have h2:Z5h d.er=d.cons.length+Za1 (d.cons.map HCon.er):=by unfold Z5h Z6c HDecl.er;simp
 have:Z4l y.er=y.decls.length+Z7h (y.decls.map HDecl.er)+rtsC (y.routines.map HRoutine.er):=by show Z2x (y.decls.map HDecl.er)+rtsC (y.routines.map HRoutine.er)=_;unfold Z2x;simp
 omega
end Go.Abs
end
section
namespace Go.Abs
open Go.Proofs Go.Proofs.YtjneabekegkopaaGreat
section
variable {H:Type} {enc:TypeId × Value→H} {w:World}
def GA (w:World):Prot:=fun b _=>b<w.heap.size
abbrev Tr (enc:TypeId × Value→H) (w:World) (n:Nat) (t:TypeId) (cs:List Value) (x:DataW H × List MemPlace):Prop:=DataW.trod enc Tryz.prog w 0 (fun _=>true) true n t cs=some x
theorem Zjn {w:World} {a:Addr} {v:Value} (h:w.cell? a=some v):a.block<w.heap.size∧a.spot=none:=by
 unfold World.cell? at h
 split at h
 ·rename_i c e fr hb
  split at h
  ·cases h
  ·rename_i hs
   exact ⟨(Array.getElem?_eq_some_iff.1 hb).1,by simpa using hs⟩
 ·cases h
theorem Zqm {α:Type} {c:α→Nat}:∀{xs:List α} {ds:List (DataW H)},xs.length=ds.length→(∀(i:Nat) a d,xs[i]? = some a→ds[i]? = some d→c a+1≤Rows.uptoBulk d)→(xs.map fun a=>c a+1).sum≤Rows.uptoBulkAll ds
 | [],[],_,_=>Nat.le_refl _
 | a::r,d::ds,hl,h=>by
  have h0:=h 0 a d rfl rfl
  have h1:=Zqm (c:=c) (xs:=r) (ds:=ds) (by simpa using hl) fun i a d ha hd=>h (i+1) a d (by simpa using ha) (by simpa using hd)
  rw [List.map_cons,List.sum_cons,Rows.uptoBulkAll]
  omega
theorem Zxu {α:Type} {f:α→AV} {G:Prot} {k b:Nat} (hf:∀x,(f x).leaves.length=k):∀{xs:List α} {o:Nat},(∀(i:Nat) a,xs[i]? = some a→RMem w G b (o+i*k) (f a).leaves)→REls w G k b o (xs.map f)
 | [],_,_=>.nil
 | x::r,o,h=>by
  refine .cons (hf x) (by have:=h 0 x rfl;simpa using this) (Zxu hf fun i a ha=>?_)
  have:=h (i+1) a (by simpa using ha)
  rw [show o+(i+1)*k=o+k+i*k by rw [Nat.add_mul];omega] at this
  exact this
theorem Zao {α:Type} [Inhabited α] {t e k:Nat} (ht:Tryz.prog.underlying t=some (.slice e)) (hk:Tryz.prog.cellsOf e=k) (h0:0<k) (f:α→AV) (hf:∀x,(f x).leaves.length=k) (c:α→Nat) (Q:α→Prop) {n:Nat} {cs:List Value} {x:DataW H × List MemPlace}
  (h:Tr enc w n t cs x) (el:∀m cs y,m<n→Tr enc w m e cs y→∃a:α,RCs w (GA w) (f a).leaves cs∧c a+1≤Rows.uptoBulk y.1∧Q a) :
  ∃(v:Value) (xs:List α),cs=[v]∧RV w (GA w) (.sl (xs.map f) none) v∧(xs.map fun a=>c a+1).sum+1≤Rows.uptoBulk x.1∧∀a∈xs,Q a:=by
 rcases DataW.trod_slice ht h with ⟨rfl,rfl⟩|⟨a,len,cap,elems,rest,m,rfl,rfl,rfl,_,hlc,_,hlen,hel,_,_⟩
 ·exact ⟨_,[],rfl,.nil (by simp),by simp [Rows.uptoBulk],by simp⟩
 ·rw [hk] at hel
  have hone:∀i,i<len→∃z:α,∃cs' y,w.cells? 0 (a.add (i*k)) k=some cs'∧elems[i]? = some y∧RCs w (GA w) (f z).leaves cs'∧c z+1≤Rows.uptoBulk y.1∧Q z:=by
   intro i hi
   have h1:=hel i hi
   rw [List.getElem?_eq_getElem om] at h1
   obtain ⟨cs',h2,h3⟩:=Option.bind_eq_some_iff.1 h1
   obtain ⟨z,hz1,hz2,hz3⟩:=el m cs' _ om h3
   exact ⟨z,cs',_,h2,List.getElem?_eq_getElem om,hz1,hz2,hz3⟩
  obtain ⟨V,hV⟩:=Go.Deep.choose_lt hone
  refine ⟨_,(List.range len).map V,rfl,?_,?_,?_⟩
  ·cases hl0:len with
   | zero=>exact .nil (by simp)
   | succ q=>
    have hsp:a.spot=none:=by
     obtain ⟨cs',y,g1,_⟩:=hV 0 om
     obtain ⟨_,g2,g3⟩:=World.cells?_some g1
     have g4:=g3 0 h0
     rw [List.getElem?_eq_getElem om] at g4
     have g5:=(Zjn g4).2
     simpa [Addr.add] using g5
    obtain ⟨b,o,sp⟩:=a
    simp only at hsp
    subst hsp
    rw [←hl0]
    have hll:(((List.range len).map V).map f).length=len:=by simp
    have:=RV.sl (w:=w) (G:=GA w) (es:=((List.range len).map V).map f) (hv:=none) (b:=b) (o:=o) (k:=k) (cap:=cap) (by simp) (by rw [hll];exact hlc) (Zxu hf fun i z hz=>by
     have hi:i<len:=by have:=(List.getElem?_eq_some_iff.1 hz).1;simpa using this
     have hz':V i=z:=by simpa [hi] using hz
     obtain ⟨cs',y,g1,_,g2,_⟩:=hV i hi
     rw [hz'] at g2
     obtain ⟨_,g3,g4⟩:=World.cells?_some g1
     refine RMem.of_cells g2 fun j u hj=>?_
     have hjl:j<k:=by have:=(List.getElem?_eq_some_iff.1 hj).1;omega
     have g5:=(g4 j hjl).trans hj
     rw [Addr.add_lit,Addr.add_lit] at g5
     exact ⟨g5,(Zjn g5).1⟩)
    rw [hll] at this
    exact this
  ·have:=Zqm (c:=c) (xs:=(List.range len).map V) (ds:=elems.map (·.1)) (by simp [hlen]) fun i z d hz hd=>by
    have hi:i<len:=by have:=(List.getElem?_eq_some_iff.1 hz).1;simpa using this
    have hz':V i=z:=by simpa [hi] using hz
    obtain ⟨cs',y,_,g1,_,g2,_⟩:=hV i hi
    rw [List.getElem?_map,g1] at hd
    simp only [Option.map_some,Option.some.injEq] at hd
    rw [←hd,←hz']
    exact g2
   simp only [Rows.uptoBulk]
   omega
  ·intro z hz
   obtain ⟨i,hi,rfl⟩:=List.mem_map.1 hz
   obtain ⟨_,_,_,_,_,_,g⟩:=hV i (List.mem_range.1 hi)
   exact g
theorem Zf6 {n:Nat} {cs:List Value} {x:DataW H × List MemPlace} (h:Tr enc w n 3 cs x):∃z:Int,cs=[.int .i64 z]∧Rows.uptoBulk x.1=1∧-9223372036854775808≤z∧z≤9223372036854775807:=by
 obtain ⟨z,rfl,rfl,hw⟩:=DataW.trod_int Tryz.underlying3 h
 refine ⟨z,rfl,rfl,?_⟩
 simpa [Lit.wf,IntKind.min,IntKind.max,IntKind.signed,IntKind.bits] using hw
theorem Zry:∀xs:List Int,(xs.map fun _=>0+1).sum=xs.length
 | []=>rfl
 | _::r=>by rw [List.map_cons,List.sum_cons,Zry r,List.length_cons];omega
theorem Zlc {n:Nat} {cs:List Value} {x:DataW H × List MemPlace} (h:Tr enc w n 49 cs x):∃(v:Value) (xs:List Int),cs=[v]∧RV w (GA w) (nInt xs) v∧xs.length+1≤Rows.uptoBulk x.1:=by
 obtain ⟨v,xs,h1,h2,h3,_⟩:=Zao Tryz.underlying49 (k:=1) kr om (fun z:Int=>AV.i z) (fun _=>rfl) (fun _=>0) (fun _=>True) h fun m cs y _ hy=>by
  obtain ⟨z,rfl,hb,_⟩:=Zf6 hy
  exact ⟨z,.cons .val .nil,Nat.le_of_eq hb.symm,trivial⟩
 have hs:=Zry xs
 exact ⟨v,xs,h1,h2,by omega⟩
theorem Z063 {β:Type} {v:List β} (h:v.length=1):∃a,v=[a]:=by cases v with|nil=>simp at h|cons a r=>cases r with|nil=>exact ⟨a,rfl⟩|cons _ _=>simp at h
instance:Inhabited Con:=⟨⟨[]⟩⟩
instance:Inhabited Decl:=⟨⟨0,0,[]⟩⟩
instance:Inhabited Step:=⟨.mk 0 0 0 [] []⟩
instance:Inhabited Block:=⟨.mk [] 0⟩
instance:Inhabited Routine:=⟨⟨[],[],0,.mk [] 0⟩⟩
theorem fld {n:Nat} {cs:List Value} {fs:Array Field} {xs:List (DataW H × List MemPlace)} (hf:∀(i:Nat) (f:Field),fs[i]? = some f→DataW.trod enc Tryz.prog w 0 (fun _=>true) true n f.type ((cs.drop f.offset).take (Tryz.prog.cellsOf f.type))=xs[i]?)
  (i:Nat) (f:Field) (hi:fs[i]? = some f) {y:DataW H × List MemPlace} (hy:xs[i]? = some y) (k:Nat) (hk:Tryz.prog.cellsOf f.type=k):Tr enc w n f.type ((cs.drop f.offset).take k) y:=by
 subst hk
 exact (hf i f hi).trans hy
theorem c49:Tryz.prog.cellsOf 49=1:=by kernel_rfl
theorem c3:Tryz.prog.cellsOf 3=1:=by kernel_rfl
theorem Z068 {n:Nat} {cs:List Value} {x:DataW H × List MemPlace} (h:Tr enc w n 166 cs x):∃a:Con,RCs w (GA w) (lCon a) cs∧conC a+1≤Rows.uptoBulk x.1:=by
 obtain ⟨ys,m,rfl,rfl,hl,hyl,hf⟩:=DataW.trod_struct Tryz.underlying166 h
 have hl:cs.length=1:=hl.trans kr
 obtain ⟨v,rfl⟩:=Z063 hl
 obtain ⟨y0,rfl⟩:∃y0,ys=[y0]:=Z063 hyl
 have h0:Tr enc w m 49 [v] y0:=fld hf 0 _ rfl rfl 1 c49
 obtain ⟨v',xs,e,h2,h3⟩:=Zlc h0
 cases e
 refine ⟨⟨xs⟩,.cons h2 .nil,?_⟩
 simp only [Rows.uptoBulk,Rows.uptoBulkAll,List.map_cons,List.map_nil]
 show xs.length+1≤_
 omega
theorem c66:Tryz.prog.cellsOf 66=1:=by kernel_rfl
theorem c70:Tryz.prog.cellsOf 70=1:=by kernel_rfl
theorem c201:Tryz.prog.cellsOf 201=1:=by kernel_rfl
theorem c72:Tryz.prog.cellsOf 72=2:=by kernel_rfl
theorem c22:Tryz.prog.cellsOf 22=1:=by kernel_rfl
theorem c23:Tryz.prog.cellsOf 23=1:=by kernel_rfl
theorem Z00n {β:Type} {v:List β} (h:v.length=2):∃a b,v=[a,b]:=by
 match v,h with
 | [a,b],_=>exact ⟨a,b,rfl⟩
theorem Z05y {β:Type} {v:List β} (h:v.length=3):∃a b c,v=[a,b,c]:=by
 match v,h with
 | [a,b,c],_=>exact ⟨a,b,c,rfl⟩
theorem Z06z {β:Type} {v:List β} (h:v.length=4):∃a b c d,v=[a,b,c,d]:=by
 match v,h with
 | [a,b,c,d],_=>exact ⟨a,b,c,d,rfl⟩
theorem Z03r {β:Type} {v:List β} (h:v.length=5):∃a b c d e,v=[a,b,c,d,e]:=by
 match v,h with
 | [a,b,c,d,e],_=>exact ⟨a,b,c,d,e,rfl⟩
theorem sum_cons:∀cs:List Con,(cs.map fun a=>conC a+1).sum=Z6c cs
 | []=>rfl
 | c::r=>by rw [List.map_cons,List.sum_cons,sum_cons r];unfold Z6c;rw [Za1,List.length_cons];omega
theorem Zo7:∀cs:List Decl,(cs.map fun a=>Z5h a+1).sum=Z2x cs
 | []=>rfl
 | c::r=>by rw [List.map_cons,List.sum_cons,Zo7 r];unfold Z2x;rw [Z7h,List.length_cons];omega
theorem Zo8:∀cs:List Step,(cs.map fun a=>a.cst+1).sum=scsC cs
 | []=>by unfold scsC;rw [scs];rfl
 | c::r=>by rw [List.map_cons,List.sum_cons,Zo8 r];unfold scsC;rw [scs,List.length_cons];omega
theorem Zk4:∀cs:List Block,(cs.map fun a=>a.cst+1).sum=bcsC cs
 | []=>by unfold bcsC;rw [bcs];rfl
 | c::r=>by rw [List.map_cons,List.sum_cons,Zk4 r];unfold bcsC;rw [bcs,List.length_cons];omega
theorem Zfb:∀cs:List Routine,(cs.map fun a=>rtC a+1).sum=rtsC cs
 | []=>rfl
 | c::r=>by rw [List.map_cons,List.sum_cons,Zfb r];unfold rtsC;rw [rtsS,List.length_cons];omega
theorem Z044 {n:Nat} {cs:List Value} {x:DataW H × List MemPlace} (h:Tr enc w n 66 cs x):∃(v:Value) (xs:List Con),cs=[v]∧RV w (GA w) (nCon xs) v∧Z6c xs+1≤Rows.uptoBulk x.1:=by
 obtain ⟨v,xs,h1,h2,h3,_⟩:=Zao Tryz.underlying66 (k:=1) kr om aCon (fun _=>rfl) conC (fun _=>True) h fun m cs y _ hy=>by
  obtain ⟨a,h1,h2⟩:=Z068 hy
  exact ⟨a,h1,h2,trivial⟩
 rw [sum_cons] at h3
 exact ⟨v,xs,h1,h2,h3⟩
theorem Z045 {n:Nat} {cs:List Value} {x:DataW H × List MemPlace} (h:Tr enc w n 68 cs x):∃a:Decl,RCs w (GA w) (Z2g a) cs∧Z5h a+1≤Rows.uptoBulk x.1:=by
 obtain ⟨ys,m,rfl,rfl,hl,hyl,hf⟩:=DataW.trod_struct Tryz.underlying68 h
 have hl:cs.length=3:=hl.trans kr
 obtain ⟨v0,v1,v2,rfl⟩:=Z05y hl
 obtain ⟨y0,y1,y2,rfl⟩:∃a b c,ys=[a,b,c]:=Z05y hyl
 obtain ⟨z0,e0,b0,_⟩:=Zf6 (show Tr enc w m 3 [v0] y0 from fld hf 0 _ rfl rfl 1 c3)
 obtain ⟨z1,e1,b1,_⟩:=Zf6 (show Tr enc w m 3 [v1] y1 from fld hf 1 _ rfl rfl 1 c3)
 obtain ⟨u2,xs,e2,h2,b2⟩:=Z044 (show Tr enc w m 66 [v2] y2 from fld hf 2 _ rfl rfl 1 c66)
 cases e0;cases e1;cases e2
 refine ⟨⟨z0,z1,xs⟩,.cons .val (.cons .val (.cons h2 .nil)),?_⟩
 simp only [Rows.uptoBulk,Rows.uptoBulkAll,List.map_cons,List.map_nil]
 show Z6c xs+1≤_
 omega
theorem Z00z {n:Nat} {cs:List Value} {x:DataW H × List MemPlace} (h:Tr enc w n 22 cs x):∃(v:Value) (xs:List Decl),cs=[v]∧RV w (GA w) (Z2 xs) v∧Z2x xs+1≤Rows.uptoBulk x.1:=by
 obtain ⟨v,xs,h1,h2,h3,_⟩:=Zao Tryz.underlying22 (k:=3) kr om Z2s (fun _=>rfl) Z5h (fun _=>True) h fun m cs y _ hy=>by
  obtain ⟨a,h1,h2⟩:=Z045 hy
  exact ⟨a,h1,h2,trivial⟩
 rw [Zo7] at h3
 exact ⟨v,xs,h1,h2,h3⟩
theorem Zyk:∀{xs:List Step},(∀a∈xs,a.rng)→srng xs
 | [],_=>by rw [srng];trivial
 | x::r,h=>by rw [srng];exact ⟨h x (List.mem_cons_self ..),Zyk fun a ha=>h a (List.mem_cons_of_mem _ ha)⟩
theorem Zuv:∀{xs:List Block},(∀a∈xs,a.rng)→brng xs
 | [],_=>by rw [brng];trivial
 | x::r,h=>by rw [brng];exact ⟨h x (List.mem_cons_self ..),Zuv fun a ha=>h a (List.mem_cons_of_mem _ ha)⟩
theorem Z043:∀(n:Nat),(∀{cs:List Value} {x:DataW H × List MemPlace},Tr enc w n 203 cs x→∃a:Step,RCs w (GA w) (Z02 a) cs∧a.cst+1≤Rows.uptoBulk x.1∧a.rng) ∧
  (∀{cs:List Value} {x:DataW H × List MemPlace},Tr enc w n 72 cs x→∃a:Block,RCs w (GA w) (Z03 a) cs∧a.cst+1≤Rows.uptoBulk x.1∧a.rng):=by
 intro n
 induction n using Nat.strongRecOn with
 | ind n ih=>
  refine ⟨fun {cs x} h=>?_,fun {cs x} h=>?_⟩
  ·obtain ⟨ys,m,rfl,rfl,hl,hyl,hf⟩:=DataW.trod_struct Tryz.underlying203 h
   have hl:cs.length=5:=hl.trans kr
   obtain ⟨v0,v1,v2,v3,v4,rfl⟩:=Z03r hl
   obtain ⟨y0,y1,y2,y3,y4,rfl⟩:∃a b c d e,ys=[a,b,c,d,e]:=Z03r hyl
   obtain ⟨z0,e0,b0,_⟩:=Zf6 (show Tr enc w m 3 [v0] y0 from fld hf 0 _ rfl rfl 1 c3)
   obtain ⟨z1,e1,b1,r1⟩:=Zf6 (show Tr enc w m 3 [v1] y1 from fld hf 1 _ rfl rfl 1 c3)
   obtain ⟨z2,e2,b2,_⟩:=Zf6 (show Tr enc w m 3 [v2] y2 from fld hf 2 _ rfl rfl 1 c3)
   obtain ⟨u3,xs,e3,h3,b3⟩:=Zlc (show Tr enc w m 49 [v3] y3 from fld hf 3 _ rfl rfl 1 c49)
   obtain ⟨u4,bs,e4,h4,b4,q4⟩:=Zao Tryz.underlying201 (k:=2) c72 om Za (fun _=>rfl) Block.cst Block.rng (show Tr enc w m 201 [v4] y4 from fld hf 4 _ rfl rfl 1 c201) fun m' cs y hm hy=>(ih m' om).2 hy
   cases e0;cases e1;cases e2;cases e3;cases e4
   rw [Zk4] at b4
   refine ⟨.mk z0 z1 z2 xs bs,.cons .val (.cons .val (.cons .val (.cons h3 (.cons (by rw [←Z4f] at h4;exact h4) .nil)))),?_,?_⟩
   ·simp only [Rows.uptoBulk,Rows.uptoBulkAll,List.map_cons,List.map_nil]
    rw [Step.cst]
    unfold bcsC at b4
    omega
   ·rw [Step.rng]
    exact ⟨r1,Zuv q4⟩
  ·obtain ⟨ys,m,rfl,rfl,hl,hyl,hf⟩:=DataW.trod_struct Tryz.underlying72 h
   have hl:cs.length=2:=hl.trans c72
   obtain ⟨v0,v1,rfl⟩:=Z00n hl
   obtain ⟨y0,y1,rfl⟩:∃a b,ys=[a,b]:=Z00n hyl
   obtain ⟨u0,xs,e0,h0,b0,q0⟩:=Zao Tryz.underlying70 (k:=5) kr om Z0g (fun _=>rfl) Step.cst Step.rng (show Tr enc w m 70 [v0] y0 from fld hf 0 _ rfl rfl 1 c70) fun m' cs y hm hy=>(ih m' om).1 hy
   obtain ⟨z1,e1,b1,_⟩:=Zf6 (show Tr enc w m 3 [v1] y1 from fld hf 1 _ rfl rfl 1 c3)
   cases e0;cases e1
   rw [Zo8] at b0
   refine ⟨.mk xs z1,.cons (by rw [←Z31] at h0;exact h0) (.cons .val .nil),?_,?_⟩
   ·simp only [Rows.uptoBulk,Rows.uptoBulkAll,List.map_cons,List.map_nil]
    rw [Block.cst]
    unfold scsC at b0
    omega
   ·rw [Block.rng]
    exact Zyk q0
theorem Ztl {n:Nat} {cs:List Value} {x:DataW H × List MemPlace} (h:Tr enc w n 74 cs x):∃a:Routine,RCs w (GA w) (Z1s a) cs∧rtC a+1≤Rows.uptoBulk x.1∧a.body.rng:=by
 obtain ⟨ys,m,rfl,rfl,hl,hyl,hf⟩:=DataW.trod_struct Tryz.underlying74 h
 have hl:cs.length=5:=hl.trans kr
 obtain ⟨v0,v1,v2,v3,v4,rfl⟩:=Z03r hl
 obtain ⟨y0,y1,y2,y3,rfl⟩:∃a b c d,ys=[a,b,c,d]:=Z06z hyl
 obtain ⟨u0,ps,e0,h0,b0⟩:=Zlc (show Tr enc w m 49 [v0] y0 from fld hf 0 _ rfl rfl 1 c49)
 obtain ⟨u1,ls,e1,h1,b1⟩:=Zlc (show Tr enc w m 49 [v1] y1 from fld hf 1 _ rfl rfl 1 c49)
 obtain ⟨z2,e2,b2,_⟩:=Zf6 (show Tr enc w m 3 [v2] y2 from fld hf 2 _ rfl rfl 1 c3)
 obtain ⟨b,h3,b3,q3⟩:=(Z043 m).2 (show Tr enc w m 72 [v3,v4] y3 from fld hf 3 _ rfl rfl 2 c72)
 cases e0;cases e1;cases e2
 refine ⟨⟨ps,ls,z2,b⟩,.cons h0 (.cons h1 (.cons .val h3)),?_,q3⟩
 simp only [Rows.uptoBulk,Rows.uptoBulkAll,List.map_cons,List.map_nil]
 show ps.length+(ls.length+b.cst)+1≤_
 omega
theorem Zxt {n:Nat} {cs:List Value} {x:DataW H × List MemPlace} (h:Tr enc w n 25 cs x):∃a:Normal,RCs w (GA w) (Zh a) cs∧Z4l a≤Rows.uptoBulk x.1∧∀r∈a.routines,r.body.rng:=by
 obtain ⟨ys,m,rfl,rfl,hl,hyl,hf⟩:=DataW.trod_struct Tryz.underlying25 h
 have hl:cs.length=2:=hl.trans kr
 obtain ⟨v0,v1,rfl⟩:=Z00n hl
 obtain ⟨y0,y1,rfl⟩:∃a b,ys=[a,b]:=Z00n hyl
 obtain ⟨u0,ds,e0,h0,b0⟩:=Z00z (show Tr enc w m 22 [v0] y0 from fld hf 0 _ rfl rfl 1 c22)
 obtain ⟨u1,rs,e1,h1,b1,q1⟩:=Zao Tryz.underlying23 (k:=5) kr om Z0s (fun _=>rfl) rtC (fun r=>r.body.rng) (show Tr enc w m 23 [v1] y1 from fld hf 1 _ rfl rfl 1 c23) fun m' cs y hm hy=>Ztl hy
 cases e0;cases e1
 rw [Zfb] at b1
 refine ⟨⟨ds,rs⟩,.cons h0 (.cons h1 .nil),?_,q1⟩
 simp only [Rows.uptoBulk,Rows.uptoBulkAll,List.map_cons,List.map_nil]
 show Z2x ds+rtsC rs≤_
 omega
end
end Go.Abs
end
section
namespace Go.Abs
def Cn (s:Step):Prop:=s=cntS s.op (gI s.args 0)
end Go.Abs
end
section
namespace Go.Abs
section
variable {ds:List Decl} {m:Nat}
end
mutual
def wS (ds:List Decl):Step→Prop
 | .mk op num into args kids=>(Zx op=!Z0q op)∧(Z0q op=true→num=0∧into=0∧kids=[]∧∃a,args=[a])∧(op=8→(∃a,args=[a]∧0≤a∧a≤900000000)∧kids.length=(Zb ds num).length)∧wBs ds kids
def wBs (ds:List Decl):List Block→Prop
 | []=>True
 | b::r=>wB ds b∧wBs ds r
def wSs (ds:List Decl):List Step→Prop
 | []=>True
 | s::r=>wS ds s∧wSs ds r
def wB (ds:List Decl):Block→Prop
 | .mk steps _=>wSs ds steps
end
section
variable {ds:List Decl}
theorem Zu9 (s:Step):wS ds s↔(Zx s.op=!Z0q s.op)∧(Z0q s.op=true→s.num=0∧s.into=0∧s.kids=[]∧∃a,s.args=[a])∧(s.op=8→(∃a,s.args=[a]∧0≤a∧a≤900000000)∧s.kids.length=(Zb ds s.num).length)∧wBs ds s.kids:=by cases s;rw [wS];rfl
theorem Zlv (b:Block):wB ds b↔wSs ds b.steps:=by cases b;rw [wB];rfl
theorem Zc2:∀{xs:List Step},wSs ds xs↔∀s∈xs,wS ds s
 | []=>by simp [wSs]
 | s::r=>by rw [wSs,Zc2];simp
theorem Zz7:∀{xs:List Block},wBs ds xs↔∀s∈xs,wB ds s
 | []=>by simp [wBs]
 | s::r=>by rw [wBs,Zz7];simp
theorem Z06m {b:Block} {k:Nat} {s:Step} (h:wB ds b) (hs:b.steps[k]? = some s):wS ds s:=Zc2.1 ((Zlv b).1 h) s (List.mem_of_getElem? hs)
theorem Z02f {s:Step} {k:Nat} {b:Block} (h:wS ds s) (hb:s.kids[k]? = some b):wB ds b:=Zz7.1 ((Zu9 s).1 h).2.2.2 b (List.mem_of_getElem? hb)
theorem Z02e {s:Step} (h:wS ds s) (hc:Z0q s.op=true):Cn s∧s.kids=[]∧∃a,s.args=[a]:=by
 obtain ⟨h1,h2,h3,a,h4⟩:=((Zu9 s).1 h).2.1 hc
 refine ⟨?_,h3,a,h4⟩
 cases s with
 | mk op num into args kids=>
  simp only [Step.num,Step.into,Step.kids,Step.args] at h1 h2 h3 h4
  subst h1 h2 h3 h4
  rfl
theorem Z9i {s:Step} (h:wS ds s) (h8:s.op=8):(∃a,s.args=[a]∧0≤a∧a≤900000000)∧s.kids.length=(Zb ds s.num).length:=((Zu9 s).1 h).2.2.1 h8
theorem Zs4 {xs:List Step} (h:wSs ds xs):∀s∈xs,Z0q s.op=true→Cn s:=fun s hs hc=>(Z02e (Zc2.1 h s hs) hc).1
end
section
variable {n:Normal}
theorem Z00p {us:List Int} {s:Step} (g:0≤Z7 n us s) (h:Z0q s.op=true):s.num=0∧s.into=0∧s.kids=[]:=by
 have ho:14≤s.op∧s.op≤17:=by simpa [Z0q] using h
 rw [Z3z] at g
 split at g
 ·omega
 ·rename_i q
  refine ⟨Classical.byContradiction fun z=>q (.inl ⟨z,?_⟩),Classical.byContradiction fun z=>q (.inr (.inl ?_)),Classical.byContradiction fun z=>q (.inr (.inr ⟨List.length_pos_iff.2 z,by omega,by omega⟩))⟩
  ·rw [Z20];simp;omega
  ·rw [Z15,if_neg z,if_neg om];simp
mutual
theorem Z07a:∀(s:Step) {us:List Int},us.length+4*s.sz≤900000000→DOk n.decls→0≤Z7 n us s→wS n.decls s
 | .mk op num into args kids,us,hu,hd,g=>by
  have hf:=Z7b g
  rw [wS]
  refine ⟨Zgp g,fun hc=>?_,fun h8=>?_,?_⟩
  ·obtain ⟨h1,h2,h3⟩:=Z00p g hc
   have ho:14≤op∧op≤17:=by simpa [Z0q] using hc
   exact ⟨h1,h2,h3,hf.one (.inr (.inr ho))⟩
  ·obtain ⟨k1,k2,k3⟩:=hf.kids (.inr h8)
   obtain ⟨a,ha⟩:=hf.one (.inr (.inl h8))
   have hb:=hf.args a (by rw [ha];exact List.mem_singleton.2 rfl)
   refine ⟨⟨a,ha,hb.1,by omega⟩,?_⟩
   have e:Zq n.decls op num=(Zb n.decls num).map (Z1 n.decls):=by rw [Zq,if_neg om]
   have k1':kids.length=(Zq n.decls op num).length:=k1
   rw [k1',e,List.length_map]
  ·refine Z02d kids hd fun i b hb=>?_
   have hl:0<kids.length:=by have:=(List.getElem?_eq_some_iff.1 hb).1;omega
   obtain ⟨k1,k2,k3⟩:=hf.kids (Z03q g hl)
   have k1':kids.length=(Zq n.decls op num).length:=k1
   have hi:=(List.getElem?_eq_some_iff.1 hb).1
   obtain ⟨mk,hmk⟩:=Z6 (xs:=Zq n.decls op num) (j:=i) om
   have hk3:=Z8h hd hmk
   have hbs:=Zma hb
   rw [Step.sz] at hu
   exact ⟨us++mk,by rw [List.length_append];omega,k3 i b mk hb hmk⟩
theorem Z02d:∀(bs:List Block),DOk n.decls→(∀(i:Nat) (b:Block),bs[i]? = some b→∃us:List Int,us.length+4*b.sz≤900000000∧0≤Zf n us b)→wBs n.decls bs
 | [],_,_=>True.intro
 | b::r,hd,h=>by
  obtain ⟨us,hq,hu⟩:=h 0 b rfl
  exact ⟨Z06n b hq hd hu,Z02d r hd fun i x hx=>h (i+1) x (by simpa using hx)⟩
theorem Z02g:∀(xs:List Step) {us vs:List Int},us.length+4*ssz xs≤900000000→DOk n.decls→Z10 n xs us=some vs→wSs n.decls xs
 | [],_,_,_,_,_=>True.intro
 | s::r,us,vs,hu,hd,h=>by
  obtain ⟨g1,g2⟩:=Z8x h
  rw [ssz] at hu
  have h1:=s.sz_pos
  have h2:=Za7 n us s
  exact ⟨Z07a s om hd g1,Z02g r om hd g2⟩
theorem Z06n:∀(b:Block) {us:List Int},us.length+4*b.sz≤900000000→DOk n.decls→0≤Zf n us b→wB n.decls b
 | .mk steps result,us,hu,hd,h=>by
  obtain ⟨fvs,t0,hvs,_,_⟩:=Z7e h
  rw [Block.sz] at hu
  rw [wB];exact Z02g steps om hd hvs
end
end
mutual
def Step.pz:Step→Nat
 | .mk _ _ _ args kids=>1+args.length+pzBs kids
def Block.pz:Block→Nat
 | .mk steps _=>1+pzSs steps
def pzSs:List Step→Nat
 | []=>0
 | s::r=>s.pz+pzSs r
def pzBs:List Block→Nat
 | []=>0
 | b::r=>b.pz+8+pzBs r
end
theorem Step.pz_eq (s:Step):s.pz=1+s.args.length+pzBs s.kids:=by cases s;rw [Step.pz];rfl
theorem Block.pz_eq (b:Block):b.pz=1+pzSs b.steps:=by cases b;rw [Block.pz];rfl
theorem Zv7 (op v:Int):(cntS op v).pz=2:=by rw [cntS,Step.pz];simp [pzBs]
theorem Z041 {l:List Step} {k:Nat} {s:Step} (h:l[k]? = some s):k+s.pz≤pzSs l:=by
 induction l generalizing k with
 | nil=>simp at h
 | cons t r ih=>
  have ht:=t.pz_eq
  cases k with
  | zero=>simp at h;subst h;simp only [pzSs];omega
  | succ k=>have:=ih (k:=k) (by simpa using h);simp only [pzSs];omega
theorem Z040 {l:List Block} {k:Nat} {b:Block} (h:l[k]? = some b):k+b.pz+8≤pzBs l:=by
 induction l generalizing k with
 | nil=>simp at h
 | cons t r ih=>
  cases k with
  | zero=>simp at h;subst h;simp only [pzBs];omega
  | succ k=>have:=ih (k:=k) (by simpa using h);simp only [pzBs];omega
theorem Zxq {b:Block} {k:Nat} {s:Step} (h:b.steps[k]? = some s):k+s.pz<b.pz:=by have:=Z041 h;have:=b.pz_eq;omega
theorem Z067 {s:Step} {k:Nat} {b:Block} (h:s.kids[k]? = some b):k+b.pz+8<s.pz:=by have:=Z040 h;have:=s.pz_eq;omega
theorem Zre:∀xs:List Step,xs.length≤pzSs xs
 | []=>Nat.le_refl _
 | s::r=>by have:=Zre r;have:=s.pz_eq;rw [pzSs,List.length_cons];omega
theorem Zrd:∀xs:List Block,xs.length≤pzBs xs
 | []=>Nat.le_refl _
 | s::r=>by have:=Zrd r;rw [pzBs,List.length_cons];omega
theorem Zla (b:Block):b.steps.length<b.pz:=by have:=Zre b.steps;have:=b.pz_eq;omega
theorem Zxp (s:Step):s.args.length<s.pz:=by have:=s.pz_eq;omega
theorem Z042 (s:Step):s.kids.length<s.pz:=by have:=Zrd s.kids;have:=s.pz_eq;omega
mutual
theorem Step.pz_le:∀s:Step,s.pz≤9*s.sz
 | .mk _ _ _ args kids=>by have:=Zxn kids;rw [Step.pz,Step.sz];omega
theorem Block.pz_le:∀b:Block,b.pz+8≤9*b.sz
 | .mk steps _=>by have:=Zxo steps;rw [Block.pz,Block.sz];omega
theorem Zxo:∀xs:List Step,pzSs xs≤9*ssz xs
 | []=>Nat.zero_le _
 | s::r=>by have:=s.pz_le;have:=Zxo r;rw [pzSs,ssz];omega
theorem Zxn:∀xs:List Block,pzBs xs≤9*bsz xs
 | []=>Nat.zero_le _
 | s::r=>by have:=s.pz_le;have:=Zxn r;rw [pzBs,bsz];omega
end
section
variable {ds:List Decl}
variable (hd:DOk ds)
include hd
end
section
variable {ds:List Decl} {m:Nat}
end
theorem Zq8 {n:Normal} (hn:NOk n) (hz:NSz n) (hbt:∀r∈n.routines,0≤Zf n r.params r.body):∀r∈n.routines,wB n.decls r.body:=fun r hr=>Z06n r.body (by have:=hz.body r hr;have:=hn.params r hr;omega) hn.decls (hbt r hr)
end Go.Abs
namespace Go.Abs
section
variable {fs D R:List Int} {q k:Nat} {f:Int} {r:List Int × List Int}
end
end Go.Abs
end
section
namespace Go.Abs
theorem Zok {s:Step} (h:Cn s):∃a,s.args=[a]:=⟨gI s.args 0,by have:=congrArg Step.args h;exact this⟩
theorem Z01k {α:Type} {xs:List α} {k:Nat} {x:α} {p:α→Prop} (hx:xs[k]? = some x) (h:∀s∈xs.take k,p s) (hp:p x):∀s∈xs.take (k+1),p s:=by
 rw [Z1l hx]
 intro s hs
 rcases List.mem_append.1 hs with hs|hs
 ·exact h s hs
 ·rw [List.mem_singleton.1 hs];exact hp
section
variable {xs:List Int} {v:Int} {lo hi:Nat}
end
section
variable {m:Int} {xs du dr:List Step} {lf:List Int} {d:Bool} {k:Nat} {s:Step} {W:List Step × List Step × List Int}
end
end Go.Abs
end
