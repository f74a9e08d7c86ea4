/-
  A part of the proofs of several laws (see the last file): no condition.
-/
import Derived.Test.YtlcniflebhfdpaaGreatYcA
import Derived.Test.YtlcniflebhfdpaaGreatRows
import Derived.Deep.Slices
import Derived.ChangeArms
import Derived.Test.YtlcniflebhfdpaaGreatProg
set_option linter.all false
set_option linter.unusedVariables false
set_option linter.unusedSimpArgs false
set_option linter.unusedSectionVars false
set_option maxRecDepth 10000
set_option maxHeartbeats 4000000
namespace Go.Abs
theorem J0.mono {w:World} {G G':ZE} {v:Value} {k:Nat} {ls:List AV} (hA:Vz G w w G') (h:J0 w G v k ls):J0 w G' v k ls:=by
 rcases h with ⟨rfl,h0⟩|⟨g,len,cap,cur,el,rfl,h1,h2,h3,h4,h5⟩
 ·exact .inl ⟨rfl,h0⟩
 ·exact .inr ⟨g,len,cap,cur,el,rfl,h1,h2,h3,h4,h5.mono hA⟩
theorem UD.same {w:World} {G G':ZE} {r:Res} (hA:Vz G w w G') (h:UD w G r):UD w G' r:=by
 cases r with
 | obj b ls=>obtain ⟨cs,e,h1,h2⟩:=h;exact ⟨cs,e,h1,h2.mono hA⟩
 | tail v k=>exact h
 | ge s=>exact h
 | vec v ls=>
  rcases h with ⟨rfl,h0⟩|⟨g,cap,cur,el,rfl,h1,h2,h3,h4⟩
  ·exact .inl ⟨rfl,h0⟩
  ·exact .inr ⟨g,cap,cur,el,rfl,h1,h2,h3,h4.mono hA⟩
 | many ts=>exact h
 | own B m=>exact h
 | row v k ls=>exact h.mono hA
 | mp b Q=>exact h
theorem ZZ.alloc_rrow {w:World} {G:ZE} {h:List Res} (hh:ZZ w G h) (cs:Array Value) (t:TypeId) {ls:List AV} {len cap k:Nat} (hcap:len<=cap) (YH:cs.size=cap*k) (hl:ls.length=len*k)
  (hls:Yc w G ls (cs.toList.take (len*k))) :
  ZZ (w.alloc (.cells cs t)) G (.row (.slice (some ⟨w.heap.size,0,none⟩) len cap) k ls::h)/\Yu w G h (w.alloc (.cells cs t)) G (.row (.slice (some ⟨w.heap.size,0,none⟩) len cap) k ls::h):=by
 have hA:Vz G w (w.alloc (.cells cs t)) G:=⟨fun b j hg=>CA w _ (hh.lt b j hg),fun _ _ h=>h⟩
 refine hh.alloc (.cells cs t) (h':=[.row (.slice (some ⟨w.heap.size,0,none⟩) len cap) k ls]) (fun _ _ h=>h) (fun _ _ h=>.inl h) ?_ ?_ (Kw _ _) ?_
 ·intro r hr
  rw [YL.1 hr]
  exact .inr ⟨_,len,cap,cs,t,rfl,Al w _,hcap,YH,hl,hls.mono hA⟩
 ·intro r hr b j hf
  rw [YL.1 hr] at hf
  exact hf
 ·intro r hr b j hf hg
  rw [YL.1 hr] at hf
  have:=hh.lt b j hg
  have:b=w.heap.size:=hf
  omega
theorem ZZ.rwrite {w:World} {G:ZE} {h2:List Res} {g len cap k:Nat} {ls ls':List AV} (hh:ZZ w G (.row (.slice (some ⟨g,0,none⟩) len cap) k ls::h2)) {cs cs':Array Value} {e:TypeId}
  (hb:w.heap[g]? = some (.cells cs e (0,0))) (YH:cs'.size=cs.size) (hle:len<=cap) (hcap:cs.size=cap*k) (hl:ls'.length=len*k) (hls:Yc w G ls' (cs'.toList.take (len*k))) :
  ZZ (w.setRow g cs') G (.row (.slice (some ⟨g,0,none⟩) len cap) k ls'::h2) /\
   Yu w G (.row (.slice (some ⟨g,0,none⟩) len cap) k ls::h2) (w.setRow g cs') G (.row (.slice (some ⟨g,0,none⟩) len cap) k ls'::h2):=by
 have hmem:Res.row (.slice (some ⟨g,0,none⟩) len cap) k ls∈Res.row (.slice (some ⟨g,0,none⟩) len cap) k ls::h2:=YY ..
 have hA:Vz G w (w.setRow g cs') G:=⟨fun c j hg=>by
  have hne:c≠g:=fun he=>hh.prot _ hmem c j he hg
  simp [World.cell?,V4 w g c cs' hne],fun _ _ h=>h⟩
 have hpw:=Vr.1 hh.apart
 have hother:∀r∈h2,∀c j,r.fp c j->c≠g:=fun r hr c j hf hc=>hpw.1 r hr c j hc hf
 have e1:Yu w G [.row (.slice (some ⟨g,0,none⟩) len cap) k ls] (w.setRow g cs') G [.row (.slice (some ⟨g,0,none⟩) len cap) k ls']:=by
  refine ⟨rfl,rfl,rfl,by simp [World.setRow],fun _ _ h=>h,?_,fun _ _ _ h=>.inl h,?_⟩
  ·intro c hc
   by_cases hcb:c=g
   ·subst hcb
    exact .ce ⟨cs,cs',e,(0,0),hb,setRow_heap w c cs cs' e (0,0) hb,YH,fun j hj=>absurd ⟨_,YY ..,rfl⟩ hj⟩
   ·exact .inl (V4 w g c cs' hcb)
  ·rintro c j _ ⟨r,hr,hf⟩
   rw [YL.1 hr] at hf
   exact ⟨_,YY ..,hf⟩
 have e2:ZZ (w.setRow g cs') G [.row (.slice (some ⟨g,0,none⟩) len cap) k ls']:=by
  refine ⟨fun r hr=>?_,Kw _ _,fun r hr c j hf hg=>?_,fun c j hg=>?_⟩
  ·rw [YL.1 hr]
   exact .inr ⟨g,len,cap,cs',e,rfl,setRow_heap w g cs cs' e (0,0) hb,hle,YH.trans hcap,hl,hls.mono hA⟩
  ·rw [YL.1 hr] at hf
   exact hh.prot _ hmem c j hf hg
  ·have:=hh.lt c j hg
   simpa [World.setRow] using this
 exact ZZ.frame (h:=[.row (.slice (some ⟨g,0,none⟩) len cap) k ls]) (k:=h2) hh e1 e2
theorem Zbg {w:World} {G:ZE} {h:List Res} {k:Nat} (hh:ZZ w G h):ZZ w G (.row (.slice none 0 0) k []::h)/\Yu w G h w G (.row (.slice none 0 0) k []::h):=
 ⟨⟨fun r hr=>by
   rcases YA.1 hr with rfl|hr
   ·exact .inl ⟨rfl,rfl⟩
   ·exact hh.ok r hr,Vr.2 ⟨fun _ _ _ _ hf=>hf.elim,hh.apart⟩,fun r hr b o hf hg=>by
   rcases YA.1 hr with rfl|hr
   ·exact hf.elim
   ·exact hh.prot r hr b o hf hg,hh.lt⟩,
  ⟨rfl,rfl,rfl,X1 _,fun _ _ h=>h,fun _ _=>.inl rfl,fun _ _ _ h=>.inl h,fun b o _ ⟨r,hr,hf⟩=>by
   rcases YA.1 hr with rfl|hr
   ·exact hf.elim
   ·exact ⟨r,hr,hf⟩⟩⟩
theorem J0.form {w:World} {G:ZE} {v:Value} {k:Nat} {ls:List AV} (h:J0 w G v k ls):∃a len cap,v=.slice a len cap/\ls.length=len*k:=by
 rcases h with ⟨rfl,rfl⟩|⟨g,len,cap,cur,e,rfl,_,_,_,h4,_⟩
 ·exact ⟨none,0,0,rfl,by simp⟩
 ·exact ⟨_,len,cap,rfl,h4⟩
theorem IG {w:World} {G:ZE} {v:Value} {k:Nat} {es:List AV} {h2:List Res} (hh:ZZ w G (.row v k (Zu es)::h2)) (hes:∀y∈es,y.leaves.length=k) (hk:0<k) :
  ∃G',ZZ w G' (.tail v k::h2)/\Yu w G (.row v k (Zu es)::h2) w G' (.tail v k::h2)/\RV w G' (.sl es (some v)) v:=by
 have hpw:=Vr.1 hh.apart
 have hfl:=Ti es hes
 rcases hh.ok _ (YY ..) with ⟨rfl,h0⟩|⟨g,len,cap,cur,e,rfl,h1,h3,h4,h5,h6⟩
 ·have hes0:es=[]:=by
   cases es with
   | nil=>rfl
   | cons y r=>
    have h7:0<(r.length+1)*k:=Nat.mul_pos om hk
    rw [h0,XI] at hfl
    rw [<-hfl] at h7
    simp at h7
  subst hes0
  obtain ⟨k1,k2⟩:=FI (sz:=k) (hh.sub (DO _ _))
  refine ⟨G,k1,⟨rfl,rfl,rfl,X1 _,fun _ _ h=>h,fun _ _=>.inl rfl,fun _ _ _ h=>.inl h,?_⟩,.nil (by simp)⟩
  rintro b o _ ⟨r,hr,hf⟩
  rcases YA.1 hr with rfl|hr
  ·exact hf.elim
  ·exact ⟨r,Xy _ hr,hf⟩
 ·have hlen:len=es.length:=LL hk (h5.symm.trans hfl)
  subst hlen
  let G':ZE:=fun b o=>G b o∨(b=g/\o<es.length*k)
  have hA:Vz G w w G':=⟨fun _ _ _=>rfl,fun _ _ h=>.inl h⟩
  have hmem:Res.row (.slice (some ⟨g,0,none⟩) es.length cap) k (Zu es)∈Res.row (.slice (some ⟨g,0,none⟩) es.length cap) k (Zu es)::h2:=YY ..
  refine ⟨G',⟨fun r hr=>?_,Vr.2 ⟨fun r hr b o f1 f2=>hpw.1 r hr b o f1.1 f2,hpw.2⟩,fun r hr b o hf hg=>?_,fun b o hg=>?_⟩,
   ⟨rfl,rfl,rfl,X1 _,fun _ _ h=>.inl h,fun _ _=>.inl rfl,fun b o _ hg=>hg.imp id fun ⟨e1,_⟩=>⟨_,hmem,e1⟩,?_⟩,?_⟩
  ·rcases YA.1 hr with rfl|hr
   ·exact .inr ⟨g,es.length,cap,cur,e,rfl,h1,h3,h4⟩
   ·exact (hh.ok r (Xy _ hr)).same hA
  ·rcases YA.1 hr with rfl|hr2
   ·obtain ⟨hbg,hf2⟩:=hf
    rcases hg with hg|⟨_,hg⟩
    ·exact hh.prot _ hmem b o hbg hg
    ·omega
   ·rcases hg with hg|⟨hbg,_⟩
    ·exact hh.prot r (Xy _ hr2) b o hf hg
    ·exact hpw.1 r hr2 b o hbg hf
  ·rcases hg with hg|⟨rfl,_⟩
   ·exact hh.lt b o hg
   ·exact (VG.1 h1).1
  ·rintro b o _ ⟨r,hr,hf⟩
   rcases YA.1 hr with rfl|hr
   ·exact ⟨_,hmem,hf.1⟩
   ·exact ⟨r,Xy _ hr,hf⟩
  ·refine .sl (k:=k) (fun x hx=>by cases hx;rfl) h3 (XR.of_flat es hes (Xl.of_cells (h6.mono hA) fun j u hj=>?_))
   have hjl:j<es.length*k:=by
    have:=(W5.1 hj).1
    have h7:=h6.length
    omega
   rw [TS,Z6 hjl] at hj
   refine ⟨?_,.inr ⟨rfl,by omega⟩⟩
   rw [Vk,cell_of_row w g j cur e (0,0) h1]
   simpa using hj
section
variable {P:Program} {n:Nat} {ops:Array Oper} {B:Fr->List Res->Prop} {k:Nat} {F:Fr} {h h2:List Res}
theorem Lr {k:Nat}:Qe h (.row (.slice none 0 0) k []::h):=fun _ _ hh=>let ⟨a,b⟩:=Zbg hh;⟨_,a,b⟩
theorem Zdv (j:Nat) {v:Value} {kk m:Nat} {ls:List AV} (hl:JM P ops F k=some (.val v)) (hj:h[j]? = some (.row v kk ls)) (hm:ls.length=m*kk) (hk:0<kk):Xb P (Zl ops k) F h [] (.val (.int .i64 m)):=by
 unfold JM at hl
 generalize hoo:Zl ops k=o at hl
 obtain ⟨dst,op,type,pos,after,guard⟩:=o
 cases op<;>simp only at hl<;>try (cases hl)
 rename_i c
 obtain ⟨callee,args,tys⟩:=c
 simp only at hl
 split at hl
 ·rename_i x t hargs htys
  split at hl
  ·rename_i el hu
   simp only [Xr] at hl
   intro n w G a hF hh
   have hv:=hF.ev x
   rw [hl] at hv
   have hv:=hv.val_inv
   obtain ⟨ad,len,cap,rfl,hlen⟩:=J0.form (hh.ok _ (YF hj))
   have:len=m:=LL hk (hlen.symm.trans hm)
   subst this
   have e1:args=#[x]:=by rw [<-VR (xs:=args),hargs]
   have e2:tys=#[t]:=by rw [<-VR (xs:=tys),htys]
   subst e1;subst e2
   exact ⟨_,.val,fun w' _ _=>by simp [execOp,resolve,invoke,builtin,hv,Builtin.len_,Vw hu,goInt]⟩
  ·cases hl
 ·cases hl
def I7 (ops:Array Oper) (F:Fr) (k:Nat):Option (TypeId × AV):=
 match (Zl ops k).op with
 | .load t x=>some (t,F.ev x)
 | _=>none
theorem Zdw (j:Nat) {g len cap kk o:Nat} {ls zs:List AV} {t:TypeId} {y:AV} (hl:I7 ops F k=some (t,.val (.pointer (some ⟨g,o,none⟩)))) (hj:h[j]? = some (.row (.slice (some ⟨g,0,none⟩) len cap) kk ls))
  (hz:(ls.drop o).take zs.length=zs) (hy:JO P t zs=some y):Xb P (Zl ops k) F h [g] y:=by
 unfold I7 at hl
 generalize hoo:Zl ops k=q at hl
 obtain ⟨dst,op,type,pos,after,guard⟩:=q
 cases op<;>simp only at hl<;>try (cases hl)
 rename_i t' x
 intro n w G a hF hh
 simp only [Xr,Prod.mk.injEq] at hl
 obtain ⟨rfl,hl⟩:=hl
 have hv:=hF.ev x
 rw [hl] at hv
 have hv:=hv.val_inv
 rcases hh.ok _ (YF hj) with ⟨h0,_⟩|⟨g',len',cap',cur,e,h0,h1,h2,h3,h4,h5⟩
 ·cases h0
 ·cases h0
  have hc:=(h5.drop o).take zs.length
  rw [hz] at hc
  obtain ⟨v,j1,j2⟩:=Fq (P:=P) (b:=g) (o:=o) hy hc
  refine ⟨v,j1,fun w' _ hw=>?_⟩
  have hrow:=hw g (by simp)
  rw [h1] at hrow
  simp only [execOp,hv]
  refine Vi ?_
  simp only [Instr.loadAt,Instr.sureAddr,Sem.run_bind,Sem.run_pure,Result.andThen_ok]
  refine j2 w' fun j u hj=>?_
  rw [cell_of_row w' g (o+j) cur e (0,0) hrow]
  rw [TS] at hj
  split at hj
  ·rw [Cm,TS] at hj
   split at hj
   ·simpa using hj
   ·cases hj
  ·cases hj
theorem PJ {K:Fr->List Res->Prop} {g len cap kk:Nat} {ls xs:List AV} {i:Nat} (hs:storeAt P ops F k=some (g,i,xs)) (hlt:i+xs.length<=ls.length)
  (hK:K F (.row (.slice (some ⟨g,0,none⟩) len cap) kk (ls.take i++xs++ls.drop (i+xs.length))::h2)):XY P n (Zl ops k) F (.row (.slice (some ⟨g,0,none⟩) len cap) kk ls::h2) K:=by
 unfold storeAt at hs
 generalize hoo:Zl ops k=q at hs
 obtain ⟨dst,op,type,pos,after,guard⟩:=q
 cases op<;>simp only at hs<;>try (cases hs)
 rename_i t x z
 split at hs
 ·rename_i b' o' inf hx hi
  split at hs
  ·rename_i hc
   simp only [Xv] at hc
   simp only [Xr,Prod.mk.injEq] at hs
   obtain ⟨rfl,rfl,hz⟩:=hs
   intro Q w G a hF hh
   have hvx:=hF.ev x
   rw [hx] at hvx
   have hvx:=hvx.val_inv
   have hvy:=hF.ev z
   have hcs:=hvy.cells hc.2.1
   rw [hz] at hcs hc
   have hone:=hcs.one_cells hc.2.2
   have YH:inf.size=xs.length:=Ub hc.1
   have hlen:(a.eval z).cells.size=xs.length:=by have:=hcs.length;simpa using this
   rcases hh.ok (.row (.slice (some ⟨b',0,none⟩) len cap) kk ls) (YY ..) with ⟨h0,_⟩|⟨g',len',cap',cur,e,h0,h1,h2',h3,h4,h5⟩
   ·cases h0
   ·cases h0
    have hlc:len*kk<=cap*kk:=Cr _ h2'
    have hst:=run_storeCells_at P b' o' e (a.eval z).cells.toList 0 cur w h1 (by simp [hlen];omega) hone
    simp only [Bu,KY] at hst
    have hr:(execOp a.eval { dst:=none,op:=.store t x z,type:=type,pos:=pos,after:=after,guard:=guard }).run P w =
      .ok .skip (w.setRow b' (cur.toList.take o'++(a.eval z).cells.toList++cur.toList.drop (o'+(a.eval z).cells.size)).toArray):=by
     simp only [execOp,hvx]
     simp [Instr.storeAt,Instr.sureAddr,storeVar,Q9 hi,hlen,YH,hst]
    unfold Oper.wp
    rw [hr]
    have hcl:(a.eval z).cells.toList.length=xs.length:=by simpa using hlen
    obtain ⟨j1,j2⟩:=hh.rwrite (ls':=ls.take o'++xs++ls.drop (o'+xs.length)) (cs':=(cur.toList.take o'++(a.eval z).cells.toList++cur.toList.drop (o'+(a.eval z).cells.size)).toArray) h1
     (by simp [hlen];omega) h2' h3 (by simp;omega) (by
      rw [FZ,hlen]
      have e1:(cur.toList.take o'++(a.eval z).cells.toList++cur.toList.drop (o'+xs.length)).take (len*kk) =
        (cur.toList.take (len*kk)).take o'++(a.eval z).cells.toList++(cur.toList.take (len*kk)).drop (o'+xs.length):=by
       have q1:(cur.toList.take o'++(a.eval z).cells.toList).length=o'+xs.length:=by simp [hlen];omega
       rw [List.take_append,q1,W6 om,List.take_take,AP om,List.drop_take]
      rw [e1]
      exact ((h5.take o').append hcs).append (h5.drop _))
    refine ⟨F,_,G,hK,?_,j1,j2⟩
    have:=hF.mono (j2.agree hh)
    simpa [Act.put] using this
  ·cases hs
 ·cases hs
theorem Za7 {K:Fr->List Res->Prop} {sz:Nat} (hd:Vc n (Zl ops k)=true) (ha:Q5 P ops F k=some ([],0,sz))
  (hK:∀g,K (F.put (Zl ops k).dst (.val (.slice (some ⟨g,0,none⟩) 0 0))) (.row (.slice (some ⟨g,0,none⟩) 0 0) sz []::h)):XY P n (Zl ops k) F h K:=by
 unfold Q5 at ha
 generalize hoo:Zl ops k=q at ha hd hK
 obtain ⟨dst,op,type,pos,after,guard⟩:=q
 cases op<;>simp only at ha<;>try (cases ha)
 rename_i t ln parts
 split at ha
 case h_2=>cases ha
 rename_i e ht
 split at ha
 case h_2=>cases ha
 rename_i i hi
 split at ha
 case h_2=>cases ha
 rename_i hc
 simp only [Xv] at hc
 split at ha
 case h_2=>cases ha
 rename_i ls' hf
 simp only [Xr,Prod.mk.injEq] at ha
 obtain ⟨rfl,rfl,YH⟩:=ha
 intro Q w G a hF hh
 obtain ⟨cs,h1,h2⟩:=IL hF parts ht hi rfl hc.1 hc.2 hf
 have hr:(execOp a.eval { dst:=dst,op:=.buildSlice t 0 parts,type:=type,pos:=pos,after:=after,guard:=guard }).run P w =
   .ok (.value (.slice (some ⟨w.heap.size,0,none⟩) 0 0)) (w.alloc (.cells cs e)):=by
  simp only [execOp]
  exact Vi h2
 unfold Oper.wp
 rw [hr]
 have hlc:=h1.length
 simp only [KY] at hlc
 obtain ⟨j1,j2⟩:=hh.alloc_rrow cs e (ls:=[]) (len:=0) (cap:=0) (k:=sz) (X1 _) (by simpa using hlc) (by simp) (by simpa using Yc.nil)
 exact ⟨_,_,G,hK _,(hF.mono (j2.agree hh)).put (UH hd) .val,j1,j2⟩
theorem Za6 {K:Fr->List Res->Prop} {g sz:Nat} {xs:List AV} {hx:Option Value} (hd:Vc n (Zl ops k)=true) (ha:QG P ops F k=some (.val (.slice (some ⟨g,0,none⟩) 0 0),.sl xs hx,sz))
  (hxs:∀y∈xs,y.leaves.length=sz) (hbound:xs.length<=1099511627776)
  (hK:∀v:Hd,K (F.put (Zl ops k).dst (.val v.v)) (.row v.v sz (Zu xs)::h2)):XY P n (Zl ops k) F (.row (.slice (some ⟨g,0,none⟩) 0 0) sz []::h2) K:=by
 unfold QG at ha
 generalize hoo:Zl ops k=o at ha hd hK
 obtain ⟨dst,op,type,pos,after,guard⟩:=o
 cases op<;>simp only at ha<;>try (cases ha)
 rename_i c
 obtain ⟨callee,args,tys⟩:=c
 simp only at ha
 split at ha
 case h_2=>cases ha
 rename_i s x t t' hargs htys
 split at ha
 case h_2=>cases ha
 rename_i e htt ht
 have:=Ub htt
 subst this
 split at ha
 case h_2=>cases ha
 rename_i i hinfo
 split at ha
 case h_2=>cases ha
 rename_i z hz
 split at ha
 case h_2=>cases ha
 rename_i hb
 simp only [Xv] at hb
 simp only [Xr,Prod.mk.injEq] at ha
 obtain ⟨h3,h4,hk1⟩:=ha
 have e1:args=#[s,x]:=by rw [<-VR (xs:=args),hargs]
 have e2:tys=#[t,t]:=by rw [<-VR (xs:=tys),htys]
 subst e1;subst e2
 have hzs:z.cells.size=sz:=by rw [Ub hb.1,hk1]
 have hby:=Ky hb.2
 intro Q w G a hF hh
 have v1:=hF.ev s
 have v2:=hF.ev x
 rw [h3] at v1
 rw [h4] at v2
 have v1:=v1.val_inv
 have v2:=v2.forget
 have finish:∀(v':Hd) w',(Builtin.append_ #[t,t] type #[.slice (some ⟨g,0,none⟩) 0 0,a.eval x]).run P w=.ok v'.v w'->ZZ w' G (.row v'.v sz (Zu xs)::h2) ->
   Yu w G (.row (.slice (some ⟨g,0,none⟩) 0 0) sz []::h2) w' G (.row v'.v sz (Zu xs)::h2) ->
   ({ dst:=dst,op:=.call { callee:=.builtin .append,args:=#[s,x],argTypes:=#[t,t] },type:=type,pos:=pos,after:=after,guard:=guard }:Oper).wp P a w
    (fun a' w'=>∃F' h' G',K F' h'/\FR w' G' n F' a'/\ZZ w' G' h'/\Yu w G (.row (.slice (some ⟨g,0,none⟩) 0 0) sz []::h2) w' G' h') Q:=by
  intro v' w' hr j1 j2
  have hrun:(execOp a.eval { dst:=dst,op:=.call { callee:=.builtin .append,args:=#[s,x],argTypes:=#[t,t] },type:=type,pos:=pos,after:=after,guard:=guard }).run P w=.ok (.value v'.v) w':=by
   simp only [execOp,resolve,invoke,builtin,Sem.run_bind,Sem.run_pure,Result.andThen_ok,Br,WC,QV,v1,hr]
  unfold Oper.wp
  rw [hrun]
  exact ⟨_,_,G,hK v',(hF.mono (j2.agree hh)).put (UH hd) .val,j1,j2⟩
 by_cases hxe:xs=[]
 ·subst hxe
  cases v2q:a.eval x with
  | slice ad' l' c'=>
   rw [v2q] at v2
   cases v2<;>exact finish ⟨some ⟨g,0,none⟩,0,0⟩ _ (by rw [v2q];exact Cb ht hinfo (X1 _) w) hh (Yu.refl w G _)
  | _=>rw [v2q] at v2;cases v2
 ·generalize hax:a.eval x=ax at v2 finish
  cases v2 with
  | nil _=>exact absurd rfl hxe
  | sl hq hcc hm=>
   rename_i b o' k' c
   have hpos:0<xs.length:=FX.2 hxe
   have hfm:=hm.flat_mem
   obtain ⟨news,hn,hnc⟩:=hfm.cells
   have hfl:=Ti xs hxs
   have hnl:news.length=xs.length*i.size:=by rw [hn.length,hfl,hk1]
   have hnews:∀j u,news[j]? = some u->w.cell? ((⟨b,o',none⟩:Addr).add j)=some u:=fun j u hj=>by rw [Js];exact (hnc j u hj).1
   have hbb:(0+xs.length)*i.bytes<=140737488355328:=by
    have:=Nat.mul_le_mul hbound hby
    rw [Vk]
    omega
   have hr:=run_append_grow (P:=P) w t type e i z ht hinfo hz ⟨g,0,none⟩ 0 0 [] (by simp) (fun j u hj=>by simp at hj) ⟨b,o',none⟩ xs.length c news hnl hnews om om (growslice_fits om hbb)
   simp only [Vk] at hr
   have hge:=grownCap_ge w xs.length 0 e
   obtain ⟨j1,j2⟩:=hh.drew.alloc_rrow ([].toArray++news.toArray++Builtin.zeroCells z.cells (grownCap w xs.length 0 e-xs.length)) e
    (ls:=Zu xs) (len:=xs.length) (cap:=grownCap w xs.length 0 e) (k:=sz) hge
    (by
     have q2:(grownCap w xs.length 0 e-xs.length)*sz=grownCap w xs.length 0 e*sz-xs.length*sz:=Nat.sub_mul ..
     have q3:xs.length*sz<=grownCap w xs.length 0 e*sz:=Cr _ hge
     simp only [Array.size_append,LJ,size_zeroCells,hzs,Vy,Vk,hnl,hk1]
     omega) hfl
    (by
     have q1:([].toArray++news.toArray++Builtin.zeroCells z.cells (grownCap w xs.length 0 e-xs.length)).toList.take (xs.length*sz)=news:=by
      simp only [DJ,DN]
      rw [<-hk1,<-hnl]
      exact Cq
     rw [q1]
     exact hn.mono (AW w G))
   have hs:List.Sublist (.row (.slice (some ⟨w.drew.heap.size,0,none⟩) xs.length (grownCap w xs.length 0 e)) sz (Zu xs)::h2)
     (.row (.slice (some ⟨w.drew.heap.size,0,none⟩) xs.length (grownCap w xs.length 0 e)) sz (Zu xs)::.row (.slice (some ⟨g,0,none⟩) 0 0) sz []::h2):=List.Sublist.cons_cons _ (DO _ _)
   exact finish ⟨some ⟨w.heap.size,0,none⟩,xs.length,grownCap w xs.length 0 e⟩ _ hr (j1.sub hs) ((Yu.drew w G _).trans (j2.sub' hs))
def Ic (P:Program) (ops:Array Oper) (F:Fr) (k:Nat):Option (Int × Int × List AV):=
 match (Zl ops k).op with
 | .makeSlice t l c=>match P.underlying t with
  | some (.slice e)=>match P.info? e with
   | some i=>match i.zero with
    | some z=>match Nat.beq i.size z.cells.toList.length&&Nat.ble i.bytes 32768,F.ev l,F.ev c with
     | true,.val (.int _ l),.val (.int _ c)=>some (l,c,z.cells.toList.map AV.ofVal)
     | _,_,_=>none
    | none=>none
   | none=>none
  | _=>none
 | _=>none
theorem P9 (zs:List Value) (hz:0<zs.length):∀n:Nat,(madeCells zs.toArray (n*zs.length)).toList=(List.replicate n zs).flatten
 | 0=>by simp [madeCells]
 | n+1=>by
  have ih:=P9 zs hz n
  have hlen:∀m,(madeCells zs.toArray m).toList.length=m:=fun m=>by simp [madeCells]
  have hget:∀m i,i<m->(madeCells zs.toArray m).toList[i]? = some (zs.toArray[i % zs.toArray.size]!):=fun m i hi=>by simp [madeCells,hi]
  rw [List.replicate_succ',List.flatten_append,<-ih]
  apply List.ext_getElem?
  intro i
  simp only [List.flatten_cons,List.flatten_nil,AM]
  by_cases h1:i<n*zs.length
  ·rw [DL (by rw [hlen];exact h1),hget _ i h1,hget _ i (by rw [QB];omega)]
  ·rw [Cl (by rw [hlen];omega),hlen]
   by_cases h2:i<(n+1)*zs.length
   ·rw [hget _ i h2]
    rw [QB] at h2
    have e:i=(i-n*zs.length)+zs.length*n:=by rw [Nat.mul_comm zs.length n];omega
    have e2:i % zs.length=i-n*zs.length:=by
     conv=>lhs;rw [e,Nat.add_mul_mod_self_left]
     exact Nat.mod_eq_of_lt om
    have h3:i-n*zs.length<zs.length:=by omega
    simp [e2,h3]
   ·rw [FW (by rw [hlen];omega),FW (by rw [QB] at h2;omega)]
theorem PZ {w:World} {G:ZE} {xs:List AV} {vs:List Value} (h:Yc w G xs vs):∀n,Yc w G (List.replicate n xs).flatten (List.replicate n vs).flatten
 | 0=>by simpa using Yc.nil
 | n+1=>by simp only [Bt,List.flatten_cons];exact h.append (PZ h n)
theorem PY {w:World} {G:ZE}:∀vs:List Value,Yc w G (vs.map AV.ofVal) vs
 | []=>.nil
 | v::r=>.cons (RV.ofVal v) (PY r)
theorem Za8 {K:Fr->List Res->Prop} {l:Nat} {zs:List AV} (hd:Vc n (Zl ops k)=true) (hm:Ic P ops F k=some ((l:Int),(l:Int),zs)) (hl:l<=4294967296) (hz:0<zs.length)
  (hK:∀g,K (F.put (Zl ops k).dst (.val (.slice (some ⟨g,0,none⟩) l l))) (.row (.slice (some ⟨g,0,none⟩) l l) zs.length (List.replicate l zs).flatten::h)):XY P n (Zl ops k) F h K:=by
 unfold Ic at hm
 generalize hoo:Zl ops k=o at hm hd hK
 obtain ⟨dst,op,type,pos,after,guard⟩:=o
 cases op<;>simp only at hm<;>try (cases hm)
 rename_i t lo co
 split at hm
 case h_2=>cases hm
 rename_i e ht
 split at hm
 case h_2=>cases hm
 rename_i i hi
 split at hm
 case h_2=>cases hm
 rename_i z hzz
 split at hm
 case h_2=>cases hm
 rename_i k1 l' k2 c' hb hlo hco
 simp only [Xv] at hb
 simp only [Xr,Prod.mk.injEq] at hm
 obtain ⟨rfl,rfl,rfl⟩:=hm
 intro Q w G a hF hh
 have v1:=hF.ev lo
 have v2:=hF.ev co
 rw [hlo] at v1
 rw [hco] at v2
 have v1:=v1.val_inv
 have v2:=v2.val_inv
 have hs:=Ub hb.1
 have hbytes:=Ky hb.2
 have hr:=run_make (P:=P) w t e i z ht hi hzz k1 k2 (l:Int) (l:Int) om om (by
  have h1:(i.bytes:Int)<=32768:=by omega
  have h2:(i.bytes:Int)*(l:Int)<=32768*(l:Int):=Int.mul_le_mul_of_nonneg_right h1 om
  omega) om
 have hzl:(z.cells.toList.map AV.ofVal).length=z.cells.toList.length:=by simp
 have hr2:(execOp a.eval { dst:=dst,op:=.makeSlice t lo co,type:=type,pos:=pos,after:=after,guard:=guard }).run P w =
   .ok (.value (.slice (some ⟨w.heap.size,0,none⟩) l l)) (w.alloc (.cells (madeCells z.cells (l*i.size)) e)):=by
  simp only [execOp,v1,v2]
  simpa using Vi hr
 unfold Oper.wp
 rw [hr2]
 have hmc:(madeCells z.cells (l*i.size)).toList=(List.replicate l z.cells.toList).flatten:=by
  rw [hs,<-P9 _ (by rw [hzl] at hz;exact hz) l]
 rw [hzl] at hK
 obtain ⟨j1,j2⟩:=hh.alloc_rrow (madeCells z.cells (l*i.size)) e (ls:=(List.replicate l (z.cells.toList.map AV.ofVal)).flatten) (len:=l) (cap:=l) (k:=z.cells.toList.length) (X1 _)
  (by rw [size_madeCells,hs]) (by simp) (by
   rw [hmc,W6 (by simp)]
   exact PZ (PY _) l)
 exact ⟨_,_,G,hK _,(hF.mono (j2.agree hh)).put (UH hd) .val,j1,j2⟩
theorem Zbf {w:World} {G:ZE} {v:Hd} {kk m:Nat} {ls:List AV} (h:J0 w G v.v kk ls) (hm:ls.length=m*kk) (hk:0<kk) (h0:0<m):∃g c,v=⟨some ⟨g,0,none⟩,m,c⟩:=by
 obtain ⟨a,l,c⟩:=v
 rcases h with ⟨h1,h2⟩|⟨g,len,cap,cur,e,h1,h2,h3,h4,h5,h6⟩
 ·subst h2
  have:=Nat.mul_pos h0 hk
  rw [Vy] at hm
  omega
 ·cases h1
  have:l=m:=LL hk (h5.symm.trans hm)
  subst this
  exact ⟨g,c,rfl⟩
theorem Z0a (j m:Nat) {v:Hd} {kk:Nat} {ls:List AV} {c:Code} {A:Wx} (hj:h[j]? = some (.row v.v kk ls)) (hm:ls.length=m*kk) (hk:0<kk) (h0:0<m)
  (H:∀g c',v=⟨some ⟨g,0,none⟩,m,c'⟩->Y2 P n c A F h):Y2 P n c A F h:=by
 intro w G a hF hh
 obtain ⟨g,c',e⟩:=Zbf (hh.ok _ (YF hj)) hm hk h0
 exact H g c' e w G a hF hh
theorem Z09 (t j:Nat) {v:Hd} {kk:Nat} {es:List AV} {c:Code} {A:Wx} (hF':F.get t=.h v) (hp:Wt [j] h=some [.row v.v kk (Zu es)]) (hes:∀y∈es,y.leaves.length=kk) (hk:0<kk)
  (H:Y2 P n c A ((t,.sl es (some v.v))::F) (.tail v.v kk::XK [j] h)):Y2 P n c A F h:=by
 intro w G a hF hh
 have hp':=Uj (Vu hp)
 obtain ⟨G',h1,h2',h3⟩:=IG (hh.perm hp') hes hk
 have e:=h2'.perm hp'.symm (Kt _)
 have hF2:=hF.mono (e.agree hh)
 have hv:=hF2.get t
 rw [hF'] at hv
 have hv:=hv.val_inv
 refine wp_mono (H w G' a ⟨hF2.defers,hF2.size,fun s=>?_⟩ h1) fun e' a' w' hc=>hc.trans e
 show RV w G' (match Nat.beq t s with|true=>_|false=>Fr.get F s) _
 cases hb:Nat.beq t s with
 | true=>
  have:=Ub hb
  subst this
  rw [hv]
  exact h3
 | false=>exact hF2.get s
theorem Zez (j i p:Nat) {u v:Value} {kk kv:Nat} {es ls:List AV} (hp:Wt [j,i] h=some [.row u kk (Zu es),.row v kv ls]) (hes:∀y∈es,y.leaves.length=kk) (hk:0<kk) (hl:ls[p]? = some (.val u)) :
  Qe h (.row v kv (ls.set p (.sl es (some u)))::.tail u kk::XK [j,i] h):=by
 intro w G hh
 have hp':=Uj (Vu hp)
 have hh':=hh.perm hp'
 obtain ⟨G',h1,h2',h3⟩:=IG (h2:=.row v kv ls::XK [j,i] h) hh' hes hk
 have e:=h2'.perm hp'.symm (Kt _)
 have h1:ZZ w G' (.tail u kk::.row v kv ls::XK [j,i] h):=h1
 have perm:(Res.tail u kk::.row v kv ls::XK [j,i] h).Perm (.row v kv ls::.tail u kk::XK [j,i] h):=List.Perm.swap ..
 have h4:=h1.perm perm
 have e4:=e.perm (Kt _) perm
 have hset:∀{w:World} {G:ZE},RV w G (.sl es (some u)) u->J0 w G v kv ls->J0 w G v kv (ls.set p (.sl es (some u))):=by
  intro w G hu hr
  rcases hr with ⟨rfl,h0⟩|⟨g,len,cap,cur,el,rfl,k1,k2,k3,k4,k5⟩
  ·exact .inl ⟨rfl,by rw [h0];rfl⟩
  ·refine .inr ⟨g,len,cap,cur,el,rfl,k1,k2,k3,by rw [QA];exact k4,?_⟩
   obtain ⟨c,c1,c2⟩:=k5.get p _ hl
   have:=c2.val_inv
   subst this
   have h6:=k5.set p hu
   rwa [show (cur.toList.take (len*kv)).set p c=cur.toList.take (len*kv) from by
    apply List.ext_getElem?
    intro q
    rw [List.getElem?_set]
    split
    ·rename_i hq;subst hq;split
     ·exact c1.symm
     ·rename_i hq2;rw [FW om]
    ·rfl] at h6
 refine ⟨G',⟨fun r hr=>?_,?_,fun r hr=>?_,h4.lt⟩,⟨e4.os,e4.tape,e4.output,e4.size,e4.sub,e4.same,e4.newG,fun b o hb ⟨r,hr,hf⟩=>e4.newfp b o hb ?_⟩⟩
 ·rcases YA.1 hr with rfl|hr
  ·exact hset h3 (h4.ok _ (YY ..))
  ·exact h4.ok r (Xy _ hr)
 ·have:=Vr.1 h4.apart
  refine Vr.2 ⟨fun r hr b o f1 f2=>this.1 r hr b o ?_ f2,this.2⟩
  cases v with
  | slice a _ _=>cases a with
   | none=>exact f1.elim
   | some a=>exact f1
  | _=>exact f1.elim
 ·rcases YA.1 hr with rfl|hr
  ·intro b o f1 hg
   refine h4.prot (.row v kv ls) (YY ..) b o ?_ hg
   cases v with
   | slice a _ _=>cases a with
    | none=>exact f1.elim
    | some a=>exact f1
   | _=>exact f1.elim
  ·exact h4.prot r (Xy _ hr)
 ·rcases YA.1 hr with rfl|hr
  ·refine ⟨.row v kv ls,YY ..,?_⟩
   cases v with
   | slice a _ _=>cases a with
    | none=>exact hf.elim
    | some a=>exact hf
   | _=>exact hf.elim
  ·exact ⟨r,Xy _ hr,hf⟩
def Qi:List Res->Option (List (Value × Nat))
 | []=>some []
 | .tail v k::r=>(Qi r).map ((v,k)::·)
 | .many ts::r=>(Qi r).map (ts++·)
 | _=>none
theorem AY {b o:Nat}:∀{hs:List Res} {L:List (Value × Nat)},Qi hs=some L->((∃p∈L,Bj p.1 p.2 b o)↔We hs b o)
 | [],L,h=>by cases h;simp [We]
 | .tail v k::r,L,h=>by
  rw [Qi] at h
  cases hr:Qi r with
  | none=>rw [hr] at h;cases h
  | some L'=>
   rw [hr] at h
   cases h
   have ih:=AY (b:=b) (o:=o) hr
   have ht:Res.fp (.tail v k) b o↔Bj v k b o:=by
    cases v with
    | slice a _ _=>cases a<;>exact Iff.rfl
    | _=>exact Iff.rfl
   simp only [We,YA,exists_eq_or_imp] at ih ⊢
   rw [ht,ih]
 | .many ts::r,L,h=>by
  rw [Qi] at h
  cases hr:Qi r with
  | none=>rw [hr] at h;cases h
  | some L'=>
   rw [hr] at h
   cases h
   have ih:=AY (b:=b) (o:=o) hr
   simp only [We,YA,exists_eq_or_imp] at ih ⊢
   rw [<-ih]
   simp only [Yz,Res.fp]
   constructor
   ·rintro ⟨p,hp|hp,hf⟩
    ·exact .inl ⟨p,hp,hf⟩
    ·exact .inr ⟨p,hp,hf⟩
   ·rintro (⟨p,hp,hf⟩|⟨p,hp,hf⟩)
    ·exact ⟨p,.inl hp,hf⟩
    ·exact ⟨p,.inr hp,hf⟩
 | .obj _ _::_,_,h=>by cases h
 | .ge _::_,_,h=>by cases h
 | .vec _ _::_,_,h=>by cases h
 | .own _ _::_,_,h=>by cases h
 | .row _ _ _::_,_,h=>by cases h
 | .mp _ _::_,_,h=>by cases h
theorem GC {w:World} {G:ZE}:∀{hs:List Res} {L:List (Value × Nat)},Qi hs=some L->(∀r∈hs,UD w G r)->hs.Pairwise Jn->UD w G (.many L)
 | [],L,h,_,_=>by cases h;exact ⟨by simp,.nil⟩
 | .tail v k::r,L,h,h1,h2=>by
  rw [Qi] at h
  cases hr:Qi r with
  | none=>rw [hr] at h;cases h
  | some L'=>
   rw [hr] at h
   cases h
   have hpw:=Vr.1 h2
   obtain ⟨i1,i2⟩:=GC (w:=w) (G:=G) hr (fun q hq=>h1 q (Xy _ hq)) hpw.2
   refine ⟨fun p hp=>?_,Vr.2 ⟨fun p hp b o f1 f2=>?_,i2⟩⟩
   ·rcases YA.1 hp with rfl|hp
    ·exact h1 (.tail v k) (YY ..)
    ·exact i1 p hp
   ·obtain ⟨q,hq,hf⟩:=(AY hr).1 ⟨p,hp,f2⟩
    refine hpw.1 q hq b o ?_ hf
    cases v with
    | slice a _ _=>cases a<;>exact f1
    | _=>exact f1
 | .many ts::r,L,h,h1,h2=>by
  rw [Qi] at h
  cases hr:Qi r with
  | none=>rw [hr] at h;cases h
  | some L'=>
   rw [hr] at h
   cases h
   have hpw:=Vr.1 h2
   obtain ⟨i1,i2⟩:=GC (w:=w) (G:=G) hr (fun q hq=>h1 q (Xy _ hq)) hpw.2
   obtain ⟨t1,t2⟩:=h1 (.many ts) (YY ..)
   refine ⟨fun p hp=>?_,KZ.2 ⟨t2,i2,fun p hp q hq b o f1 f2=>?_⟩⟩
   ·rcases Yz.1 hp with hp|hp
    ·exact t1 p hp
    ·exact i1 p hp
   ·obtain ⟨s,hs,hf⟩:=(AY hr).1 ⟨q,hq,f2⟩
    exact hpw.1 s hs b o ⟨p,hp,f1⟩ hf
 | .obj _ _::_,_,h,_,_=>by cases h
 | .ge _::_,_,h,_,_=>by cases h
 | .vec _ _::_,_,h,_,_=>by cases h
 | .own _ _::_,_,h,_,_=>by cases h
 | .row _ _ _::_,_,h,_,_=>by cases h
 | .mp _ _::_,_,h,_,_=>by cases h
theorem Zey (is:List Nat) {L:List (Value × Nat)} {hs:List Res} (hp:Wt is h=some hs) (hb:Qi hs=some L):Qe h (.many L::XK is h):=by
 intro w G hh
 have hp':=Uj (Vu hp)
 have hh':=hh.perm hp'
 have hpw:=KZ.1 hh'.apart
 have hmany:=GC (w:=w) (G:=G) hb (fun r hr=>hh'.ok r (Yz.2 (.inl hr))) hpw.1
 refine ⟨G,⟨fun r hr=>?_,Vr.2 ⟨fun r hr b o f1 f2=>?_,hpw.2.1⟩,fun r hr b o hf hg=>?_,hh'.lt⟩,
  ⟨rfl,rfl,rfl,X1 _,fun _ _ h=>h,fun _ _=>.inl rfl,fun _ _ _ h=>.inl h,fun b o _ ⟨r,hr,hf⟩=>?_⟩⟩
 ·rcases YA.1 hr with rfl|hr
  ·exact hmany
  ·exact hh'.ok r (Yz.2 (.inr hr))
 ·exact hh'.cross ((AY hb).1 f1) ⟨r,hr,f2⟩
 ·rcases YA.1 hr with rfl|hr
  ·obtain ⟨q,hq,hf⟩:=(AY hb).1 hf
   exact hh'.prot q (Yz.2 (.inl hq)) b o hf hg
  ·exact hh'.prot r (Yz.2 (.inr hr)) b o hf hg
 ·refine (Ai hp').2 ?_
  rcases YA.1 hr with rfl|hr
  ·exact J9.2 (.inl ((AY hb).1 hf))
  ·exact J9.2 (.inr ⟨r,hr,hf⟩)
end
end Go.Abs
section
namespace Go.Abs
structure X3 where
 fields:LI
 fv:Value
structure YP where
 frm:Int
 to_:Int
 cons:List X3
 cv:Value
mutual
inductive ZX where
 | mk (op num into:Int) (args:LI) (av:Value) (kids:List ZV) (kv:Value)
inductive ZV where
 | mk (steps:List ZX) (sv:Value) (result:Int)
end
namespace ZX
def op:ZX->Int|.mk a _ _ _ _ _ _=>a
def num:ZX->Int|.mk _ a _ _ _ _ _=>a
def into:ZX->Int|.mk _ _ a _ _ _ _=>a
def args:ZX->LI|.mk _ _ _ a _ _ _=>a
def av:ZX->Value|.mk _ _ _ _ a _ _=>a
def kids:ZX->List ZV|.mk _ _ _ _ _ a _=>a
def kv:ZX->Value|.mk _ _ _ _ _ _ a=>a
end ZX
namespace ZV
def steps:ZV->List ZX|.mk a _ _=>a
def sv:ZV->Value|.mk _ a _=>a
def result:ZV->Int|.mk _ _ a=>a
end ZV
structure YQ where
 params:LI
 pv:Value
 lent:LI
 lv:Value
 result:Int
 body:ZV
structure X7 where
 decls:List YP
 dv:Value
 routines:List YQ
 rv:Value
abbrev Ao (c:X3):List AV:=[ZY c.fields c.fv]
abbrev G5 (c:X3):AV:=.agg (Ao c)
def Ws (cs:List X3):List AV:=cs.map G5
abbrev JR (xs:List X3) (v:Value):AV:=.sl (Ws xs) (some v)
abbrev Ap (d:YP):List AV:=[.i d.frm,.i d.to_,JR d.cons d.cv]
abbrev G6 (d:YP):AV:=.agg (Ap d)
def XV (ds:List YP):List AV:=ds.map G6
abbrev Kh (xs:List YP) (v:Value):AV:=.sl (XV xs) (some v)
mutual
def He:ZX->AV
 | .mk op num into args av kids kv=>.agg [.i op,.i num,.i into,ZY args av,.sl (V7 kids) (some kv)]
def H9:ZV->AV
 | .mk steps sv result=>.agg [.sl (WE steps) (some sv),.i result]
def WE:List ZX->List AV
 | []=>[]
 | s::ss=>He s::WE ss
def V7:List ZV->List AV
 | []=>[]
 | b::bs=>H9 b::V7 bs
end
abbrev U8 (xs:List ZX) (v:Value):AV:=.sl (WE xs) (some v)
abbrev TO (xs:List ZV) (v:Value):AV:=.sl (V7 xs) (some v)
abbrev Ar (s:ZX):List AV:=[.i s.op,.i s.num,.i s.into,ZY s.args s.av,TO s.kids s.kv]
abbrev TB (s:ZX):AV:=.agg (Ar s)
abbrev JL (b:ZV):List AV:=[U8 b.steps b.sv,.i b.result]
abbrev Tp (b:ZV):AV:=.agg (JL b)
abbrev Aq (r:YQ):List AV:=[ZY r.params r.pv,ZY r.lent r.lv,.i r.result,U8 r.body.steps r.body.sv,.i r.body.result]
abbrev G7 (r:YQ):AV:=.agg (Aq r)
def V8 (rs:List YQ):List AV:=rs.map G7
abbrev Z9h (xs:List YQ):AV:=.sl (V8 xs) none
abbrev JS (xs:List YQ) (v:Value):AV:=.sl (V8 xs) (some v)
abbrev C2 (n:X7):List AV:=[Kh n.decls n.dv,JS n.routines n.rv]
abbrev VJ (n:X7):AV:=.agg (C2 n)
theorem Ep (s:ZX):He s=TB s:=by cases s;rw [He];rfl
theorem En (b:ZV):H9 b=Tp b:=by cases b;rw [H9];rfl
theorem Ah:∀xs:List ZX,WE xs=xs.map TB
 | []=>by rw [WE];rfl
 | s::ss=>by rw [WE,Ah ss,Ep];rfl
theorem BM:∀xs:List ZV,V7 xs=xs.map Tp
 | []=>by rw [V7];rfl
 | b::bs=>by rw [V7,BM bs,En];rfl
@[simp] theorem Z3z (xs:List X3):(Ws xs).length=xs.length:=by simp [Ws]
theorem Nn (xs ys:List X3):Ws (xs++ys)=Ws xs++Ws ys:=by simp [Ws]
theorem Hb (xs:List X3):∀y∈Ws xs,y.leaves.length=1:=by intro y hy;simp only [Ws,Xe] at hy;obtain ⟨x,_,rfl⟩:=hy;rfl
@[simp] theorem Z40 (xs:List YP):(XV xs).length=xs.length:=by simp [XV]
theorem Np (xs ys:List YP):XV (xs++ys)=XV xs++XV ys:=by simp [XV]
theorem Hc (xs:List YP):∀y∈XV xs,y.leaves.length=3:=by intro y hy;simp only [XV,Xe] at hy;obtain ⟨x,_,rfl⟩:=hy;rfl
@[simp] theorem Nr (xs:List ZX):(WE xs).length=xs.length:=by simp [Ah]
theorem Er (xs ys:List ZX):WE (xs++ys)=WE xs++WE ys:=by simp [Ah]
theorem CK (xs:List ZX):∀y∈WE xs,y.leaves.length=5:=by intro y hy;simp only [Ah,Xe] at hy;obtain ⟨x,_,rfl⟩:=hy;rfl
@[simp] theorem Z3y (xs:List ZV):(V7 xs).length=xs.length:=by simp [BM]
theorem Nm (xs ys:List ZV):V7 (xs++ys)=V7 xs++V7 ys:=by simp [BM]
theorem Ha (xs:List ZV):∀y∈V7 xs,y.leaves.length=2:=by intro y hy;simp only [BM,Xe] at hy;obtain ⟨x,_,rfl⟩:=hy;rfl
@[simp] theorem Z41 (xs:List YQ):(V8 xs).length=xs.length:=by simp [V8]
theorem Nq (xs ys:List YQ):V8 (xs++ys)=V8 xs++V8 ys:=by simp [V8]
theorem Eo (xs:List YQ):∀y∈V8 xs,y.leaves.length=5:=by intro y hy;simp only [V8,Xe] at hy;obtain ⟨x,_,rfl⟩:=hy;rfl
theorem Z42 (xs:List YQ):(Zu (V8 xs)).all AV.one=true:=KI fun y hy=>by simp only [V8,Xe] at hy;obtain ⟨x,_,rfl⟩:=hy;rfl
def Wg (c:X3):List (Value × Nat):=[(c.fv,1)]
def X8 (cs:List X3):List (Value × Nat):=cs.flatMap Wg
def Wh (d:YP):List (Value × Nat):=X8 d.cons++[(d.cv,1)]
def X2 (ds:List YP):List (Value × Nat):=ds.flatMap Wh
mutual
def Xw:ZX->List (Value × Nat)
 | .mk _ _ _ _ av kids kv=>(av,1)::(YS kids++[(kv,2)])
def YW:ZV->List (Value × Nat)
 | .mk steps sv _=>YC steps++[(sv,5)]
def YC:List ZX->List (Value × Nat)
 | []=>[]
 | s::r=>Xw s++YC r
def YS:List ZV->List (Value × Nat)
 | []=>[]
 | b::r=>YW b++YS r
end
def Wi (r:YQ):List (Value × Nat):=(r.pv,1)::(r.lv,1)::YW r.body
def X5 (rs:List YQ):List (Value × Nat):=rs.flatMap Wi
def Xh (n:X7):List (Value × Nat):=X2 n.decls++((n.dv,3)::(X5 n.routines++[(n.rv,5)]))
theorem EF (b:ZV):YW b=YC b.steps++[(b.sv,5)]:=by cases b;rw [YW];rfl
theorem WS:∀(xs:List ZX) (ys:List ZX),YC (xs++ys)=YC xs++YC ys
 | [],ys=>by simp [YC]
 | x::r,ys=>by rw [Ku,YC,YC,WS r ys,U1]
theorem WR:∀(xs:List ZV) (ys:List ZV),YS (xs++ys)=YS xs++YS ys
 | [],ys=>by simp [YS]
 | x::r,ys=>by rw [Ku,YS,YS,WR r ys,U1]
theorem V3:YC []=[]:=by rw [YC]
theorem WZ:YS []=[]:=by rw [YS]
theorem V0 (xs ys:List X3):X8 (xs++ys)=X8 xs++X8 ys:=by simp [X8]
theorem V1 (xs ys:List YP):X2 (xs++ys)=X2 xs++X2 ys:=by simp [X2]
theorem V2 (xs ys:List YQ):X5 (xs++ys)=X5 xs++X5 ys:=by simp [X5]
def X3.er (c:X3):Xs:=⟨c.fields⟩
def YP.er (d:YP):Zg:=⟨d.frm,d.to_,d.cons.map X3.er⟩
mutual
def ZX.er:ZX->Z7
 | .mk op num into args _ kids _=>.mk op num into args (TG kids)
def ZV.er:ZV->Zf
 | .mk steps _ result=>.mk (WF steps) result
def WF:List ZX->List Z7
 | []=>[]
 | s::r=>s.er::WF r
def TG:List ZV->List Zf
 | []=>[]
 | b::r=>b.er::TG r
end
def YQ.er (r:YQ):Yy:=⟨r.params,r.lent,r.result,r.body.er⟩
def X7.er (n:X7):Zj:=⟨n.decls.map YP.er,n.routines.map YQ.er⟩
theorem CQ:∀xs:List ZX,WF xs=xs.map ZX.er
 | []=>by rw [WF];rfl
 | x::r=>by rw [WF,CQ r];rfl
theorem Ev:∀xs:List ZV,TG xs=xs.map ZV.er
 | []=>by rw [TG];rfl
 | x::r=>by rw [TG,Ev r];rfl
inductive T3:List AV->List AV->Prop
 | nil:T3 [] []
 | cons {x y:AV} {xs ys:List AV} (hl:x.leaves.length=y.leaves.length) (h:VI x.leaves y.leaves) (t:T3 xs ys):T3 (x::xs) (y::ys)
theorem T3.length:∀{xs ys:List AV},T3 xs ys->xs.length=ys.length
 | _,_,.nil=>rfl
 | _,_,.cons _ _ t=>by simp [t.length]
theorem T3.els {w:World} {G:ZE} {k b:Nat}:∀{o:Nat} {xs ys:List AV},T3 xs ys->XR w G k b o xs->XR w G k b o ys
 | _,_,_,.nil,_=>.nil
 | _,_,_,.cons hl h t,.cons hk hm r=>.cons (hl▸hk) (h.mem hm) (t.els r)
theorem Zm.els {es es':List AV} (hv:Option Value) (h:T3 es es'):Zm (.sl es hv) (.sl es' none):=by
 intro w G v hr
 cases hr with
 | nil _=>cases h;exact .nil (by simp)
 | sl _ hc hm=>rw [h.length] at hc ⊢;exact .sl (by simp) hc (h.els hm)
theorem T3.map {α β:Type} {f:α->AV} {g:β->AV} {e:α->β} (h:∀x,(f x).leaves.length=(g (e x)).leaves.length/\VI (f x).leaves (g (e x)).leaves):∀xs:List α,T3 (xs.map f) ((xs.map e).map g)
 | []=>.nil
 | x::r=>.cons (h x).1 (h x).2 (T3.map h r)
theorem Z8z (c:X3):VI (Ao c) (KP c.er):=.cons (Zm.forget _ _) .nil
theorem Z4q (cs:List X3):T3 (Ws cs) (Wd (cs.map X3.er)):=T3.map (f:=G5) (g:=J1) (e:=X3.er) (fun c=>⟨rfl,Z8z c⟩) cs
theorem Z90 (d:YP):VI (Ap d) (Uh d.er):=.cons (Zm.refl _) (.cons (Zm.refl _) (.cons (Zm.els _ (Z4q _)) .nil))
theorem Z4r (ds:List YP):T3 (XV ds) (X4 (ds.map YP.er)):=T3.map (f:=G6) (g:=QY) (e:=YP.er) (fun c=>⟨rfl,Z90 c⟩) ds
mutual
theorem Z93:∀s:ZX,VI (Ar s) (WT s.er)
 | .mk op num into args av kids kv=>by
  rw [ZX.er]
  exact .cons (Zm.refl _) (.cons (Zm.refl _) (.cons (Zm.refl _) (.cons (Zm.forget _ _) (.cons (Zm.els _ (NH kids)) .nil))))
theorem P7:∀b:ZV,VI (JL b) (VE b.er)
 | .mk steps sv result=>by
  rw [ZV.er]
  exact .cons (Zm.els _ (NI steps)) (.cons (Zm.refl _) .nil)
theorem NI:∀xs:List ZX,T3 (WE xs) (Xm (WF xs))
 | []=>by rw [WE,WF,Xm];exact .nil
 | s::r=>by
  rw [WE,WF,Xm,Ep,Ny]
  exact .cons rfl (Z93 s) (NI r)
theorem NH:∀xs:List ZV,T3 (V7 xs) (VL (TG xs))
 | []=>by rw [V7,TG,VL];exact .nil
 | s::r=>by
  rw [V7,TG,VL,En,Nk]
  exact .cons rfl (P7 s) (NH r)
end
theorem Z92 (r:YQ):VI (Aq r) (TM r.er):=by
 have h:=P7 r.body
 cases h with
 | cons h1 t=>cases t with
  | cons h2 _=>exact .cons (Zm.forget _ _) (.cons (Zm.forget _ _) (.cons (Zm.refl _) (.cons h1 (.cons h2 .nil))))
theorem Z4s (rs:List YQ):T3 (V8 rs) (UV (rs.map YQ.er)):=T3.map (f:=G7) (g:=QZ) (e:=YQ.er) (fun c=>⟨rfl,Z92 c⟩) rs
theorem Z91 (n:X7):VI (C2 n) (Wb n.er):=.cons (Zm.els _ (Z4r _)) (.cons (Zm.els _ (Z4s _)) .nil)
theorem J4 (n:X7):Zm (VJ n) (X6 n.er):=Zm.agg (Z91 n)
theorem Wj.args_le {P:Program} {f:FuncId} {as1 xs:List AV} {h:List Res} {R:AV->List Res->Prop} (H:Wj P f xs h R) (hle:VI as1 xs):Wj P f as1 h R:=
 fun w G vs hvs hh=>H w G vs (hle.cs hvs) hh
theorem D8 {es:List AV} {k:Nat} (h:es.all (fun y=>Nat.beq y.leaves.length k)=true):∀y∈es,y.leaves.length=k:=fun y hy=>Ub (Bp.1 h y hy)
abbrev rK (g:Hd) (k:Nat) (ls:List AV):Res:=.row g.v k ls
section
variable {P:Program} {n:Nat} {c:Code} {A:Wx} {F:Fr} {h:List Res} {ops:Array Oper} {B:Fr->List Res->Prop} {k:Nat}
variable {T:List (Nat × List Nat)} {fuel:Nat} {done:List Nat}
theorem tB (is:List Nat) (hs:List Res) (L' L:List (Value × Nat)) (e:L'=L) (hp:Wt is h=some hs:=by kernel_rfl) (hb:Qi hs=some L':=by kernel_rfl):Qe h (.many L::XK is h):=e▸Zey is hp hb
theorem rr {v:Value} {q:Nat} {ls ls':List AV} {t t':List Res} (h:ls=ls') (e:t=t'):Res.row v q ls::t=.row v q ls'::t':=h▸e▸rfl
theorem Z7t (j m:Nat) (v:Hd) (kk:Nat) (ls:List AV) (hm:ls.length=m*kk) (hk:0<kk:=by omega) (hl:JM P ops F k=some (.h v):=by kernel_rfl) (hj:h[j]? = some (rK v kk ls):=by kernel_rfl):Xb P (Zl ops k) F h [] (.i m):=
 Zdv j hl hj hm hk
theorem Jc (b l c' q sz:Nat) (j:Int) (hq:j=(q:Int)/\q<l:=by omega) (hi:JJ P ops F k=some (.val (.slice (some ⟨b,0,none⟩) l c'),j,sz):=by kernel_rfl):Xb P (Zl ops k) F h [] (.val (.pointer (some ⟨b,q*sz,none⟩))):=by
 have:=Lj (P:=P) (F:=F) (h:=h) hi om om
 rw [hq.1,Qy,Vk] at this
 exact this
theorem OG (j g len cap kk o:Nat) (ls zs:List AV) (t:TypeId) (y:AV) (hz:(ls.drop o).take zs.length=zs) (hl:I7 ops F k=some (t,.val (.pointer (some ⟨g,o,none⟩))):=by kernel_rfl) (hj:h[j]? = some (.row (.slice (some ⟨g,0,none⟩) len cap) kk ls):=by kernel_rfl)
  (hy:JO P t zs=some y:=by kernel_rfl):Xb P (Zl ops k) F h [g] y:=Zdw j hl hj hz hy
theorem B7 (j g len cap kk o:Nat) (xs ls:List AV) (ls':List AV) (hlt:o+xs.length<=ls.length) (he:ls.take o++xs++ls.drop (o+xs.length)=ls') (H:SI P n ops B (k+1) F (.row (.slice (some ⟨g,0,none⟩) len cap) kk ls'::XK [j] h)) (hk:YI n ops F k=true:=by kernel_rfl)
  (hs:storeAt P ops F k=some (g,o,xs):=by kernel_rfl) (hp:Wt [j] h=some [.row (.slice (some ⟨g,0,none⟩) len cap) kk ls]:=by kernel_rfl):SI P n ops B k F h:=
 Uv hk (XY.perm (Uj (Vu hp)) (PJ hs hlt (by rw [he];exact H)))
theorem dKS (i j:Nat) (js bs:List Nat) (g len cap kk o:Nat) (xs ls:List AV) (ls':List AV) (hlt:o+xs.length<=ls.length) (he:ls.take o++xs++ls.drop (o+xs.length)=ls')
  (H:Yx P n ops B (T.filter fun t=>!Vb ops i t.1) fuel (done++[i]) F (.row (.slice (some ⟨g,0,none⟩) len cap) kk ls'::XK [j] h)) (hk:YI n ops F i=true:=by kernel_rfl)
  (hs:storeAt P ops F i=some (g,o,xs):=by kernel_rfl) (hp:Wt [j] h=some [.row (.slice (some ⟨g,0,none⟩) len cap) kk ls]:=by kernel_rfl) (ho:Ux ops i T=bs:=by kernel_rfl)
  (hj:js.map (fun q=>(WH (XK [j] h))[q]?)=bs.map some:=by kernel_rfl):VH P n ops B T fuel done F h i:=
 J6 [j] js bs hk (Vu hp) ho hj (PJ (h2:=[]) hs hlt (by rw [he];exact H))
theorem HK (sz:Nat) (hK:∀g,SI P n ops B (k+1) (F.put (Zl ops k).dst (.val (.slice (some ⟨g,0,none⟩) 0 0))) (.row (.slice (some ⟨g,0,none⟩) 0 0) sz []::h)) (hk:YI n ops F k=true:=by kernel_rfl)
  (ha:Q5 P ops F k=some ([],0,sz):=by kernel_rfl):SI P n ops B k F h:=Uv hk (Za7 (VQ hk).2.1 ha hK)
theorem HJ (j g sz:Nat) (xs:List AV) (hx:Option Value) (hxs:∀y∈xs,y.leaves.length=sz) (hbound:xs.length<=1099511627776) (hK:∀v:Hd,SI P n ops B (k+1) (F.put (Zl ops k).dst (.h v)) (rK v sz (Zu xs)::XK [j] h))
  (hk:YI n ops F k=true:=by kernel_rfl) (ha:QG P ops F k=some (.val (.slice (some ⟨g,0,none⟩) 0 0),.sl xs hx,sz):=by kernel_rfl) (hp:Wt [j] h=some [.row (.slice (some ⟨g,0,none⟩) 0 0) sz []]:=by kernel_rfl):SI P n ops B k F h:=
 Uv hk (XY.perm (Uj (Vu hp)) (Za6 (VQ hk).2.1 ha hxs hbound hK))
theorem BV (l:Nat) (zs:List AV) (kk:Nat) (hK:∀g,SI P n ops B (k+1) (F.put (Zl ops k).dst (.val (.slice (some ⟨g,0,none⟩) l l))) (.row (.slice (some ⟨g,0,none⟩) l l) kk (List.replicate l zs).flatten::h)) (hl:l<=4294967296:=by omega)
  (hk:YI n ops F k=true:=by kernel_rfl) (hm:Ic P ops F k=some ((l:Int),(l:Int),zs):=by kernel_rfl) (hz:zs.length=kk:=by rfl) (hk0:0<kk:=by omega):SI P n ops B k F h:=by
 subst hz
 exact Uv hk (Za8 (VQ hk).2.1 hm hl hk0 hK)
theorem OF (j m:Nat) {v:Hd} {kk:Nat} {ls:List AV} (hm:ls.length=m*kk) (h0:0<m) (H:∀g c',v=⟨some ⟨g,0,none⟩,m,c'⟩->Y2 P n c A F h) (hk:0<kk:=by omega) (hj:h[j]? = some (rK v kk ls):=by kernel_rfl):Y2 P n c A F h:=
 Z0a j m hj hm hk h0 H
theorem Ba (t j:Nat) {v:Hd} {kk:Nat} (es:List AV) (hes:∀y∈es,y.leaves.length=kk) (H:Y2 P n c A ((t,.sl es (some v.v))::F) (.tail v.v kk::XK [j] h)) (hk:0<kk:=by omega) (hF':F.get t=.h v:=by kernel_rfl)
  (hp:Wt [j] h=some [rK v kk (Zu es)]:=by kernel_rfl):Y2 P n c A F h:=Z09 t j hF' hp hes hk H
theorem Zeh (j i p:Nat) (u v:Value) (kk kv:Nat) (es ls:List AV) (hes:∀y∈es,y.leaves.length=kk) (hl:ls[p]? = some (.val u)) (hk:0<kk:=by omega) (hp:Wt [j,i] h=some [.row u kk (Zu es),.row v kv ls]:=by kernel_rfl) :
  Qe h (.row v kv (ls.set p (.sl es (some u)))::.tail u kk::XK [j,i] h):=Zez j i p hp hes hk hl
theorem AA {A xs ys B:List AV} {o:Nat} (hA:A.length=o) (hl:xs.length=ys.length):(A++(xs++B)).take o++ys++(A++(xs++B)).drop (o+ys.length)=A++(ys++B):=by
 subst hA
 rw [Cq,<-hl,<-List.drop_drop,List.drop_left,List.drop_left,U1]
theorem Rf {A xs B:List AV} {o:Nat} (hA:A.length=o):((A++(xs++B)).drop o).take xs.length=xs:=by
 subst hA
 rw [List.drop_left,Cq]
theorem Qn (xs ys:List AV):Zu (xs++ys)=Zu xs++Zu ys:=by simp [Zu]
theorem JY (j:Nat) (v:Value) (q:Nat) (ls ls':List AV) (e:ls=ls') (hp:Wt [j] h=some [.row v q ls]:=by kernel_rfl):Qe h (.row v q ls'::XK [j] h):=by
 subst e
 intro w G hh
 have hp':=Uj (Vu hp)
 exact ⟨G,hh.perm hp',(Yu.refl w G h).perm (Kt _) hp'⟩
end
end Go.Abs
end
namespace Go.Abs
abbrev Yo:=Nat->Nat->Option Value
abbrev V6:=Nat × Nat
def upd (m:Yo) (a:V6) (z:Int):Yo:=fun g o=>if g=a.1/\o=a.2 then some (.int .i64 z) else m g o
def wr (m:Yo):List V6->Int->Yo
 | [],_=>m
 | a::r,k=>wr (upd m a k) r (k+1)
def X9 (m:Yo):List V6->Int->Prop
 | [],_=>True
 | a::r,k=>m a.1 a.2=some (.int .i64 k)/\X9 m r (k+1)
theorem AL:∀(as1 bs:List V6) (m:Yo) (k:Int),wr m (as1++bs) k=wr (wr m as1 k) bs (k+as1.length)
 | [],bs,m,k=>by simp [wr]
 | a::r,bs,m,k=>by
  rw [Ku,wr,wr,AL r bs,XI]
  congr 1
  omega
theorem Kd:∀(as1 bs:List V6) (m:Yo) (k:Int),X9 m (as1++bs) k↔X9 m as1 k/\X9 m bs (k+as1.length)
 | [],bs,m,k=>by simp [X9]
 | a::r,bs,m,k=>by
  rw [Ku,X9,X9,Kd r bs,XI,and_assoc,show k+1+(r.length:Int)=k+((r.length+1:Nat):Int) by omega]
theorem SQ:∀(as1:List V6) (m:Yo) (k:Int) (b:V6),b∉as1->wr m as1 k b.1 b.2=m b.1 b.2
 | [],m,k,b,_=>rfl
 | a::r,m,k,b,h=>by
  rw [wr,SQ r _ _ b fun q=>h (Xy _ q),upd,Z4]
  rintro ⟨h1,h2⟩
  exact h (by rw [show b=a from Prod.ext h1 h2];exact YY ..)
theorem HI:∀(as1:List V6) (m:Yo) (k:Int),as1.Nodup->X9 (wr m as1 k) as1 k
 | [],m,k,_=>trivial
 | a::r,m,k,h=>by
  have hn:=List.nodup_cons.1 h
  refine ⟨?_,HI r _ _ hn.2⟩
  rw [wr,SQ r _ _ a hn.1,upd,Z6 ⟨rfl,rfl⟩]
def Vf (m:Yo) (a:V6):Prop:=∃z,m a.1 a.2=some (.int .i64 z)
structure Kp (m m':Yo):Prop where
 i:∀{a:V6},Vf m a->Vf m' a
 h:∀{g o:Nat} {v:Value},m g o=some v->(∀z,v≠.int .i64 z)->m' g o=some v
theorem Kp.refl (m:Yo):Kp m m:=⟨id,fun h _=>h⟩
theorem Kp.upd {m m':Yo} (k:Kp m m') {b:V6} (hb:Vf m b) (z:Int):Kp m (upd m' b z):=by
 refine ⟨fun {a} h=>?_,fun {g o v} h hv=>?_⟩
 ·by_cases e:a=b
  ·subst e;exact ⟨z,Z6 ⟨rfl,rfl⟩⟩
  ·obtain ⟨y,hy⟩:=k.i h
   exact ⟨y,(Z4 fun q=>e (Prod.ext q.1 q.2)).trans hy⟩
 ·show (if g=b.1/\o=b.2 then some (Value.int .i64 z) else m' g o)=some v
  rw [Z4]
  ·exact k.h h hv
  ·rintro ⟨rfl,rfl⟩
   obtain ⟨y,hy⟩:=hb
   rw [h] at hy
   exact hv y (Tn hy)
theorem Kp.wr:∀{as1:List V6} {m m':Yo},Kp m m'->(∀a∈as1,Vf m a)->∀z:Int,Kp m (wr m' as1 z)
 | [],_,_,k,_,_=>k
 | a::_,_,_,k,h,z=>Kp.wr (k.upd (h a (YY ..)) z) (fun b hb=>h b (Xy _ hb)) (z+1)
def Wm (B:List Nat) (v:Value) (n:Nat):Prop:=(v=Pm/\n=0)∨∃g cap,v=.slice (some ⟨g,0,none⟩) n cap/\g∈B
theorem Wm.ni {B:List Nat} {v:Value} {n:Nat} (h:Wm B v n):∀z,v≠.int .i64 z:=by
 intro z e
 rcases h with ⟨rfl,_⟩|⟨g,cap,rfl,_⟩<;>cases e
theorem Wm.blk {B:List Nat} {v:Value} {n i:Nat} (h:Wm B v n) (hi:i<n):Z3 v∈B/\∃cap,v=.slice (some ⟨Z3 v,0,none⟩) n cap:=by
 rcases h with ⟨rfl,rfl⟩|⟨g,cap,rfl,hg⟩
 ·omega
 ·exact ⟨hg,cap,rfl⟩
section
variable {P:Program} {n:Nat} {ops:Array Oper} {B:Fr->List Res->Prop} {k:Nat} {F:Fr} {h h2:List Res}
theorem Zdt {S:List Nat} {v:Value} {m:Nat} (hh:Wm S v m) (hl:JM P ops F k=some (.val v)):Xb P (Zl ops k) F h [] (.val (.int .i64 m)):=by
 unfold JM at hl
 generalize hoo:Zl ops k=o at hl
 obtain ⟨dst,op,type,pos,after,guard⟩:=o
 cases op<;>simp only at hl<;>try (cases hl)
 rename_i c
 obtain ⟨callee,args,tys⟩:=c
 simp only at hl
 split at hl
 ·rename_i x t hargs htys
  split at hl
  ·rename_i el hu
   simp only [Xr] at hl
   intro n w G a hF hh'
   have hv:=hF.ev x
   rw [hl] at hv
   have hv:=hv.val_inv
   obtain ⟨ad,cap,rfl⟩:∃ad cap,v=.slice ad m cap:=by
    rcases hh with ⟨rfl,rfl⟩|⟨g,cap,rfl,_⟩
    ·exact ⟨none,0,rfl⟩
    ·exact ⟨_,cap,rfl⟩
   have e1:args=#[x]:=by rw [<-VR (xs:=args),hargs]
   have e2:tys=#[t]:=by rw [<-VR (xs:=tys),htys]
   subst e1;subst e2
   exact ⟨_,.val,fun w' _ _=>by simp [execOp,resolve,invoke,builtin,hv,Builtin.len_,Vw hu,goInt]⟩
  ·cases hl
 ·cases hl
theorem Ki (S:List Nat) (v:Value) (m:Nat) (hh:Wm S v m) (hl:JM P ops F k=some (.val v):=by kernel_rfl):Xb P (Zl ops k) F h [] (.i m):=Zdt hh hl
theorem WK (S:List Nat) (v:Value) (m q sz:Nat) (j:Int) (hh:Wm S v m) (hq:j=(q:Int)/\q<m:=by omega) (hi:JJ P ops F k=some (.val v,j,sz):=by kernel_rfl) :
  Xb P (Zl ops k) F h [] (.val (.pointer (some ⟨Z3 v,q*sz,none⟩))):=by
 obtain ⟨_,cap,e⟩:=hh.blk hq.2
 rw [e] at hi
 have:=Lj (P:=P) (F:=F) (h:=h) hi om om
 rw [hq.1,Qy,Vk] at this
 exact this
theorem VX (j:Nat) (S:List Nat) (m:Yo) (g o:Nat) (y:Value) (hg:g∈S) (hm:m g o=some y) (hl:D9 P ops F k=some (.val (.pointer (some ⟨g,o,none⟩))):=by kernel_rfl) (hj:h[j]? = some (.own S m):=by kernel_rfl) :
  Xb P (Zl ops k) F h [g] (.val y):=by
 unfold D9 at hl
 generalize hoo:Zl ops k=q at hl
 obtain ⟨dst,op,type,pos,after,guard⟩:=q
 cases op<;>simp only at hl<;>try (cases hl)
 rename_i t x
 split at hl
 ·rename_i hagg
  simp only [Xr] at hl
  intro n w G a hF hh
  have hv:=hF.ev x
  rw [hl] at hv
  have hv:=hv.val_inv
  obtain ⟨cs,e,h1,h2⟩:=hh.ok _ (YF hj) g hg
  refine ⟨y,.val,fun w' _ hw=>?_⟩
  have hrow:=hw g (by simp)
  rw [h1] at hrow
  simp only [execOp,hv]
  refine Vi ?_
  simp only [Instr.loadAt,Instr.sureAddr,Sem.run_bind,Sem.run_pure,Result.andThen_ok,loadVar,Cc hagg]
  have:=cell_of_row w' g o cs e (0,0) hrow
  rw [h2,hm] at this
  simp [load,Sem.run,this]
 ·cases hl
theorem Za5 {K:Fr->List Res->Prop} {S:List Nat} {m:Yo} {g o:Nat} {z:Int} (hs:storeAt P ops F k=some (g,o,[.i z])) (hg:g∈S) (hi:Vf m (g,o))
  (hK:K F (.own S (upd m (g,o) z)::h2)):XY P n (Zl ops k) F (.own S m::h2) K:=by
 unfold storeAt at hs
 generalize hoo:Zl ops k=q at hs
 obtain ⟨dst,op,type,pos,after,guard⟩:=q
 cases op<;>simp only at hs<;>try (cases hs)
 rename_i t x y
 split at hs
 ·rename_i b' o' inf hx hi'
  split at hs
  ·rename_i hc
   simp only [Xv] at hc
   simp only [Xr,Prod.mk.injEq] at hs
   obtain ⟨rfl,rfl,hz⟩:=hs
   intro Q w G a hF hh
   have hvx:=hF.ev x
   rw [hx] at hvx
   have hvx:=hvx.val_inv
   have hvy:=hF.ev y
   have hcs:=hvy.cells hc.2.1
   rw [hz] at hcs hc
   have hone:=hcs.one_cells hc.2.2
   have YH:inf.size=1:=Ub hc.1
   obtain ⟨c,Z5⟩:∃c,(a.eval y).cells.toList=[c]:=by
    have:=hcs.length
    cases hq:(a.eval y).cells.toList with
    | nil=>rw [hq] at this;simp at this
    | cons c r=>cases r with
     | nil=>exact ⟨c,rfl⟩
     | cons _ _=>rw [hq] at this;simp at this
   have hlen:(a.eval y).cells.size=1:=by rw [<-KY,Z5];rfl
   rw [Z5] at hcs
   have hcz:c=.int .i64 z:=by
    cases hcs with
    | cons h _=>exact h.val_inv
   subst hcz
   have hmem:Res.own S m∈Res.own S m::h2:=YY ..
   obtain ⟨cs,e,h1,hcell⟩:=hh.ok _ hmem b' hg
   obtain ⟨old,X9⟩:=hi
   have hlt:o'<cs.size:=by
    have:=hcell o'
    have hq:cs[o']? = some (.int .i64 old):=this.trans X9
    exact (VG.1 hq).1
   have hst:=run_storeCells_at P b' o' e (a.eval y).cells.toList 0 cs w h1 (by simp [hlen];omega) hone
   simp only [Bu,KY] at hst
   have hr:(execOp a.eval { dst:=none,op:=.store t x y,type:=type,pos:=pos,after:=after,guard:=guard }).run P w =
     .ok .skip (w.setRow b' (cs.toList.take o'++(a.eval y).cells.toList++cs.toList.drop (o'+(a.eval y).cells.size)).toArray):=by
    simp only [execOp,hvx]
    simp [Instr.storeAt,Instr.sureAddr,storeVar,Q9 hi',hlen,YH,hst]
   unfold Oper.wp
   rw [hr]
   have hset:(cs.toList.take o'++(a.eval y).cells.toList++cs.toList.drop (o'+(a.eval y).cells.size))=cs.toList.set o' (.int .i64 z):=by
    rw [Z5,hlen]
    exact IS cs.toList o' _ (by simpa using hlt)
   rw [hset]
   have hA:Vz G w (w.setRow b' (cs.toList.set o' (.int .i64 z)).toArray) G:=⟨fun c j hg'=>by
    have hne:c≠b':=fun he=>hh.prot _ hmem c j (by rw [he];exact hg) hg'
    simp [World.cell?,V4 w b' c _ hne],fun _ _ h=>h⟩
   have e1:Yu w G [.own S m] (w.setRow b' (cs.toList.set o' (.int .i64 z)).toArray) G [.own S (upd m (b',o') z)]:=by
    refine ⟨rfl,rfl,rfl,by simp [World.setRow],fun _ _ h=>h,?_,fun _ _ _ h=>.inl h,?_⟩
    ·intro c hc'
     by_cases hcb:c=b'
     ·subst hcb
      exact .ce ⟨cs,_,e,(0,0),h1,setRow_heap w c cs _ e (0,0) h1,by simp,fun j hj=>absurd ⟨_,YY ..,hg⟩ hj⟩
     ·exact .inl (V4 w b' c _ hcb)
    ·rintro c j _ ⟨r,hr,hf⟩
     rw [YL.1 hr] at hf
     exact ⟨_,YY ..,hf⟩
   have e2:ZZ (w.setRow b' (cs.toList.set o' (.int .i64 z)).toArray) G [.own S (upd m (b',o') z)]:=by
    refine ⟨fun r hr=>?_,Kw _ _,fun r hr c j hf hg'=>?_,fun c j hg'=>?_⟩
    ·rw [YL.1 hr]
     intro c hc'
     by_cases hcb:c=b'
     ·subst hcb
      refine ⟨_,e,setRow_heap w c cs _ e (0,0) h1,fun j=>?_⟩
      show (cs.toList.set o' (.int .i64 z)).toArray[j]? = if c=c/\j=o' then some (.int .i64 z) else m c j
      simp only [List.getElem?_toArray,List.getElem?_set]
      by_cases hj:o'=j
      ·subst hj;simp [hlt]
      ·rw [Z4 hj,Z4 (by intro q;exact hj q.2.symm)]
       simpa using hcell j
     ·obtain ⟨ds,e',k1,k2⟩:=hh.ok _ hmem c hc'
      refine ⟨ds,e',(V4 w b' c _ hcb).trans k1,fun j=>(k2 j).trans ?_⟩
      show m c j=if c=b'/\j=o' then _ else m c j
      rw [Z4 fun q=>hcb q.1]
    ·rw [YL.1 hr] at hf
     exact hh.prot _ hmem c j hf hg'
    ·have:=hh.lt c j hg'
     simpa [World.setRow] using this
   obtain ⟨j1,j2⟩:=ZZ.frame (h:=[.own S m]) (k:=h2) hh e1 e2
   refine ⟨F,_,G,hK,?_,j1,j2⟩
   have:=hF.mono (j2.agree hh)
   simpa [Act.put] using this
  ·cases hs
 ·cases hs
theorem JI (j:Nat) (S:List Nat) (m:Yo) (g o:Nat) (z:Int) (hg:g∈S) (hi:Vf m (g,o)) (H:SI P n ops B (k+1) F (.own S (upd m (g,o) z)::XK [j] h)) (hk:YI n ops F k=true:=by kernel_rfl)
  (hs:storeAt P ops F k=some (g,o,[.i z]):=by kernel_rfl) (hp:Wt [j] h=some [.own S m]:=by kernel_rfl):SI P n ops B k F h:=
 Uv hk (XY.perm (Uj (Vu hp)) (Za5 hs hg hi H))
theorem Be {S:List Nat} {m m':Yo} {t t':List Res} (h:m=m') (e:t=t'):Res.own S m::t=.own S m'::t':=h▸e▸rfl
end
def Xz (ts:List (Value × Nat)):List Nat:=ts.filterMap (·.1.ownBlock)
theorem TV (a b:List (Value × Nat)):Xz (a++b)=Xz a++Xz b:=by simp [Xz]
theorem Wm.own {B:List Nat} {v:Value} {n:Nat} (h:Wm B v n) (h0:0<n) (k:Nat):Z3 v∈Xz [(v,k)]:=by
 rcases h with ⟨rfl,rfl⟩|⟨g,cap,rfl,hg⟩
 ·omega
 ·simp [Xz,Z3,Value.ownBlock]
def ZA (g:Nat):Nat->Nat->List V6
 | _,0=>[]
 | o,n+1=>(g,o)::ZA g (o+1) n
def DX (c:X3):List V6:=ZA (Z3 c.fv) 0 c.fields.length
def WW:List X3->List V6
 | []=>[]
 | c::r=>DX c++WW r
def AT (g o:Nat) (d:YP):List V6:=(g,o)::(g,o+1)::WW d.cons
def Wn (g:Nat):Nat->List YP->List V6
 | _,[]=>[]
 | o,d::r=>AT g o d++Wn g (o+3) r
mutual
def QF (g o:Nat):ZX->List V6
 | .mk _ _ _ args av kids kv=>(g,o)::(g,o+1)::(g,o+2)::(ZA (Z3 av) 0 args.length++Xj (Z3 kv) 0 kids)
def QE (g o:Nat):ZV->List V6
 | .mk steps sv _=>Yi (Z3 sv) 0 steps++[(g,o+1)]
def Yi (g:Nat):Nat->List ZX->List V6
 | _,[]=>[]
 | o,s::r=>QF g o s++Yi g (o+5) r
def Xj (g:Nat):Nat->List ZV->List V6
 | _,[]=>[]
 | o,b::r=>QE g o b++Xj g (o+2) r
end
def Jr (g o:Nat) (r:YQ):List V6:=
 ZA (Z3 r.pv) 0 r.params.length++(ZA (Z3 r.lv) 0 r.lent.length++((g,o+2)::(Yi (Z3 r.body.sv) 0 r.body.steps++[(g,o+4)])))
def WP (g:Nat):Nat->List YQ->List V6
 | _,[]=>[]
 | o,r::rs=>Jr g o r++WP g (o+5) rs
def W8 (y:X7):List V6:=Wn (Z3 y.dv) 0 y.decls++WP (Z3 y.rv) 0 y.routines
def TQ (m:Yo) (g n:Nat):Prop:=∀i,i<n->Vf m (g,i)
def Qa (m:Yo) (B:List Nat) (g o:Nat) (v:Value) (n:Nat):Prop:=m g o=some v/\Wm B v n
def IX (m:Yo) (B:List Nat) (g o:Nat) (c:X3):Prop:=Qa m B g o c.fv c.fields.length/\TQ m (Z3 c.fv) c.fields.length
def KS (m:Yo) (B:List Nat) (g:Nat):Nat->List X3->Prop
 | _,[]=>True
 | o,c::r=>IX m B g o c/\KS m B g (o+1) r
def L0 (m:Yo) (B:List Nat) (g o:Nat) (d:YP):Prop:=Vf m (g,o)/\Vf m (g,o+1)/\Qa m B g (o+2) d.cv d.cons.length/\KS m B (Z3 d.cv) 0 d.cons
def Jf (m:Yo) (B:List Nat) (g:Nat):Nat->List YP->Prop
 | _,[]=>True
 | o,d::r=>L0 m B g o d/\Jf m B g (o+3) r
mutual
def QT (m:Yo) (B:List Nat) (g o:Nat):ZX->Prop
 | .mk _ _ _ args av kids kv=>(Vf m (g,o)/\Vf m (g,o+1)/\Vf m (g,o+2))/\(Qa m B g (o+3) av args.length/\TQ m (Z3 av) args.length)/\(Qa m B g (o+4) kv kids.length/\Ua m B (Z3 kv) 0 kids)
def QS (m:Yo) (B:List Nat) (g o:Nat):ZV->Prop
 | .mk steps sv _=>(Qa m B g o sv steps.length/\Vx m B (Z3 sv) 0 steps)/\Vf m (g,o+1)
def Vx (m:Yo) (B:List Nat) (g:Nat):Nat->List ZX->Prop
 | _,[]=>True
 | o,s::r=>QT m B g o s/\Vx m B g (o+5) r
def Ua (m:Yo) (B:List Nat) (g:Nat):Nat->List ZV->Prop
 | _,[]=>True
 | o,b::r=>QS m B g o b/\Ua m B g (o+2) r
end
def FA (m:Yo) (B:List Nat) (g o:Nat) (r:YQ):Prop:=
 (Qa m B g o r.pv r.params.length/\TQ m (Z3 r.pv) r.params.length)/\(Qa m B g (o+1) r.lv r.lent.length/\TQ m (Z3 r.lv) r.lent.length)/\Vf m (g,o+2) /\
  (Qa m B g (o+3) r.body.sv r.body.steps.length/\Vx m B (Z3 r.body.sv) 0 r.body.steps)/\Vf m (g,o+4)
def Jg (m:Yo) (B:List Nat) (g:Nat):Nat->List YQ->Prop
 | _,[]=>True
 | o,r::rs=>FA m B g o r/\Jg m B g (o+5) rs
def Qb (m:Yo) (B:List Nat) (y:X7):Prop:=(Wm B y.dv y.decls.length/\Jf m B (Z3 y.dv) 0 y.decls)/\(Wm B y.rv y.routines.length/\Jg m B (Z3 y.rv) 0 y.routines)
theorem Gi (g o:Nat) (s:ZX):QF g o s=(g,o)::(g,o+1)::(g,o+2)::(ZA (Z3 s.av) 0 s.args.length++Xj (Z3 s.kv) 0 s.kids):=by cases s;rw [QF];rfl
theorem Ga (g o:Nat) (b:ZV):QE g o b=Yi (Z3 b.sv) 0 b.steps++[(g,o+1)]:=by cases b;rw [QE];rfl
theorem RI (m:Yo) (B:List Nat) (g o:Nat) (s:ZX):QT m B g o s=((Vf m (g,o)/\Vf m (g,o+1)/\Vf m (g,o+2))/\(Qa m B g (o+3) s.av s.args.length/\TQ m (Z3 s.av) s.args.length)/\(Qa m B g (o+4) s.kv s.kids.length/\Ua m B (Z3 s.kv) 0 s.kids)):=by cases s;rw [QT];rfl
theorem RE (m:Yo) (B:List Nat) (g o:Nat) (b:ZV):QS m B g o b=((Qa m B g o b.sv b.steps.length/\Vx m B (Z3 b.sv) 0 b.steps)/\Vf m (g,o+1)):=by cases b;rw [QS];rfl
section
variable {m m':Yo} {B:List Nat}
theorem Fz (kq:Kp m m') {g n:Nat} (h:TQ m g n):TQ m' g n:=fun i hi=>kq.i (h i hi)
theorem AE (kq:Kp m m') {g o n:Nat} {v:Value} (h:Qa m B g o v n):Qa m' B g o v n:=⟨kq.h h.1 h.2.ni,h.2⟩
theorem IZ (kq:Kp m m') {g:Nat}:∀{o:Nat} {cs:List X3},KS m B g o cs->KS m' B g o cs
 | _,[],_=>trivial
 | _,_::_,h=>⟨⟨AE kq h.1.1,Fz kq h.1.2⟩,IZ kq h.2⟩
theorem RG (kq:Kp m m') {g:Nat}:∀{o:Nat} {ds:List YP},Jf m B g o ds->Jf m' B g o ds
 | _,[],_=>trivial
 | _,_::_,h=>⟨⟨kq.i h.1.1,kq.i h.1.2.1,AE kq h.1.2.2.1,IZ kq h.1.2.2.2⟩,RG kq h.2⟩
mutual
theorem Zc1 (kq:Kp m m') {g o:Nat}:∀{s:ZX},QT m B g o s->QT m' B g o s
 | .mk _ _ _ _ _ _ _,h=>by rw [QT] at h ⊢;exact ⟨⟨kq.i h.1.1,kq.i h.1.2.1,kq.i h.1.2.2⟩,⟨AE kq h.2.1.1,Fz kq h.2.1.2⟩,⟨AE kq h.2.2.1,IW kq h.2.2.2⟩⟩
theorem Zc0 (kq:Kp m m') {g o:Nat}:∀{s:ZV},QS m B g o s->QS m' B g o s
 | .mk _ _ _,h=>by rw [QS] at h ⊢;exact ⟨⟨AE kq h.1.1,Dt kq h.1.2⟩,kq.i h.2⟩
theorem Dt (kq:Kp m m') {g:Nat}:∀{o:Nat} {xs:List ZX},Vx m B g o xs->Vx m' B g o xs
 | _,[],_=>by rw [Vx];trivial
 | _,_::_,h=>by rw [Vx] at h ⊢;exact ⟨Zc1 kq h.1,Dt kq h.2⟩
theorem IW (kq:Kp m m') {g:Nat}:∀{o:Nat} {xs:List ZV},Ua m B g o xs->Ua m' B g o xs
 | _,[],_=>by rw [Ua];trivial
 | _,_::_,h=>by rw [Ua] at h ⊢;exact ⟨Zc0 kq h.1,IW kq h.2⟩
end
theorem L6 (kq:Kp m m') {g:Nat}:∀{o:Nat} {rs:List YQ},Jg m B g o rs->Jg m' B g o rs
 | _,[],_=>trivial
 | _,_::_,h=>⟨⟨⟨AE kq h.1.1.1,Fz kq h.1.1.2⟩,⟨AE kq h.1.2.1.1,Fz kq h.1.2.1.2⟩,kq.i h.1.2.2.1,⟨AE kq h.1.2.2.2.1.1,Dt kq h.1.2.2.2.1.2⟩,kq.i h.1.2.2.2.2⟩,L6 kq h.2⟩
end
section
variable {m:Yo} {B:List Nat} {g:Nat}
theorem IY:∀{o i:Nat} {cs:List X3} {c:X3},KS m B g o cs->cs[i]? = some c->IX m B g (o+i) c
 | _,_,[],_,_,h=>by simp at h
 | _,0,_::_,_,h,hc=>by simp at hc;subst hc;exact h.1
 | o,i+1,_::_,_,h,hc=>by rw [show o+(i+1)=o+1+i by omega];exact IY h.2 (by simpa using hc)
theorem L4:∀{o i:Nat} {cs:List YP} {c:YP},Jf m B g o cs->cs[i]? = some c->L0 m B g (o+i*3) c
 | _,_,[],_,_,h=>by simp at h
 | _,0,_::_,_,h,hc=>by simp at hc;subst hc;simpa using h.1
 | o,i+1,_::_,_,h,hc=>by rw [show o+(i+1)*3=o+3+i*3 by omega];exact L4 h.2 (by simpa using hc)
theorem L7:∀{o i:Nat} {cs:List ZX} {c:ZX},Vx m B g o cs->cs[i]? = some c->QT m B g (o+i*5) c
 | _,_,[],_,_,h=>by simp at h
 | _,0,_::_,_,h,hc=>by rw [Vx] at h;simp at hc;subst hc;simpa using h.1
 | o,i+1,_::_,_,h,hc=>by rw [Vx] at h;rw [show o+(i+1)*5=o+5+i*5 by omega];exact L7 h.2 (by simpa using hc)
theorem IV:∀{o i:Nat} {cs:List ZV} {c:ZV},Ua m B g o cs->cs[i]? = some c->QS m B g (o+i*2) c
 | _,_,[],_,_,h=>by simp at h
 | _,0,_::_,_,h,hc=>by rw [Ua] at h;simp at hc;subst hc;simpa using h.1
 | o,i+1,_::_,_,h,hc=>by rw [Ua] at h;rw [show o+(i+1)*2=o+2+i*2 by omega];exact IV h.2 (by simpa using hc)
theorem L5:∀{o i:Nat} {cs:List YQ} {c:YQ},Jg m B g o cs->cs[i]? = some c->FA m B g (o+i*5) c
 | _,_,[],_,_,h=>by simp at h
 | _,0,_::_,_,h,hc=>by simp at hc;subst hc;simpa using h.1
 | o,i+1,_::_,_,h,hc=>by rw [show o+(i+1)*5=o+5+i*5 by omega];exact L5 h.2 (by simpa using hc)
end
section
variable {m:Yo} {B:List Nat}
theorem M6 {g:Nat}:∀{n o:Nat} {a:V6},a∈ZA g o n->a.1=g/\o<=a.2/\a.2<o+n
 | 0,_,_,h=>by simp [ZA] at h
 | n+1,o,a,h=>by
  rcases YA.1 h with rfl|h
  ·exact ⟨rfl,X1 _,by show o<o+(n+1);omega⟩
  ·have:=M6 h;omega
theorem Ab {g n:Nat} (h:TQ m g n):∀a∈ZA g 0 n,Vf m a:=by
 intro a ha
 obtain ⟨h1,h2,h3⟩:=M6 ha
 have:=h a.2 om
 rw [<-h1] at this
 exact this
theorem Ge {g:Nat}:∀{o:Nat} {cs:List X3},KS m B g o cs->∀a∈WW cs,Vf m a
 | _,[],_,a,ha=>by cases ha
 | _,_::_,h,a,ha=>(Yz.1 ha).elim (Ab h.1.2 a) (Ge h.2 a)
theorem Gg {g:Nat}:∀{o:Nat} {ds:List YP},Jf m B g o ds->∀a∈Wn g o ds,Vf m a
 | _,[],_,a,ha=>by cases ha
 | _,_::_,h,a,ha=>by
  rcases Yz.1 ha with ha|ha
  ·rcases YA.1 ha with rfl|ha
   ·exact h.1.1
   ·rcases YA.1 ha with rfl|ha
    ·exact h.1.2.1
    ·exact Ge h.1.2.2.2 a ha
  ·exact Gg h.2 a ha
mutual
theorem Z0i {g o:Nat}:∀{s:ZX},QT m B g o s->∀a∈QF g o s,Vf m a
 | .mk _ _ _ _ _ _ _,h,a,ha=>by
  rw [QT] at h
  rw [QF] at ha
  rcases YA.1 ha with rfl|ha
  ·exact h.1.1
  rcases YA.1 ha with rfl|ha
  ·exact h.1.2.1
  rcases YA.1 ha with rfl|ha
  ·exact h.1.2.2
  exact (Yz.1 ha).elim (Ab h.2.1.2 a) (Gd h.2.2.2 a)
theorem Z0d {g o:Nat}:∀{s:ZV},QS m B g o s->∀a∈QE g o s,Vf m a
 | .mk _ _ _,h,a,ha=>by
  rw [QS] at h
  rw [QE] at ha
  rcases Yz.1 ha with ha|ha
  ·exact Cv h.1.2 a ha
  ·rw [YL.1 ha];exact h.2
theorem Cv {g:Nat}:∀{o:Nat} {xs:List ZX},Vx m B g o xs->∀a∈Yi g o xs,Vf m a
 | _,[],_,a,ha=>by rw [Yi] at ha;cases ha
 | _,_::_,h,a,ha=>by
  rw [Vx] at h
  rw [Yi] at ha
  exact (Yz.1 ha).elim (Z0i h.1 a) (Cv h.2 a)
theorem Gd {g:Nat}:∀{o:Nat} {xs:List ZV},Ua m B g o xs->∀a∈Xj g o xs,Vf m a
 | _,[],_,a,ha=>by rw [Xj] at ha;cases ha
 | _,_::_,h,a,ha=>by
  rw [Ua] at h
  rw [Xj] at ha
  exact (Yz.1 ha).elim (Z0d h.1 a) (Gd h.2 a)
end
theorem Z0g {g o:Nat} {r:YQ} (h:FA m B g o r):∀a∈Jr g o r,Vf m a:=by
 intro a ha
 rcases Yz.1 ha with ha|ha
 ·exact Ab h.1.2 a ha
 rcases Yz.1 ha with ha|ha
 ·exact Ab h.2.1.2 a ha
 rcases YA.1 ha with rfl|ha
 ·exact h.2.2.1
 rcases Yz.1 ha with ha|ha
 ·exact Cv h.2.2.2.1.2 a ha
 ·rw [YL.1 ha];exact h.2.2.2.2
theorem Mc {g:Nat}:∀{o:Nat} {rs:List YQ},Jg m B g o rs->∀a∈WP g o rs,Vf m a
 | _,[],_,a,ha=>by cases ha
 | _,_::_,h,a,ha=>(Yz.1 ha).elim (Z0g h.1 a) (Mc h.2 a)
end
def Zn (g lo hi:Nat) (X:List Nat) (a:V6):Prop:=(a.1=g/\lo<=a.2/\a.2<hi)∨a.1∈X
structure Nd (g lo hi:Nat) (X:List Nat) (as1:List V6):Prop where
 nd:(X.Nodup/\g∉X)->as1.Nodup
 zn:∀a∈as1,Zn g lo hi X a
theorem Nd.nil (g lo:Nat):Nd g lo lo [] []:=⟨fun _=>.nil,fun a ha=>by cases ha⟩
theorem Nd.app {g l1 h1 l2 h2:Nat} {X Y:List Nat} {as1 bs:List V6} (ha:Nd g l1 h1 X as1) (hb:Nd g l2 h2 Y bs) (hlt:h1<=l2) (hl:l1<=l2) (hh:h1<=h2):Nd g l1 h2 (X++Y) (as1++bs):=by
 refine ⟨fun ⟨hd,hg⟩=>?_,fun a hm=>?_⟩
 ·have hdd:=List.nodup_append.1 hd
  have hg1:g∉X:=fun q=>hg (Yz.2 (.inl q))
  have hg2:g∉Y:=fun q=>hg (Yz.2 (.inr q))
  refine List.nodup_append.2 ⟨ha.nd ⟨hdd.1,hg1⟩,hb.nd ⟨hdd.2.1,hg2⟩,fun a h1 b h2 e=>?_⟩
  subst e
  rcases ha.zn a h1 with q1|q1<;>rcases hb.zn a h2 with q2|q2
  ·omega
  ·exact hg2 (q1.1▸q2)
  ·exact hg1 (q2.1▸q1)
  ·exact hdd.2.2 _ q1 _ q2 rfl
 ·rcases Yz.1 hm with h|h
  ·rcases ha.zn a h with q|q
   ·exact .inl ⟨q.1,q.2.1,by omega⟩
   ·exact .inr (Yz.2 (.inl q))
  ·rcases hb.zn a h with q|q
   ·exact .inl ⟨q.1,by omega,q.2.2⟩
   ·exact .inr (Yz.2 (.inr q))
theorem Nd.one (g o:Nat):Nd g o (o+1) [] [(g,o)]:=⟨fun _=>by simp,fun a ha=>by rw [YL.1 ha];exact .inl ⟨rfl,X1 _,Nat.lt_succ_self _⟩⟩
theorem Nd.sub {g lo c hi:Nat} {v:Value} {k:Nat} {X:List Nat} {as1:List V6} {B:List Nat} {n:Nat} (h:Nd (Z3 v) lo hi X as1) (hd:Wm B v n) (he:n=0->as1=[]):Nd g c c (X++Xz [(v,k)]) as1:=by
 rcases Nat.eq_zero_or_pos n with h0|h0
 ·rw [he h0];exact ⟨fun _=>.nil,fun a ha=>by cases ha⟩
 ·have hm:=hd.own h0 k
  have e:Xz [(v,k)]=[Z3 v]:=by
   obtain ⟨_,cap,e⟩:=hd.blk h0
   rw [e];rfl
  refine ⟨fun ⟨hx,_⟩=>h.nd ?_,fun a ha=>.inr ?_⟩
  ·have hdd:=List.nodup_append.1 hx
   exact ⟨hdd.1,fun q=>hdd.2.2 _ q _ hm rfl⟩
  ·rcases h.zn a ha with q|q
   ·rw [q.1];exact Yz.2 (.inr hm)
   ·exact Yz.2 (.inl q)
theorem M7 (g:Nat):∀(n o:Nat),Nd g o (o+n) [] (ZA g o n)
 | 0,o=>Nd.nil g o
 | n+1,o=>by
  have h:=(Nd.one g o).app (M7 g n (o+1)) (X1 _) om om
  rw [show o+1+n=o+(n+1) by omega] at h
  exact h
section
variable {m:Yo} {B:List Nat}
theorem FH {g c n:Nat} {v:Value} (h:Wm B v n):Nd g c c (Xz [(v,1)]) (ZA (Z3 v) 0 n):=by
 have:=(M7 (Z3 v) n 0).sub (g:=g) (c:=c) (k:=1) h (fun e=>by rw [e];rfl)
 simpa using this
theorem LZ {g c:Nat}:∀{o:Nat} {cs:List X3} {b:Nat},KS m B b o cs->Nd g c c (Xz (X8 cs)) (WW cs)
 | _,[],_,_=>Nd.nil g c
 | _,x::r,_,h=>by
  have e:X8 (x::r)=[(x.fv,1)]++X8 r:=rfl
  rw [e,TV]
  exact (FH h.1.1.2).app (LZ h.2) (X1 _) (X1 _) (X1 _)
theorem M4 {g:Nat}:∀{o:Nat} {ds:List YP},Jf m B g o ds->Nd g o (o+3*ds.length) (Xz (X2 ds)) (Wn g o ds)
 | o,[],_=>Nd.nil g o
 | o,x::r,h=>by
  have e:X2 (x::r)=(X8 x.cons++[(x.cv,3-2)])++X2 r:=rfl
  rw [e,TV,TV]
  have h1:Nd g (o+2) (o+2) (Xz (X8 x.cons)++Xz [(x.cv,3-2)]) (WW x.cons):=by
   refine Nd.sub (lo:=0) (hi:=0) (v:=x.cv) (LZ h.1.2.2.2) h.1.2.2.1.2 fun q=>?_
   rw [Bq.1 q];rfl
  have h2:=(Nd.one g o).app ((Nd.one g (o+1)).app h1 om om om) om om om
  have h3:=h2.app (M4 (o:=o+3) h.2) om om om
  rw [show o+3+3*r.length=o+3*(x::r).length by simp;omega] at h3
  exact h3
mutual
theorem Z0j {g:Nat} {o:Nat}:∀{s:ZX},QT m B g o s->Nd g o (o+5) (Xz (Xw s)) (QF g o s)
 | .mk op num into args av kids kv,h=>by
  rw [QT] at h
  rw [Xw,QF]
  have e:(av,1)::(YS kids++[(kv,2)])=[(av,1)]++(YS kids++[(kv,2)]):=rfl
  rw [e,TV,TV]
  have h1:Nd g (o+5) (o+5) (Xz (YS kids)++Xz [(kv,2)]) (Xj (Z3 kv) 0 kids):=by
   refine Nd.sub (v:=kv) (LV h.2.2.2) h.2.2.1.2 fun q=>?_
   rw [Bq.1 q,Xj]
  have h0:Nd g (o+3) (o+3) (Xz [(av,1)]) (ZA (Z3 av) 0 args.length):=FH h.2.1.1.2
  exact (Nd.one g o).app ((Nd.one g (o+1)).app ((Nd.one g (o+2)).app (h0.app h1 om om om) om om om) om om om) om om om
theorem Z0e {g:Nat} {o:Nat}:∀{s:ZV},QS m B g o s->Nd g o (o+2) (Xz (YW s)) (QE g o s)
 | .mk steps sv result,h=>by
  rw [QS] at h
  rw [YW,QE,TV]
  have h1:Nd g o o (Xz (YC steps)++Xz [(sv,5)]) (Yi (Z3 sv) 0 steps):=by
   refine Nd.sub (v:=sv) (Gl h.1.2) h.1.1.2 fun q=>?_
   rw [Bq.1 q,Yi]
  have h2:=h1.app (Nd.one g (o+1)) om om om
  rw [AM] at h2
  exact h2
theorem Gl {g:Nat}:∀{o:Nat} {xs:List ZX},Vx m B g o xs->Nd g o (o+5*xs.length) (Xz (YC xs)) (Yi g o xs)
 | o,[],_=>by rw [YC,Yi];exact Nd.nil g o
 | o,x::r,h=>by
  rw [Vx] at h
  rw [YC,Yi,TV]
  have h3:=(Z0j h.1).app (Gl (o:=o+5) h.2) om om om
  rw [show o+5+5*r.length=o+5*(x::r).length by simp;omega] at h3
  exact h3
theorem LV {g:Nat}:∀{o:Nat} {xs:List ZV},Ua m B g o xs->Nd g o (o+2*xs.length) (Xz (YS xs)) (Xj g o xs)
 | o,[],_=>by rw [YS,Xj];exact Nd.nil g o
 | o,x::r,h=>by
  rw [Ua] at h
  rw [YS,Xj,TV]
  have h3:=(Z0e h.1).app (LV (o:=o+2) h.2) om om om
  rw [show o+2+2*r.length=o+2*(x::r).length by simp;omega] at h3
  exact h3
end
theorem Md {g:Nat}:∀{o:Nat} {rs:List YQ},Jg m B g o rs->Nd g o (o+5*rs.length) (Xz (X5 rs)) (WP g o rs)
 | o,[],_=>Nd.nil g o
 | o,x::r,h=>by
  have e:X5 (x::r)=([(x.pv,1)]++([(x.lv,1)]++YW x.body))++X5 r:=rfl
  rw [e,TV,TV,TV,EF,TV]
  have h1:Nd g (o+3) (o+3) (Xz (YC x.body.steps)++Xz [(x.body.sv,5)]) (Yi (Z3 x.body.sv) 0 x.body.steps):=by
   refine Nd.sub (v:=x.body.sv) (Gl h.1.2.2.2.1.2) h.1.2.2.2.1.1.2 fun q=>?_
   rw [Bq.1 q,Yi]
  have h2:=h1.app (Nd.one g (o+4)) om om om
  rw [AM] at h2
  have h3:=(Nd.one g (o+2)).app h2 om om om
  have h4:Nd g (o+1) (o+1) (Xz [(x.lv,1)]) (ZA (Z3 x.lv) 0 x.lent.length):=FH h.1.2.1.1.2
  have h5:Nd g o o (Xz [(x.pv,1)]) (ZA (Z3 x.pv) 0 x.params.length):=FH h.1.1.1.2
  have h6:=(h5.app (h4.app h3 om om om) om om om).app (Md (o:=o+5) h.2) om om om
  rw [show o+5+5*r.length=o+5*(x::r).length by simp;omega] at h6
  exact h6
theorem Z0f {y:X7} (h:Qb m B y) (hn:(Xz (Xh y)).Nodup):(W8 y).Nodup:=by
 have e:Xh y=(X2 y.decls++[(y.dv,3)])++(X5 y.routines++[(y.rv,5)]):=by simp [Xh]
 rw [e,TV,TV,TV] at hn
 obtain ⟨g,hg⟩:∃g,g∉(Xz (X2 y.decls)++Xz [(y.dv,3)])++(Xz (X5 y.routines)++Xz [(y.rv,5)]):=by
  generalize (Xz (X2 y.decls)++Xz [(y.dv,3)])++(Xz (X5 y.routines)++Xz [(y.rv,5)])=l
  refine ⟨l.sum+1,fun q=>?_⟩
  have:∀(l:List Nat) (x:Nat),x∈l->x<=l.sum:=by
   intro l
   induction l with
   | nil=>intro x hx;cases hx
   | cons a r ih=>
    intro x hx
    rw [AN]
    rcases YA.1 hx with rfl|hx
    ·omega
    ·have:=ih x hx;omega
  have:=this l _ q
  omega
 have h1:Nd g 0 0 (Xz (X2 y.decls)++Xz [(y.dv,3)]) (Wn (Z3 y.dv) 0 y.decls):=by
  refine Nd.sub (v:=y.dv) (M4 h.1.2) h.1.1 fun q=>?_
  rw [Bq.1 q];rfl
 have h2:Nd g 0 0 (Xz (X5 y.routines)++Xz [(y.rv,5)]) (WP (Z3 y.rv) 0 y.routines):=by
  refine Nd.sub (v:=y.rv) (Md h.2.2) h.2.1 fun q=>?_
  rw [Bq.1 q];rfl
 exact (h1.app h2 om om om).nd ⟨hn,hg⟩
end
theorem ZH {α:Type} {xs:List α} {k:Nat} {x:α} (h:xs[k]? = some x):xs.drop k=x::xs.drop (k+1):=by
 have hk:=(W5.1 h).1
 rw [SV hk]
 congr 1
 rw [Qz hk] at h
 exact Tn h
theorem YV {α:Type} {xs:List α} {k:Nat} (h:xs.length<=k):xs.drop k=[]:=QU h
theorem WU {α:Type} {xs:List α} {k:Nat} {x:α} (h:xs[k]? = some x):xs.take (k+1)=xs.take k++[x]:=by
 rw [List.take_add_one,h];rfl
def Yk:List Zg->Nat
 | []=>0
 | d::ds=>d.cons.length+Yk ds
theorem CF (xs ys:List Zg):Yk (xs++ys)=Yk xs+Yk ys:=by
 induction xs with
 | nil=>simp [Yk]
 | cons d ds ih=>simp [Yk,ih];omega
structure Wk (ds:List Zg):Prop where
 len:ds.length<=4
 cons:∀d∈ds,d.cons.length<=3
 fields:∀d∈ds,∀c∈d.cons,c.fields.length<=3
theorem Z2s {ds:List Zg} {m:Nat} (h:∀d∈ds,d.cons.length<=m):Yk ds<=ds.length*m:=by
 induction ds with
 | nil=>simp [Yk]
 | cons d ds ih=>
  have h1:=h d (by simp)
  have h2:=ih (fun x hx=>h x (by simp [hx]))
  simp only [Yk,XI,QB];omega
theorem Wk.sum {ds:List Zg} (h:Wk ds):Yk ds<=12:=by
 have:=Z2s h.cons
 have:=h.len
 have:ds.length*3<=4*3:=Cr 3 h.len
 omega
theorem Wk.take {ds:List Zg} (h:Wk ds) (k:Nat):Wk (ds.take k):=
 ⟨by have:=h.len;simp;omega,fun d hd=>h.cons d (Cp hd),fun d hd=>h.fields d (Cp hd)⟩
theorem Wk.cons_at {ds:List Zg} (h:Wk ds) {k:Nat} {d:Zg} (hd:ds[k]? = some d):d.cons.length<=3:=h.cons d (YF hd)
theorem Wk.fields_at {ds:List Zg} (h:Wk ds) {k j:Nat} {d:Zg} {c:Xs} (hd:ds[k]? = some d) (hc:d.cons[j]? = some c):c.fields.length<=3:=
 h.fields d (YF hd) c (YF hc)
def US (c:Int):List Zg->Nat->Nat->Int × LI
 | [],_,_=>(-1,[])
 | d::ds,i,first=>
  if (first:Int)<=c/\c<=((first+d.cons.length:Nat):Int)-1 then ((i:Int)+1,(d.cons[(c-first).toNat]?.map (·.fields)).getD []) else US c ds (i+1) (first+d.cons.length)
def XN (ds:List Zg) (c:Int):Int:=(US c ds 0 0).1
def Y1 (ds:List Zg) (c:Int):LI:=(US c ds 0 0).2
theorem GU {c:Int}:∀{ds:List Zg} {i first:Nat},(US c ds i first=(-1,[]) ∨
  ∃k d x,ds[k]? = some d/\(first+Yk (ds.take k):Int)<=c/\c<first+Yk (ds.take k)+d.cons.length/\d.cons[(c-(first+Yk (ds.take k))).toNat]? = some x/\US c ds i first=((i:Int)+k+1,x.fields))
 | [],_,_=>.inl rfl
 | d::ds,i,first=>by
  rw [US]
  split
  ·rename_i h
   have hlt:(c-first).toNat<d.cons.length:=by omega
   refine .inr ⟨0,d,d.cons[(c-first).toNat],rfl,by simp [Yk];omega,by simp [Yk];omega,?_,?_⟩
   ·simp [Yk]
   ·rw [Qz hlt];simp
  ·rcases GU (c:=c) (ds:=ds) (i:=i+1) (first:=first+d.cons.length) with h|⟨k,e,x,h1,h2,h3,h4,h5⟩
   ·exact .inl h
   ·refine .inr ⟨k+1,e,x,by simpa using h1,by simp [Yk];omega,by simp [Yk];omega,?_,?_⟩
    ·rw [<-h4];congr 3;simp [Yk];omega
    ·rw [h5];congr 1;omega
theorem GV {ds:List Zg} {c:Int} (h:¬XN ds c<1) :
  ∃k d x,ds[k]? = some d/\(Yk (ds.take k):Int)<=c/\d.cons[(c-Yk (ds.take k)).toNat]? = some x/\XN ds c=(k:Int)+1/\Y1 ds c=x.fields:=by
 rcases GU (c:=c) (ds:=ds) (i:=0) (first:=0) with h1|⟨k,d,x,h1,h2,_,h4,h5⟩
 ·simp [XN,h1] at h
 ·exact ⟨k,d,x,h1,by simpa using h2,by simpa using h4,by simp [XN,h5],by simp [Y1,h5]⟩
theorem Ed {ds:List Zg} {c:Int} (h:XN ds c<1):Y1 ds c=[]/\XN ds c=-1:=by
 rcases GU (c:=c) (ds:=ds) (i:=0) (first:=0) with h1|⟨k,d,x,h1,h2,_,h4,h5⟩
 ·simp [Y1,XN,h1]
 ·simp [XN,h5] at h;omega
def Vh (first:Int):Nat->LI
 | 0=>[]
 | n+1=>first::Vh (first+1) n
theorem Pw (first:Int) (n:Nat):Vh first (n+1)=Vh first n++[first+n]:=by
 induction n generalizing first with
 | zero=>simp [Vh]
 | succ n ih=>rw [Vh,ih (first+1),Vh];simp;omega
@[simp] theorem Z9p (first:Int) (n:Nat):(Vh first n).length=n:=by
 induction n generalizing first with
 | zero=>rfl
 | succ n ih=>simp [Vh,ih]
def YB (ds:List Zg) (t:Int):LI:=
 if 1<=t/\t<=ds.length then Vh (Yk (ds.take (t-1).toNat)) (((ds[(t-1).toNat]?).map (·.cons.length)).getD 0) else []
def QH (frm to_:Int):List Zg->Nat->Int
 | [],_=>-1
 | d::ds,i=>if d.cons.length=0/\d.frm=frm/\d.to_=to_ then (i:Int)+1 else QH frm to_ ds (i+1)
def Tf (ds:List Zg) (frm to_:Int):Int:=QH frm to_ ds 0
def XO (ds:List Zg) (t:Int):Bool:=decide (1<=t/\t<=ds.length)&&((ds[(t-1).toNat]?).map fun d=>decide (d.cons.length=0)).getD false
theorem ET {ds:List Zg} {t:Int} {x:Zg} (h:1<=t/\t<=ds.length) (hx:ds[(t-1).toNat]? = some x):((x.cons.length:Int)==0)=XO ds t:=by
 rw [XO,hx,Wp];simp [h]
theorem HP {ds:List Zg} {t:Int} (h:¬(1<=t/\t<=ds.length)):false=XO ds t:=by
 rw [XO,Wp];simp only [Bool.false_eq_true,Xv,decide_eq_true_eq,h,false_and]
def XT (m:Nat) (xs:LI):Bool:=xs.all fun t=>decide (0<=t/\t<=m)
structure Sg where
 params:LI
 result:Int
abbrev LP (f:Sg):AV:=.agg [.sl (Zk f.params) none,.i f.result,.i 0,.i 0,.sl [] none]
def U6 (fs:List Sg):List AV:=fs.map LP
theorem Hg {xs:List Sg} {j:Nat} {x:Sg} (h:xs[j]? = some x):(U6 xs)[j]? = some (LP x):=by simp [U6,h]
@[simp] theorem Nx (xs:List Sg):(U6 xs).length=xs.length:=by simp [U6]
theorem Nw (xs:List Sg):∀y∈U6 xs,y.leaves.length=5:=by intro y hy;simp only [U6,Xe] at hy;obtain ⟨x,_,rfl⟩:=hy;rfl
theorem Z47 (xs:List Sg):(Zu (U6 xs)).all AV.one=true:=KI fun y hy=>by simp only [U6,Xe] at hy;obtain ⟨x,_,rfl⟩:=hy;rfl
mutual
def Z7.sz:Z7->Nat
 | .mk _ _ _ args kids=>1+args.length+Xn kids
def Zf.sz:Zf->Nat
 | .mk steps _=>1+Y9 steps
def Y9:List Z7->Nat
 | []=>0
 | s::r=>s.sz+Y9 r
def Xn:List Zf->Nat
 | []=>0
 | b::r=>b.sz+Xn r
end
theorem Z7.sz_pos (s:Z7):1<=s.sz:=by cases s;rw [Z7.sz];omega
theorem Zf.sz_pos (b:Zf):1<=b.sz:=by cases b;rw [Zf.sz];omega
theorem S4 (l:List Z7):l.length<=Y9 l:=by
 induction l with
 | nil=>simp
 | cons s r ih=>have:=s.sz_pos;simp only [XI,Y9];omega
theorem MB (l:List Zf):l.length<=Xn l:=by
 induction l with
 | nil=>simp
 | cons s r ih=>have:=s.sz_pos;simp only [XI,Xn];omega
theorem Du {l:List Z7} {k:Nat} {s:Z7} (h:l[k]? = some s):s.sz<=Y9 l:=by
 induction l generalizing k with
 | nil=>simp at h
 | cons t r ih=>
  cases k with
  | zero=>simp at h;subst h;simp only [Y9];omega
  | succ k=>have:=ih (k:=k) (by simpa using h);simp only [Y9];omega
theorem BD {l:List Zf} {k:Nat} {s:Zf} (h:l[k]? = some s):s.sz<=Xn l:=by
 induction l generalizing k with
 | nil=>simp at h
 | cons t r ih=>
  cases k with
  | zero=>simp at h;subst h;simp only [Xn];omega
  | succ k=>have:=ih (k:=k) (by simpa using h);simp only [Xn];omega
theorem Z7.sz_eq (s:Z7):s.sz=1+s.args.length+Xn s.kids:=by cases s;rw [Z7.sz];rfl
theorem Zf.sz_eq (b:Zf):b.sz=1+Y9 b.steps:=by cases b;rw [Zf.sz];rfl
theorem Dw {b:Zf} {k:Nat} {s:Z7} (h:b.steps[k]? = some s):s.sz<b.sz:=by have:=Du h;have:=b.sz_eq;omega
theorem Kg {s:Z7} {k:Nat} {b:Zf} (h:s.kids[k]? = some b):b.sz<s.sz:=by have:=BD h;have:=s.sz_eq;omega
theorem Ad (s:Z7):s.args.length<s.sz:=by have:=s.sz_eq;omega
theorem Qq (s:Z7):s.kids.length<s.sz:=by have:=s.sz_eq;have:=MB s.kids;omega
theorem JW (b:Zf):b.steps.length<b.sz:=by have:=b.sz_eq;have:=S4 b.steps;omega
structure Jm (ds:List Zg):Prop where
 len:ds.length<=1100000000
 cons:∀d∈ds,d.cons.length<=1100000000
 fields:∀d∈ds,∀c∈d.cons,c.fields.length<=1100000000
theorem Jm.cons_at {ds:List Zg} (h:Jm ds) {k:Nat} {d:Zg} (hd:ds[k]? = some d):d.cons.length<=1100000000:=h.cons d (YF hd)
def KE (m:Nat) (c:Xs):Bool:=decide (c.fields.length<=3)&&XT m c.fields
def Ql (d:Zg):List Zg->Bool
 | []=>false
 | e::r=>if e.cons.length=0/\e.frm=d.frm/\e.to_=d.to_ then true else Ql d r
def Th (m:Nat):List Xs->Bool
 | []=>true
 | c::r=>if KE m c=true then Th m r else false
def Ur (ds:List Zg) (d:Zg) (i:Nat):Bool:=
 if 0<d.cons.length then (if d.cons.length<=3/\d.frm=0/\d.to_=0 then Th ds.length d.cons else false)
 else if Ql d (ds.take i)=true then false else decide (0<=d.frm/\d.frm<=ds.length)&&decide (0<=d.to_/\d.to_<=ds.length)
def B0 (ds:List Zg) (i:Nat):Bool:=(ds[i]?.map fun d=>Ur ds d i).getD false
theorem CJ {ds:List Zg} {i:Nat} {d:Zg} (h:ds[i]? = some d):B0 ds i=Ur ds d i:=by rw [B0,h];rfl
def UU (ds:List Zg):List Zg->Nat->Bool
 | [],_=>true
 | _::r,i=>if B0 ds i=true then UU ds r (i+1) else false
def WB (ds:List Zg):Bool:=decide (ds.length<=4)&&UU ds ds 0
theorem N6 {m:Nat} {cs:List Xs}:Th m cs=true↔∀c∈cs,KE m c=true:=by
 induction cs with
 | nil=>simp [Th]
 | cons c r ih=>
  rw [Th]
  split
  ·rename_i h;simp [ih,h]
  ·rename_i h;simp [h]
theorem H2 {ds:List Zg}:∀{l:List Zg} {i:Nat},UU ds l i=true↔∀j<l.length,B0 ds (i+j)=true
 | [],i=>by simp [UU]
 | d::r,i=>by
  rw [UU]
  split
  ·rename_i h
   rw [H2 (l:=r)]
   constructor
   ·intro hq j hj
    cases j with
    | zero=>exact h
    | succ j=>have:=hq j (by simpa using hj);rwa [show i+(j+1)=i+1+j by omega]
   ·intro hq j hj
    have:=hq (j+1) (by simpa using hj)
    rwa [show i+(j+1)=i+1+j by omega] at this
  ·rename_i h
   simp only [Bool.false_eq_true,false_iff]
   intro hq
   exact h (hq 0 (by simp))
theorem Zf6 {ds:List Zg} (h:WB ds=true):Wk ds:=by
 simp only [WB,Xv,decide_eq_true_eq] at h
 obtain ⟨h1,h2⟩:=h
 rw [H2] at h2
 have key:∀d∈ds,∃i,Ur ds d i=true:=fun d hd=>by
  obtain ⟨i,hi⟩:=List.mem_iff_getElem?.1 hd
  have:=h2 i (W5.1 hi).1
  rw [Vk,CJ hi] at this
  exact ⟨i,this⟩
 have hc:∀d∈ds,0<d.cons.length->d.cons.length<=3/\Th ds.length d.cons=true:=fun d hd hp=>by
  obtain ⟨i,hi⟩:=key d hd
  rw [Ur,Z6 hp] at hi
  split at hi
  ·rename_i h;exact ⟨h.1,hi⟩
  ·cases hi
 refine ⟨h1,fun d hd=>?_,fun d hd c hc'=>?_⟩
 ·by_cases hp:0<d.cons.length
  ·exact (hc d hd hp).1
  ·omega
 ·have:=N6.1 (hc d hd (List.length_pos_of_mem hc')).2 c hc'
  simp only [KE,Xv,decide_eq_true_eq] at this
  exact this.1
def Kk (m:Nat) (f:Sg):Bool:=decide (f.params.length<=3)&&(XT m f.params&&decide (0<=f.result/\f.result<=m))
def Kl (m:Nat):List Sg->Bool
 | []=>true
 | f::r=>if Kk m f=true then Kl m r else false
def Ey:List Sg->Bool
 | []=>false
 | f::_=>decide (f.params.length=0)&&decide (f.result=0)
theorem Z4v {fs:List Sg} {x:Sg} (h:fs[0]? = some x):Ey fs=(decide (x.params.length=0)&&decide (x.result=0)):=by
 cases fs with
 | nil=>simp at h
 | cons f r=>simp at h;subst h;rfl
def Qx (ds:List Zg) (fs:List Sg):Bool:=
 WB ds&&(decide (1<=fs.length/\fs.length<=4)&&(Kl ds.length fs&&Ey fs))
def Q4 (ps:LI):LI->Option Int->Bool
 | [],_=>true
 | v::r,prev=>if (0<=v/\v<=(ps.length:Int)-1)/\ps[v.toNat]?≠some 0/\(∀p,prev=some p->p<v) then Q4 ps r (some v) else false
theorem I3 {ps r:LI} {v:Int} {prev:Option Int} (h:(0<=v/\v<=(ps.length:Int)-1)/\ps[v.toNat]?≠some 0/\(∀p,prev=some p->p<v)):Q4 ps (v::r) prev=Q4 ps r (some v):=by
 rw [Q4,Z6 h]
theorem F6 {ps r:LI} {v:Int} {prev:Option Int} (h:¬((0<=v/\v<=(ps.length:Int)-1)/\ps[v.toNat]?≠some 0/\(∀p,prev=some p->p<v))):Q4 ps (v::r) prev=false:=by
 rw [Q4,Z4 h]
def Kq (ps ls:LI):Bool:=Q4 ps ls none
def TN:List Yy->Bool
 | []=>true
 | r::rs=>if Kq r.params r.lent=true then TN rs else false
def VZ (r:Yy):Sg:=⟨r.params,r.result⟩
def Va (n:Zj):Bool:=decide (n.routines.length<=4)&&(Qx n.decls (n.routines.map VZ)&&TN n.routines)
end Go.Abs
section
namespace Go.Abs
def YN {α:Type} (xs:List α) (i:Int):Option α:=if 0<=i/\i<=(xs.length:Int)-1 then xs[i.toNat]? else none
theorem TC {α:Type} {xs:List α} {i:Int} {x:α} (h:0<=i/\i<=(xs.length:Int)-1) (hx:xs[i.toNat]? = some x):YN xs i=some x:=by rw [YN,Z6 h,hx]
theorem QI {α:Type} {xs:List α} {i:Int} (h:¬(0<=i/\i<=(xs.length:Int)-1)):YN xs i=none:=by rw [YN,Z4 h]
theorem K3 {α:Type} {xs:List α} {i:Int} {x:α} (h:YN xs i=some x):(0<=i/\i<=(xs.length:Int)-1)/\xs[i.toNat]? = some x:=by
 rw [YN] at h
 split at h
 ·rename_i h1;exact ⟨h1,h⟩
 ·cases h
def UN (vars:LI):LI->LI->Bool
 | [],[]=>true
 | a::as1,t::ts=>if YN vars a=some t then UN vars as1 ts else false
 | _,_=>false
def XD (vars args types:LI):Bool:=UN vars args types
theorem SA {vars:LI}:∀{args types:LI},args.length≠types.length->UN vars args types=false
 | [],[],h=>absurd rfl h
 | [],_::_,_=>rfl
 | _::_,[],_=>rfl
 | a::as1,t::ts,h=>by
  rw [UN]
  split
  ·exact SA (by simpa using h)
  ·rfl
theorem Zf5 {vars args types:LI} {k:Nat} {a t:Int} (ha:args[k]? = some a) (ht:types[k]? = some t) (h:YN vars a=some t) :
  UN vars (args.drop k) (types.drop k)=UN vars (args.drop (k+1)) (types.drop (k+1)):=by
 rw [ZH ha,ZH ht,UN,Z6 h]
theorem Sz {vars args types:LI} {k:Nat} {a t:Int} (ha:args[k]? = some a) (ht:types[k]? = some t) (h:YN vars a≠some t) :
  UN vars (args.drop k) (types.drop k)=false:=by
 rw [ZH ha,ZH ht,UN,Z4 h]
theorem Zf4 {vars args types:LI} {k:Nat} (ha:args.length<=k) (ht:types.length<=k):UN vars (args.drop k) (types.drop k)=true:=by
 rw [YV ha,YV ht];rfl
def Vd (op:Int):Bool:=op==0||(op==6||(op==8||(op==9||op==10)))
def XA (op:Int):Bool:=decide (0<=op/\op<=11)
def YT (op:Int):Bool:=decide (14<=op/\op<=17)
def Vq (vars:LI) (op into:Int):Bool:=
 if into=0 then true else if op=6 then ((YN vars (into-1)).map fun t=>decide (0<t)).getD false else false
def K1 (ds:List Zg) (ps:LI) (res:Int):Int:=Tf ds (ps.getLast?.getD 0) res
def QQ (ds:List Zg) (vars:LI) (op:Int) (args:LI) (r:Yy):Int:=
 if op=9 then (if XD vars args r.params=true then r.result else -1)
 else if r.params.length=0∨0<r.lent.length∨¬XD vars args (r.params.take (r.params.length-1))=true then -1
 else K1 ds r.params r.result
def Uz (n:Zj) (vars:LI) (op num:Int) (args:LI):Int:=
 match YN n.routines num with
 | none=>-1
 | some r=>QQ n.decls vars op args r
def TD (ds:List Zg) (vars:LI) (op:Int) (args:LI):Int:=
 match args with
 | [a]=>match YN vars a with
  | some t=>if t=0 then -1 else if (op≠14/\op≠15)/\XO ds t=true then -1 else 0
  | none=>-1
 | _=>-1
def Qg (ds:List Zg) (vars:LI) (args:LI):Int:=
 match args with
 | [a,b]=>match YN vars a with
  | some t=>if XO ds t=true then
    (match ds[(t-1).toNat]? with
     | some d=>if XD vars [b] [d.frm]=true then d.to_ else -1
     | none=>-1) else -1
  | none=>-1
 | _=>-1
def YJ (ds:List Zg) (op num:Int):List LI:=if op=7 then [[],[]] else (YB ds num).map (Y1 ds)
mutual
def ZT (n:Zj) (vars:LI):Z7->Int
 | .mk op num into args kids=>
  if (num≠0/\¬Vd op=true)∨¬Vq vars op into=true∨(0<kids.length/\op≠7/\op≠8) then -1
  else if op=0 then (if args.length=0/\(-999<=num/\num<=999) then 0 else -1)
  else if op=1∨op=2∨op=3∨op=4 then (if XD vars args [0,0]=true then 0 else -1)
  else if op=5 then (if XD vars args [0]=true then 0 else -1)
  else if op=6 then (if 0<XN n.decls num/\XD vars args (Y1 n.decls num)=true then XN n.decls num else -1)
  else if op=7 then (if XD vars args [0]=true then (if (YJ n.decls op num).length=0∨kids.length≠(YJ n.decls op num).length then -1 else XP n vars kids (YJ n.decls op num) true 0) else -1)
  else if op=8 then (if XD vars args [num]=true then (if (YJ n.decls op num).length=0∨kids.length≠(YJ n.decls op num).length then -1 else XP n vars kids (YJ n.decls op num) true 0) else -1)
  else if op=9∨op=10 then Uz n vars op num args
  else if op=11 then Qg n.decls vars args
  else if op=14∨op=15∨op=16∨op=17 then TD n.decls vars op args
  else -1
def XP (n:Zj) (vars:LI):List Zf->List LI->Bool->Int->Int
 | [],_,_,t=>t
 | b::bs,more,first,t=>
  match more with
  | []=>-1
  | m::ms=>if Yv n (vars++m) b<0∨(first=false/\Yv n (vars++m) b≠t) then -1 else XP n vars bs ms false (Yv n (vars++m) b)
def Xu (n:Zj):List Z7->LI->Option LI
 | [],vars=>some vars
 | s::r,vars=>if ZT n vars s<0 then none else Xu n r (if XA s.op=true then vars++[ZT n vars s] else vars)
def Yv (n:Zj) (vars:LI):Zf->Int
 | .mk steps result=>match Xu n steps vars with
  | none=>-1
  | some vs=>(YN vs result).getD (-1)
end
def Tc (n:Zj) (vars:LI) (op num:Int) (kids:List Zf):Int:=
 if (YJ n.decls op num).length=0∨kids.length≠(YJ n.decls op num).length then -1 else XP n vars kids (YJ n.decls op num) true 0
mutual
def Ty:Z7->Int->Int
 | .mk _ _ _ _ kids,left=>VO kids left
def XW:Zf->Int->Int
 | .mk steps _,left=>V9 steps left
def V9:List Z7->Int->Int
 | [],left=>left
 | s::r,left=>if left<1 then -1 else if Ty s (left-1)<0 then -1 else V9 r (Ty s (left-1))
def VO:List Zf->Int->Int
 | [],left=>left
 | b::r,left=>if XW b left<0 then -1 else VO r (XW b left)
end
def UM (b:Zf):Int:=if XW b 600<0 then -1 else 600-XW b 600
def Tz (n:Zj):List Yy->Bool
 | []=>true
 | r::rs=>if ¬UM r.body<0/\Yv n r.params r.body=r.result then Tz n rs else false
def XX (n:Zj):Bool:=Va n&&Tz n n.routines
theorem D7:(∀(s:Z7) (l:Int),0<=l->Ty s l<=l)/\(∀(b:Zf) (l:Int),0<=l->XW b l<=l):=by
 have key:∀m:Nat,(∀s:Z7,s.sz<=m->∀l:Int,0<=l->Ty s l<=l)/\(∀b:Zf,b.sz<=m->∀l:Int,0<=l->XW b l<=l):=by
  intro m
  induction m with
  | zero=>exact ⟨fun s h=>by have:=s.sz_pos;omega,fun s h=>by have:=s.sz_pos;omega⟩
  | succ m ih=>
   refine ⟨fun s hs l hl=>?_,fun b hb l hl=>?_⟩
   ·cases s with
    | mk op num into args kids=>
     rw [Ty]
     have hk:Xn kids<=m:=by rw [Z7.sz] at hs;omega
     clear hs
     induction kids generalizing l with
     | nil=>rw [VO];exact Int.le_refl _
     | cons b r ihr=>
      rw [Xn] at hk
      have:=ih.2 b om l hl
      rw [VO]
      split
      ·omega
      ·have:=ihr (XW b l) om om;omega
   ·cases b with
    | mk steps res=>
     rw [XW]
     have hk:Y9 steps<=m:=by rw [Zf.sz] at hb;omega
     clear hb
     induction steps generalizing l with
     | nil=>rw [V9];exact Int.le_refl _
     | cons s r ihr=>
      rw [Y9] at hk
      rw [V9]
      split
      ·omega
      ·have:=ih.1 s om (l-1) om
       split
       ·omega
       ·have:=ihr (Ty s (l-1)) om om;omega
 exact ⟨fun s l hl=>(key s.sz).1 s (X1 _) l hl,fun b l hl=>(key b.sz).2 b (X1 _) l hl⟩
end Go.Abs
namespace Go.Abs
theorem Zdg {l:List Z7} {k:Nat} {s:Z7} (h:l[k]? = some s):k+s.sz<=Y9 l:=by
 induction l generalizing k with
 | nil=>simp at h
 | cons t r ih=>
  cases k with
  | zero=>simp at h;subst h;simp only [Y9];omega
  | succ k=>have:=ih (k:=k) (by simpa using h);have:=t.sz_pos;simp only [Y9];omega
theorem FE {b:Zf} {k:Nat} {s:Z7} (h:b.steps[k]? = some s):k+s.sz<b.sz:=by have:=Zdg h;have:=b.sz_eq;omega
structure YZ (n:Zj):Prop where
 decls:Wk n.decls
 len:n.routines.length<=4
 params:∀r∈n.routines,r.params.length<=3
 lent:∀r∈n.routines,r.lent.length<=4194304
theorem YZ.params_at {n:Zj} (h:YZ n) {k:Nat} {r:Yy} (hr:n.routines[k]? = some r):r.params.length<=3:=h.params r (YF hr)
theorem YZ.lent_at {n:Zj} (h:YZ n) {k:Nat} {r:Yy} (hr:n.routines[k]? = some r):r.lent.length<=4194304:=h.lent r (YF hr)
theorem Z0z {ds:List Zg} {num:Int} {k:Nat} {x:Int} (h:(YB ds num)[k]? = some x):(YJ ds 8 num)[k]? = some (Y1 ds x):=by
 rw [YJ,Z4 om,Tm,h];rfl
end Go.Abs
namespace Go.Abs
theorem Z9o {ds:List Zg} (hd:Wk ds) (t:Int):(YB ds t).length<=3:=by
 rw [YB]
 split
 ·rename_i h
  obtain ⟨d,hd1⟩:=QM (xs:=ds) (j:=(t-1).toNat) om
  rw [hd1,Z9p]
  exact hd.cons_at hd1
 ·simp
theorem TZ {ds:List Zg} (hd:Wk ds) (c:Int):(Y1 ds c).length<=3:=by
 by_cases h:XN ds c<1
 ·rw [(Ed h).1];simp
 ·obtain ⟨k,d,x,h1,_,h3,_,h5⟩:=GV h
  rw [h5];exact hd.fields_at h1 h3
theorem Bz {ds:List Zg} (hd:Wk ds) {op num:Int} {k:Nat} {m:LI} (h:(YJ ds op num)[k]? = some m):m.length<=3:=by
 have hm:=YF h
 rw [YJ] at hm
 split at hm
 ·simp at hm;subst hm;simp
 ·obtain ⟨c,_,rfl⟩:=Xe.1 hm;exact TZ hd c
theorem K0 {α:Type} {xs:List α} {x:α} (h:xs.length=1) (hx:xs[0]? = some x):xs=[x]:=by
 cases xs with
 | nil=>simp at h
 | cons a r=>
  cases r with
  | nil=>simp at hx;rw [hx]
  | cons b r=>simp at h
theorem BG {ds:List Zg} {us args:LI} {op:Int} (h:args.length≠1):TD ds us op args=-1:=by
 cases args with
 | nil=>rfl
 | cons a r=>
  cases r with
  | nil=>simp at h
  | cons b r=>rfl
theorem BH {ds:List Zg} {us args:LI} {op a:Int} (h:args=[a]) (hi:¬(0<=a/\a<=(us.length:Int)-1)):TD ds us op args=-1:=by
 subst h;rw [TD];simp only [QI hi]
theorem BF {ds:List Zg} {us args:LI} {op a t:Int} (h:args=[a]) (hi:0<=a/\a<=(us.length:Int)-1) (ht:us[a.toNat]? = some t) :
  TD ds us op args=if t=0 then -1 else if (op≠14/\op≠15)/\XO ds t=true then -1 else 0:=by
 subst h;rw [TD];simp only [TC hi ht]
theorem Zay {n:Zj} {us args:LI} {op num:Int} {r:Yy} (hi:0<=num/\num<=(n.routines.length:Int)-1) (hr:n.routines[num.toNat]? = some r) :
  Uz n us op num args=QQ n.decls us op args r:=by
 rw [Uz];simp only [TC hi hr]
theorem Zb0 {n:Zj} {us args:LI} {op num:Int} (hi:¬(0<=num/\num<=(n.routines.length:Int)-1)):Uz n us op num args=-1:=by
 rw [Uz];simp only [QI hi]
theorem NZ {xs:LI} {x:Int} (h:xs[xs.length-1]? = some x):xs.getLast?.getD 0=x:=by
 rw [List.getLast?_eq_getElem?,h];rfl
theorem OO {n:Zj} {us:LI} {bs:List Zf} {ms:List LI} {b:Zf} {m:LI} {k:Nat} {t:Int} (hb:bs[k]? = some b) (hm:ms[k]? = some m)
  (h:¬(Yv n (us++m) b<0∨(k:Int)>0/\Yv n (us++m) b≠t)) :
  XP n us (bs.drop k) (ms.drop k) (decide (k=0)) t=XP n us (bs.drop (k+1)) (ms.drop (k+1)) (decide (k+1=0)) (Yv n (us++m) b):=by
 rw [ZH hb,ZH hm,XP,Z4]
 ·simp
 ·rintro (q|⟨q1,q2⟩)
  ·exact h (.inl q)
  ·exact h (.inr ⟨by simp at q1;omega,q2⟩)
theorem OL {n:Zj} {us:LI} {bs:List Zf} {ms:List LI} {b:Zf} {m:LI} {k:Nat} {t:Int} (hb:bs[k]? = some b) (hm:ms[k]? = some m)
  (h:Yv n (us++m) b<0∨(k:Int)>0/\Yv n (us++m) b≠t) :
  XP n us (bs.drop k) (ms.drop k) (decide (k=0)) t=-1:=by
 rw [ZH hb,ZH hm,XP,Z6]
 rcases h with q|⟨q1,q2⟩
 ·exact .inl q
 ·exact .inr ⟨by simp;omega,q2⟩
theorem OM {n:Zj} {us:LI} {bs:List Zf} {ms:List LI} {k:Nat} {f:Bool} {t:Int} (hb:bs.length<=k):XP n us (bs.drop k) (ms.drop k) f t=t:=by
 rw [YV hb,XP]
end Go.Abs
end
namespace Go.Abs
theorem KV (n:Zj) (us:LI) (s:Z7):ZT n us s =
  if (s.num≠0/\¬Vd s.op=true)∨¬Vq us s.op s.into=true∨(0<s.kids.length/\s.op≠7/\s.op≠8) then -1
  else if s.op=0 then (if s.args.length=0/\(-999<=s.num/\s.num<=999) then 0 else -1)
  else if s.op=1∨s.op=2∨s.op=3∨s.op=4 then (if XD us s.args [0,0]=true then 0 else -1)
  else if s.op=5 then (if XD us s.args [0]=true then 0 else -1)
  else if s.op=6 then (if 0<XN n.decls s.num/\XD us s.args (Y1 n.decls s.num)=true then XN n.decls s.num else -1)
  else if s.op=7 then (if XD us s.args [0]=true then Tc n us s.op s.num s.kids else -1)
  else if s.op=8 then (if XD us s.args [s.num]=true then Tc n us s.op s.num s.kids else -1)
  else if s.op=9∨s.op=10 then Uz n us s.op s.num s.args
  else if s.op=11 then Qg n.decls us s.args
  else if s.op=14∨s.op=15∨s.op=16∨s.op=17 then TD n.decls us s.op s.args
  else -1:=by
 cases s with
 | mk op num into args kids=>rw [ZT];rfl
theorem E2 (n:Zj) (us:LI) (b:Zf):Yv n us b=match Xu n b.steps us with
  | none=>-1
  | some vs=>(YN vs b.result).getD (-1):=by
 cases b with
 | mk st r=>rw [Yv];rfl
theorem Mn {α:Type} {xs:List α} {x:α} (h:xs.length=2) (hx:xs[0]? = some x):∃y,xs=[x,y]:=by
 match xs,h with
 | [a,b],_=>simp at hx;subst hx;exact ⟨b,rfl⟩
theorem UE {ds:List Zg} {us args:LI} (h:args.length≠2):Qg ds us args=-1:=by
 match args,h with
 | [],_=>rfl
 | [_],_=>rfl
 | [_,_],h=>simp at h
 | _::_::_::_,_=>rfl
theorem UF {ds:List Zg} {us args:LI} {a:Int} (hl:args.length=2) (h:args[0]? = some a) (hi:¬(0<=a/\a<=(us.length:Int)-1)):Qg ds us args=-1:=by
 obtain ⟨y,rfl⟩:=Mn hl h;rw [Qg];simp only [QI hi]
theorem Up {ds:List Zg} {us args:LI} {a t:Int} (hl:args.length=2) (h:args[0]? = some a) (hi:0<=a/\a<=(us.length:Int)-1) (ht:us[a.toNat]? = some t) :
  Qg ds us args=if XO ds t=true then
    (match ds[(t-1).toNat]? with
     | some d=>if XD us (args.drop 1) [d.frm]=true then d.to_ else -1
     | none=>-1) else -1:=by
 obtain ⟨y,rfl⟩:=Mn hl h;rw [Qg];simp only [TC hi ht];rfl
theorem Z0u {ds:List Zg} {us args:LI} {a t:Int} {d:Zg} (hl:args.length=2) (h:args[0]? = some a) (hi:0<=a/\a<=(us.length:Int)-1) (ht:us[a.toNat]? = some t)
  (hA:XO ds t=true) (hd:ds[(t-1).toNat]? = some d):Qg ds us args=if XD us (args.drop 1) [d.frm]=true then d.to_ else -1:=by
 rw [Up hl h hi ht,Z6 hA];simp only [hd]
theorem HQ {ds:List Zg} {t:Int} (h:XO ds t=true):1<=t/\t<=ds.length:=by
 simp only [XO,Xv,decide_eq_true_eq] at h;exact h.1
theorem OV (b:Zf) (l:Int):XW b l=V9 b.steps l:=by cases b;rw [XW];rfl
theorem F3 (s:Z7) (l:Int):Ty s l=VO s.kids l:=by cases s;rw [Ty];rfl
structure WM (n:Zj):Prop where
 decls:Jm n.decls
 len:n.routines.length<=4194304
 params:∀r∈n.routines,r.params.length<=4194304
 lent:∀r∈n.routines,r.lent.length<=4194304
 body:∀r∈n.routines,r.body.sz<=10000000
theorem IU {m:Nat} {fs:List Sg} (h:Kl m fs=true):∀f∈fs,Kk m f=true:=by
 induction fs with
 | nil=>simp
 | cons f r ih=>
  rw [Kl] at h
  split at h
  ·rename_i h1
   intro g hg
   rcases YA.1 hg with rfl|hg
   ·exact h1
   ·exact ih h g hg
  ·cases h
theorem Ik {n:Zj} (hz:WM n) (h:Va n=true):YZ n:=by
 simp only [Va,Qx,Xv,decide_eq_true_eq] at h
 obtain ⟨h1,⟨h2,h3,h4,h5⟩,h6⟩:=h
 refine ⟨Zf6 h2,h1,fun r hr=>?_,hz.lent⟩
 have:=IU h4 (VZ r) (Xe.2 ⟨r,hr,rfl⟩)
 simp only [Kk,Xv,decide_eq_true_eq] at this
 exact this.1
def gI (xs:LI) (i:Int):Int:=xs[i.toNat]?.getD 0
theorem Vt {xs:LI} {i:Int} {x:Int} (h:xs[i.toNat]? = some x):gI xs i=x:=by rw [gI,h];rfl
structure Zb where
 vars:LI
 own:LI
 par:LI
 con:LI
 fst:LI
 tok:LI
def Zb.grow (L:Zb) (t own par:Int):Zb:=⟨L.vars++[t],L.own++[own],L.par++[par],L.con++[-1],L.fst++[-1],L.tok++[-1]⟩
def Ul (L:Zb) (v:Int):Option Zb:=if gI L.own v<1 then none else some { L with own:=L.own.set v.toNat (gI L.own v-1) }
def Qf (own par ln:LI):Nat->Int->Bool
 | 0,_=>false
 | k+1,v=>if gI own v<1/\¬v∈ln then (if gI par v<0 then false else Qf own par ln k (gI par v)) else true
def XL (L:Zb) (ln:LI) (v:Int):Bool:=Qf L.own L.par ln (v.toNat+1) v
def UP:LI->Int->LI->LI
 | own,_,[]=>own
 | own,p,f::r=>UP (if f≠0 then own.set p.toNat (gI own p+1) else own) (p+1) r
def TP (ds:List Zg) (L:Zb) (op x:Int):Option Zb:=
 if gI L.con x<0∨(op=17/\0<=gI L.tok x) then none
 else match Ul L x with
  | none=>none
  | some L1=>some { L1 with
    own:=UP L1.own (gI L.fst x) (Y1 ds (gI L.con x))
    tok:=if op=17 then L.tok.set x.toNat (Y1 ds (gI L.con x)).length else L.tok }
def Qk (op:Int):Bool:=op==6||(op==9||(op==10||op==11))
def JN (n:Zj) (op num:Int):LI:=if op=9 then ((n.routines[num.toNat]?).map (·.lent)).getD [] else []
def VP (n:Zj) (op num:Int) (i:Nat):Bool:=decide ((i:Int)∈JN n op num)
def Q0 (n:Zj) (vars:LI) (op num a:Int) (i:Nat):Bool:=Qk op&&(gI vars a != 0&&!VP n op num i)
def TJ (n:Zj) (op num:Int):LI->Nat->Zb->Option Zb
 | [],_,L=>some L
 | a::r,i,L=>if Q0 n L.vars op num a i=true then (match Ul L a with
   | none=>none
   | some L1=>TJ n op num r (i+1) L1) else TJ n op num r (i+1) L
def Ka (n:Zj) (op num:Int) (ln:LI) (L:Zb):LI->Nat->Bool
 | [],_=>true
 | a::r,i=>if VP n op num i=true/\¬XL L ln a=true then false else Ka n op num ln L r (i+1)
def Kb (L:Zb) (into:Int) (m:Nat):Option Zb:=
 if 0<into then (if gI L.tok (into-1)≠m then none else some { L with tok:=L.tok.set (into-1).toNat (-1) }) else some L
def Ut (n:Zj) (ln:LI) (L:Zb) (op num into:Int) (args:LI):Option Zb:=
 match TJ n op num args 0 L with
 | none=>none
 | some L1=>if Ka n op num ln L1 args 0=true then Kb L1 into args.length else none
def WJ:LI->LI->Bool
 | o::os,t::ts=>if o≠0∨0<=t then false else WJ os ts
 | _,_=>true
def Zb.take (L:Zb) (m:Nat):Zb:=⟨L.vars.take m,L.own.take m,L.par.take m,L.con.take m,L.fst.take m,L.tok.take m⟩
def Ud (L:Zb) (m:Nat):Option Zb:=if WJ (L.own.drop m) (L.tok.drop m)=true then some (L.take m) else none
def K8 (L:Zb) (par:Int):LI->Zb
 | []=>L
 | t::r=>K8 (L.grow t 0 par) par r
def J3 (ds:List Zg) (L:Zb) (x c:Int):Zb:=
 K8 { L with con:=L.con.set x.toNat c,fst:=L.fst.set x.toNat L.vars.length } x (Y1 ds c)
def Vg (ds:List Zg) (L:Zb) (op num:Int) (args:LI) (i:Nat):Zb:=
 if op=8 then J3 ds L (gI args 0) (gI (YB ds num) i) else L
def Qr (lent:LI):LI->Nat->Zb->Zb
 | [],_,L=>L
 | t::r,i,L=>Qr lent r (i+1) (L.grow t (if t≠0/\¬(i:Int)∈lent then 1 else 0) (-1))
def Uw (r:Yy):Zb:=Qr r.lent r.params 0 ⟨[],[],[],[],[],[]⟩
def J7 (L:Zb) (ln:LI) (v:Int):Option Zb:=if XL L ln v=true then some { L with own:=L.own.set v.toNat (gI L.own v+1) } else none
def Q6 (n:Zj) (ln:LI) (L:Zb) (op num into:Int) (args:LI) (ch:Option Zb):Option Zb:=
 if op=14 then J7 L ln (gI args 0)
 else if op=15 then Ul L (gI args 0)
 else if op=16∨op=17 then TP n.decls L op (gI args 0)
 else if op=7∨op=8 then (if op=8/\¬XL L ln (gI args 0)=true then none else ch)
 else Ut n ln L op num into args
def K7 (L:Zb) (op t:Int) (r:Option Zb):Option Zb:=
 match r with
 | none=>none
 | some L1=>if XA op=true then some (L1.grow t (if t≠0 then 1 else 0) (-1)) else some L1
def At (L:Zb) (first:Option Zb) (rest:Zb->Bool):Option Zb:=
 match first with
 | none=>none
 | some one=>if rest one=true then some { L with own:=one.own,tok:=one.tok } else none
def Fu (one:Zb) (two:Option Zb) (rest:Bool):Bool:=
 match two with
 | none=>false
 | some two=>if one.own=two.own/\one.tok=two.tok then rest else false
def Ci (r:Option Zb) (f:Zb->Option Zb):Option Zb:=match r with|none=>none|some L=>f L
def VM (m:Nat) (res:Int) (L:Zb):Option Zb:=Ci (if gI L.vars res≠0 then Ul L res else some L) fun L2=>Ud L2 m
mutual
def T2 (n:Zj) (ln:LI) (L:Zb):Z7->Option Zb
 | .mk op num into args kids=>K7 L op (ZT n L.vars (.mk op num into args kids)) (Q6 n ln L op num into args (TL n ln L op num args kids))
def TL (n:Zj) (ln:LI) (L:Zb) (op num:Int) (args:LI):List Zf->Option Zb
 | []=>none
 | b::bs=>At L (WQ n ln (Vg n.decls L op num args 0) L.vars.length b) fun one=>QN n ln L op num args one bs 1
def QN (n:Zj) (ln:LI) (L:Zb) (op num:Int) (args:LI) (one:Zb):List Zf->Nat->Bool
 | [],_=>true
 | b::bs,i=>Fu one (WQ n ln (Vg n.decls L op num args i) L.vars.length b) (QN n ln L op num args one bs (i+1))
def V5 (n:Zj) (ln:LI) (L:Zb):List Z7->Option Zb
 | []=>some L
 | s::r=>Ci (T2 n ln L s) fun L1=>V5 n ln L1 r
def WQ (n:Zj) (ln:LI) (L:Zb) (m:Nat):Zf->Option Zb
 | .mk steps result=>Ci (V5 n ln L steps) (VM m result)
end
theorem Lk (n:Zj) (ln:LI) (L:Zb) (s:Z7):T2 n ln L s=K7 L s.op (ZT n L.vars s) (Q6 n ln L s.op s.num s.into s.args (TL n ln L s.op s.num s.args s.kids)):=by
 cases s with
 | mk op num into args kids=>rw [T2];rfl
theorem KA (n:Zj) (ln:LI) (L:Zb) (m:Nat) (b:Zf):WQ n ln L m b=Ci (V5 n ln L b.steps) (VM m b.result):=by
 cases b with
 | mk st r=>rw [WQ];rfl
def Qh (n:Zj) (r:Yy):Bool:=
 match WQ n r.lent (Uw r) r.params.length r.body with
 | none=>false
 | some L=>(Ud L 0).isSome
def K4 (n:Zj):List Yy->Bool
 | []=>true
 | r::rs=>if Qh n r=true then K4 n rs else false
def U2 (n:Zj):Bool:=XX n&&K4 n n.routines
structure Wc (L:Zb):Prop where
 own:L.own.length=L.vars.length
 par:L.par.length=L.vars.length
 con:L.con.length=L.vars.length
 fst:L.fst.length=L.vars.length
 tok:L.tok.length=L.vars.length
structure YK (ds:List Zg) (L:Zb) (q:Int):Prop where
 len:Wc L
 down:∀j:Int,0<=j->j<L.vars.length->gI L.par j<j
 arm:∀x:Int,0<=x->x<L.vars.length->0<=gI L.con x->0<=gI L.fst x/\gI L.fst x+(Y1 ds (gI L.con x)).length<=L.vars.length
 nn:∀x∈L.own,0<=x
 bd:∀x∈L.own,x<=q
end Go.Abs
section
namespace Go.Abs
end Go.Abs
namespace Go.Abs
theorem Z8w {n:Zj} {op num:Int} {r:Yy} (h:op=9) (hr:n.routines[num.toNat]? = some r):JN n op num=r.lent:=by
 rw [JN,Z6 h,hr];rfl
end Go.Abs
namespace Go.Abs
theorem Z0k {own par ln:LI} {N:Int} (hd:∀j:Int,0<=j->j<N->gI par j<j):∀(k:Nat) (v:Int),0<=v->v<N->v.toNat+1<=k->Qf own par ln k v=Qf own par ln (v.toNat+1) v:=by
 intro k
 induction k using Nat.strongRecOn with
 | ind k ih=>
  intro v h0 hN hk
  cases k with
  | zero=>omega
  | succ k=>
   rw [Qf,Qf]
   split
   ·split
    ·rfl
    ·have hdv:=hd v h0 hN
     rw [ih k om (gI par v) om om om]
     rw [ih v.toNat om (gI par v) om om om]
   ·rfl
theorem Mg {own par ln:LI} {N j x1 x2:Int} {r:Bool} (h1:gI own j=x1) (h2:gI par j=x2) (hj:0<=j/\j<N) (hx:x1<1/\¬j∈ln) (h0:¬x2<0) (hd:∀i:Int,0<=i->i<N->gI par i<i)
  (h:Qf own par ln (j.toNat+1) j=r):Qf own par ln (x2.toNat+1) x2=r:=by
 rw [Qf,h1,h2,Z6 hx,Z4 h0] at h
 have hdv:=hd j hj.1 hj.2
 rw [<-h,Z0k hd j.toNat x2 om om om]
theorem Mf {own par ln:LI} {j x1 x2:Int} {r:Bool} (h1:gI own j=x1) (h2:gI par j=x2) (hx:x1<1/\¬j∈ln) (h0:x2<0) (h:Qf own par ln (j.toNat+1) j=r):false=r:=by
 rw [Qf,h1,h2,Z6 hx,Z6 h0] at h;exact h
theorem Mh {own par ln:LI} {j x1:Int} {r:Bool} (h1:gI own j=x1) (hx:¬(x1<1/\¬j∈ln)) (h:Qf own par ln (j.toNat+1) j=r):true=r:=by
 rw [Qf,h1,Z4 hx] at h;exact h
end Go.Abs
namespace Go.Abs
theorem Qu {L L':Zb} {v:Int} (h:Ul L v=some L'):1<=gI L.own v/\L'.vars=L.vars/\L'.par=L.par/\L'.con=L.con/\L'.fst=L.fst/\L'.tok=L.tok/\L'.own=L.own.set v.toNat (gI L.own v-1):=by
 rw [Ul] at h
 split at h
 ·cases h
 ·cases h;exact ⟨by omega,rfl,rfl,rfl,rfl,rfl,rfl⟩
theorem Hy {xs:LI} {v:Int} (h:gI xs v≠0):gI xs v∈xs:=by
 rw [gI] at h ⊢
 cases hx:xs[v.toNat]? with
 | none=>rw [hx] at h;exact absurd rfl h
 | some y=>exact YF hx
theorem QP {xs:LI} {i:Nat} {a x:Int} (h:x∈xs.set i a):x∈xs∨x=a:=List.mem_or_eq_of_mem_set h
theorem YK.take {ds:List Zg} {L L':Zb} {q v:Int} (hk:YK ds L q) (h:Ul L v=some L'):YK ds L' q:=by
 obtain ⟨t1,t2,t3,t4,t5,t6,t7⟩:=Qu h
 obtain ⟨f1,f2,f3,f4,f5⟩:=hk.len
 have hm:=Hy (xs:=L.own) (v:=v) om
 refine ⟨⟨by rw [t7,t2,QA];exact f1,by rw [t3,t2];exact f2,by rw [t4,t2];exact f3,by rw [t5,t2];exact f4,by rw [t6,t2];exact f5⟩,?_,?_,?_,?_⟩
 ·rw [t2,t3];exact hk.down
 ·rw [t2,t4,t5];exact hk.arm
 ·rw [t7];intro x hx
  rcases QP hx with hx|rfl
  ·exact hk.nn x hx
  ·omega
 ·rw [t7];intro x hx
  rcases QP hx with hx|rfl
  ·exact hk.bd x hx
  ·have:=hk.bd _ hm;omega
end Go.Abs
end
namespace Go.Abs
theorem Ls {us:LI}:∀{args tys:LI},UN us args tys=true->args.length=tys.length/\∀a∈args,0<=a/\a<us.length
 | [],[],_=>⟨rfl,by simp⟩
 | [],_::_,h=>by cases h
 | _::_,[],h=>by cases h
 | a::as1,t::ts,h=>by
  rw [UN] at h
  split at h
  ·rename_i h1
   obtain ⟨q1,q2⟩:=Ls h
   refine ⟨by simp [q1],fun x hx=>?_⟩
   rcases YA.1 hx with rfl|hx
   ·have:=(K3 h1).1;omega
   ·exact q2 x hx
  ·cases h
theorem OK {n:Zj} {us:LI}:∀{bs:List Zf} {ms:List LI} {f:Bool} {t:Int},0<=t->0<=XP n us bs ms f t ->
  ∀(i:Nat) (b:Zf) (m:LI),bs[i]? = some b->ms[i]? = some m->0<=Yv n (us++m) b
 | [],_,_,_,_,_,i,b,m,hb,_=>by simp at hb
 | b::bs,[],_,_,_,h,_,_,_,_,hm=>by simp at hm
 | b::bs,m::ms,f,t,ht,h,i,c,l,hc,hl=>by
  rw [XP] at h
  split at h
  ·omega
  ·rename_i hq
   have h0:0<=Yv n (us++m) b:=by
    rcases Int.lt_or_le (Yv n (us++m) b) 0 with q|q
    ·exact absurd (.inl q) hq
    ·exact q
   cases i with
   | zero=>simp at hc hl;subst hc hl;exact h0
   | succ i=>exact OK h0 h i c l (by simpa using hc) (by simpa using hl)
structure Jp (n:Zj) (us:LI) (s:Z7):Prop where
 args:∀a∈s.args,0<=a/\a<us.length
 one:(s.op=7∨s.op=8∨(14<=s.op/\s.op<=17))->∃a,s.args=[a]
 num:s.op=9->0<=s.num/\s.num<n.routines.length
 into:s.into≠0->1<=s.into/\s.into<=us.length
 kids:(s.op=7∨s.op=8)->s.kids.length=(YJ n.decls s.op s.num).length/\(YJ n.decls s.op s.num).length≠0 /\
  ∀(i:Nat) (b:Zf) (m:LI),s.kids[i]? = some b->(YJ n.decls s.op s.num)[i]? = some m->0<=Yv n (us++m) b
theorem Z82 {n:Zj} {us:LI} {op num:Int} {kids:List Zf} (h:0<=Tc n us op num kids) :
  kids.length=(YJ n.decls op num).length/\(YJ n.decls op num).length≠0/\∀(i:Nat) (b:Zf) (m:LI),kids[i]? = some b->(YJ n.decls op num)[i]? = some m->0<=Yv n (us++m) b:=by
 rw [Tc] at h
 split at h
 ·omega
 ·rename_i hq
  exact ⟨by omega,by omega,OK (Int.le_refl 0) h⟩
theorem P6 {xs:LI} (h:xs.length=1):∃a,xs=[a]:=by
 match xs,h with
 | [a],_=>exact ⟨a,rfl⟩
theorem Bh {n:Zj} {us:LI} {s:Z7} (h:0<=ZT n us s):Jp n us s:=by
 rw [KV] at h
 split at h
 ·omega
 rename_i h0
 have hinto:s.into≠0->1<=s.into/\s.into<=us.length:=by
  intro hi
  have hv:Vq us s.op s.into=true:=by
   cases q:Vq us s.op s.into with
   | true=>rfl
   | false=>exact absurd (.inr (.inl (by rw [q];simp))) h0
  rw [Vq,Z4 hi] at hv
  split at hv
  ·cases ha:YN us (s.into-1) with
   | none=>rw [ha] at hv;cases hv
   | some t=>have:=(K3 ha).1;omega
  ·cases hv
 have mk:(∀a∈s.args,0<=a/\a<us.length)->((s.op=7∨s.op=8∨(14<=s.op/\s.op<=17))->∃a,s.args=[a])->(s.op=9->0<=s.num/\s.num<n.routines.length) ->
   ((s.op=7∨s.op=8)->0<=Tc n us s.op s.num s.kids)->Jp n us s:=fun a b c d=>⟨a,b,c,hinto,fun q=>Z82 (d q)⟩
 have ty:∀{tys},XD us s.args tys=true->s.args.length=tys.length/\∀a∈s.args,0<=a/\a<us.length:=fun q=>Ls q
 split at h
 ·rename_i h1
  split at h
  ·rename_i h2
   exact mk (by rw [List.eq_nil_of_length_eq_zero h2.1];simp) om om om
  ·omega
 split at h
 ·split at h
  ·rename_i h1 h2;exact mk (ty h2).2 om om om
  ·omega
 split at h
 ·split at h
  ·rename_i h1 h2;exact mk (ty h2).2 om om om
  ·omega
 split at h
 ·split at h
  ·rename_i h1 h2;exact mk (ty h2.2).2 om om om
  ·omega
 split at h
 ·split at h
  ·rename_i h1 h2;exact mk (ty h2).2 (fun _=>P6 (by simpa using (ty h2).1)) om (fun _=>h)
  ·omega
 split at h
 ·split at h
  ·rename_i h1 h2;exact mk (ty h2).2 (fun _=>P6 (by simpa using (ty h2).1)) om (fun _=>h)
  ·omega
 split at h
 ·rename_i hop
  rw [Uz] at h
  cases hr:YN n.routines s.num with
  | none=>rw [hr] at h;simp at h
  | some r=>
   rw [hr] at h
   simp only at h
   have hn:=(K3 hr).1
   rw [QQ] at h
   split at h
   ·split at h
    ·rename_i h2;exact mk (ty h2).2 om om om
    ·omega
   ·split at h
    ·omega
    ·rename_i h2
     have h3:XD us s.args (r.params.take (r.params.length-1))=true:=by
      cases q:XD us s.args (r.params.take (r.params.length-1)) with
      | true=>rfl
      | false=>exact absurd (.inr (.inr (by rw [q];simp))) h2
     exact mk (ty h3).2 om om om
 split at h
 ·rename_i hop
  rcases he:s.args with _|⟨a,_|⟨b,_|⟨c,r⟩⟩⟩
  ·rw [he,show Qg n.decls us []=-1 from rfl] at h;omega
  ·rw [he,show Qg n.decls us [a]=-1 from rfl] at h;omega
  ·rw [he,Qg] at h
   cases ha:YN us a with
   | none=>rw [ha] at h;simp at h
   | some t=>
    rw [ha] at h
    simp only at h
    split at h
    ·cases hd:n.decls[(t-1).toNat]? with
     | none=>rw [hd] at h;simp at h
     | some d=>
      rw [hd] at h
      simp only at h
      split at h
      ·rename_i h3
       have h4:=(Ls h3).2 b (by simp)
       have h5:=(K3 ha).1
       refine mk (fun x hx=>?_) om om om
       rw [he] at hx
       rcases YA.1 hx with rfl|hx
       ·omega
       ·rw [YL.1 hx];exact h4
      ·omega
    ·omega
  ·rw [he,show Qg n.decls us (a::b::c::r)=-1 from rfl] at h;omega
 split at h
 ·rename_i hop
  rcases he:s.args with _|⟨a,_|⟨b,r⟩⟩
  ·rw [he,show TD n.decls us s.op []=-1 from rfl] at h;omega
  ·rw [he,TD] at h
   cases ha:YN us a with
   | none=>rw [ha] at h;simp at h
   | some t=>
    have h5:=(K3 ha).1
    refine mk (fun x hx=>?_) (fun _=>⟨a,he⟩) om om
    rw [he] at hx
    rw [YL.1 hx];omega
  ·rw [he,show TD n.decls us s.op (a::b::r)=-1 from rfl] at h;omega
 ·omega
def KR (n:Zj) (us:LI) (s:Z7):LI:=if XA s.op=true then us++[ZT n us s] else us
theorem H6 {L L':Zb} {ln:LI} {v:Int} (h:J7 L ln v=some L'):L'.vars=L.vars/\L'.par=L.par/\L'.con=L.con/\L'.fst=L.fst/\L'.tok=L.tok/\L'.own=L.own.set v.toNat (gI L.own v+1):=by
 rw [J7] at h
 split at h
 ·cases h;exact ⟨rfl,rfl,rfl,rfl,rfl,rfl⟩
 ·cases h
theorem Gn:∀(fs:LI) (own:LI) (p:Int),(UP own p fs).length=own.length
 | [],own,p=>rfl
 | f::r,own,p=>by rw [UP,Gn r];split<;>simp
theorem Hw {xs:LI} {q v:Int} (h:∀x∈xs,x<=q) (hq:0<=q):gI xs v<=q:=by
 by_cases h0:gI xs v=0
 ·omega
 ·exact h _ (Hy h0)
theorem Hz {xs:LI} {v:Int} (h:∀x∈xs,0<=x):0<=gI xs v:=by
 by_cases h0:gI xs v=0
 ·omega
 ·exact h _ (Hy h0)
theorem Gp:∀(fs:LI) (own:LI) (p:Int),(∀x∈own,0<=x)->∀x∈UP own p fs,0<=x
 | [],own,p,h=>h
 | f::r,own,p,h=>by
  rw [UP]
  refine Gp r _ _ fun x hx=>?_
  split at hx
  ·rcases QP hx with hx|rfl
   ·exact h x hx
   ·have:=Hz (v:=p) h;omega
  ·exact h x hx
theorem Gm:∀(fs:LI) (own:LI) (p q:Int),0<=q->(∀x∈own,x<=q)->∀x∈UP own p fs,x<=q+fs.length
 | [],own,p,q,hq,h=>by intro x hx;have:=h x hx;simp;omega
 | f::r,own,p,q,hq,h=>by
  intro x hx
  rw [UP] at hx
  have:=Gm r _ _ (q+1) om (fun y hy=>by
   split at hy
   ·rcases QP hy with hy|rfl
    ·have:=h y hy;omega
    ·have:=Hw (v:=p) h hq;omega
   ·have:=h y hy;omega) x hx
  simp only [XI];omega
theorem Iq {ds:List Zg} {L L':Zb} {op v:Int} (h:TP ds L op v=some L'):L'.vars=L.vars/\L'.par=L.par/\L'.con=L.con/\L'.fst=L.fst/\L'.tok.length=L.tok.length /\
  ∃L1,Ul L v=some L1/\L'.own=UP L1.own (gI L.fst v) (Y1 ds (gI L.con v)):=by
 rw [TP] at h
 split at h
 ·cases h
 ·cases ht:Ul L v with
  | none=>rw [ht] at h;cases h
  | some L1=>
   rw [ht] at h
   simp only at h
   obtain ⟨t1,t2,t3,t4,t5,t6,t7⟩:=Qu ht
   cases h
   refine ⟨t2,t3,t4,t5,?_,L1,rfl,rfl⟩
   split
   ·rw [QA]
   ·rfl
theorem ED {n:Zj} {op num:Int} {ds:List Zg} {q:Int}:∀{as1:LI} {i:Nat} {L L':Zb},YK ds L q->TJ n op num as1 i L=some L'->YK ds L' q/\L'.vars=L.vars/\L'.par=L.par/\L'.con=L.con/\L'.fst=L.fst/\L'.tok=L.tok
 | [],i,L,L',hk,h=>by rw [TJ] at h;cases h;exact ⟨hk,rfl,rfl,rfl,rfl,rfl⟩
 | a::r,i,L,L',hk,h=>by
  rw [TJ] at h
  split at h
  ·cases ht:Ul L a with
   | none=>rw [ht] at h;cases h
   | some L1=>
    rw [ht] at h
    obtain ⟨t1,t2,t3,t4,t5,t6,t7⟩:=Qu ht
    obtain ⟨k1,k2,k3,k4,k5,k6⟩:=ED (hk.take ht) h
    exact ⟨k1,k2.trans t2,k3.trans t3,k4.trans t4,k5.trans t5,k6.trans t6⟩
  ·exact ED hk h
theorem YK.le {ds:List Zg} {L:Zb} {q q':Int} (h:YK ds L q) (hq:q<=q'):YK ds L q':=⟨h.len,h.down,h.arm,h.nn,fun x hx=>Int.le_trans (h.bd x hx) hq⟩
theorem YK.turn {ds:List Zg} {L L':Zb} {q q':Int} (hk:YK ds L q) (h1:L'.vars=L.vars) (h2:L'.par=L.par) (h3:L'.con=L.con) (h4:L'.fst=L.fst) (h5:L'.tok.length=L.tok.length) (h6:L'.own.length=L.own.length)
  (h7:∀x∈L'.own,0<=x) (h8:∀x∈L'.own,x<=q'):YK ds L' q':=by
 obtain ⟨f1,f2,f3,f4,f5⟩:=hk.len
 refine ⟨⟨by rw [h6,h1];exact f1,by rw [h2,h1];exact f2,by rw [h3,h1];exact f3,by rw [h4,h1];exact f4,by rw [h5,h1];exact f5⟩,?_,?_,h7,h8⟩
 ·rw [h1,h2];exact hk.down
 ·rw [h1,h3,h4];exact hk.arm
theorem Aj {xs ys:LI} {j:Int} (h:j.toNat<xs.length):gI (xs++ys) j=gI xs j:=by
 rw [gI,gI,DL h]
theorem Hx {xs:LI} {y:Int} {j:Int} (h:j.toNat=xs.length):gI (xs++[y]) j=y:=by
 rw [gI,h];simp
theorem YK.grow {ds:List Zg} {L:Zb} {q t o p:Int} (hk:YK ds L q) (hp:p<L.vars.length) (ho:0<=o/\o<=q):YK ds (L.grow t o p) q:=by
 obtain ⟨f1,f2,f3,f4,f5⟩:=hk.len
 refine ⟨⟨by simp [Zb.grow,f1],by simp [Zb.grow,f2],by simp [Zb.grow,f3],by simp [Zb.grow,f4],by simp [Zb.grow,f5]⟩,?_,?_,?_,?_⟩
 ·intro j hj hl
  simp only [Zb.grow,YE,FY] at hl ⊢
  by_cases hlt:j<L.vars.length
  ·rw [Aj om];exact hk.down j hj hlt
  ·rw [Hx om];omega
 ·intro x hx hl
  simp only [Zb.grow,YE,FY] at hl ⊢
  by_cases hlt:x<L.vars.length
  ·rw [Aj om,Aj om]
   intro hc
   have:=hk.arm x hx hlt hc
   exact ⟨this.1,by omega⟩
  ·rw [Hx om];omega
 ·intro x hx
  simp only [Zb.grow,Yz,YL] at hx
  rcases hx with hx|rfl
  ·exact hk.nn x hx
  ·exact ho.1
 ·intro x hx
  simp only [Zb.grow,Yz,YL] at hx
  rcases hx with hx|rfl
  ·exact hk.bd x hx
  ·exact ho.2
theorem HA {xs:LI} {k:Nat} {a:Int} {j:Int} (h:xs.length<=j.toNat/\j.toNat<xs.length+k):gI (xs++List.replicate k a) j=a:=by
 rw [gI,Cl h.1,List.getElem?_replicate,Z6 om];rfl
theorem EA {xs:LI} {x j c:Int} (h:j.toNat=x.toNat) (hl:x.toNat<xs.length):gI (xs.set x.toNat c) j=c:=by
 rw [gI,h,List.getElem?_set_self hl];rfl
theorem EB {xs:LI} {x j c:Int} (h:j.toNat≠x.toNat):gI (xs.set x.toNat c) j=gI xs j:=by
 rw [gI,gI,List.getElem?_set_ne (fun q=>h q.symm)]
theorem HD {p:Int}:∀(fs:LI) (L:Zb),K8 L p fs=⟨L.vars++fs,L.own++List.replicate fs.length 0,L.par++List.replicate fs.length p,L.con++List.replicate fs.length (-1),
  L.fst++List.replicate fs.length (-1),L.tok++List.replicate fs.length (-1)⟩
 | [],L=>by simp [K8]
 | t::r,L=>by rw [K8,HD r];simp [Zb.grow,Bt]
theorem Z0w {ds:List Zg} {L:Zb} {q x c:Int} (hk:YK ds L q) (hq:0<=q) (hx:0<=x/\x<L.vars.length):YK ds (J3 ds L x c) q/\(J3 ds L x c).vars=L.vars++Y1 ds c:=by
 obtain ⟨f1,f2,f3,f4,f5⟩:=hk.len
 rw [J3,HD]
 refine ⟨⟨⟨by simp [f1],by simp [f2],by simp [f3],by simp [f4],by simp [f5]⟩,?_,?_,?_,?_⟩,rfl⟩
 ·intro j hj hl
  simp only [YE] at hl ⊢
  by_cases hlt:j<L.vars.length
  ·rw [Aj om];exact hk.down j hj hlt
  ·rw [HA om];omega
 ·intro y hy hl
  simp only [YE] at hl ⊢
  by_cases hlt:y<L.vars.length
  ·rw [Aj (by simp;omega),Aj (by simp;omega)]
   by_cases he:y.toNat=x.toNat
   ·rw [EA he om,EA he om]
    intro _
    exact ⟨by omega,by simp⟩
   ·rw [EB he,EB he]
    intro hc
    have:=hk.arm y hy hlt hc
    exact ⟨this.1,by omega⟩
  ·rw [HA (by simp;omega)];omega
 ·intro y hy
  simp only [Yz,List.mem_replicate] at hy
  rcases hy with hy|⟨_,rfl⟩
  ·exact hk.nn y hy
  ·exact Int.le_refl 0
 ·intro y hy
  simp only [Yz,List.mem_replicate] at hy
  rcases hy with hy|⟨_,rfl⟩
  ·exact hk.bd y hy
  ·exact hq
theorem C1 {n:Zj} {L:Zb} {q:Int} {s:Z7} {i:Nat} {m:LI} (hk:YK n.decls L q) (hq:0<=q) (hf:Jp n L.vars s) (hop:s.op=7∨s.op=8) (hm:(YJ n.decls s.op s.num)[i]? = some m) :
  YK n.decls (Vg n.decls L s.op s.num s.args i) q/\(Vg n.decls L s.op s.num s.args i).vars=L.vars++m:=by
 rw [Vg]
 split
 ·rename_i h8
  obtain ⟨a,ha⟩:=hf.one om
  have hb:=hf.args a (by rw [ha];simp)
  have hg:gI s.args 0=a:=by rw [ha];rfl
  rw [YJ,Z4 om,Tm] at hm
  cases hc:(YB n.decls s.num)[i]? with
  | none=>rw [hc] at hm;cases hm
  | some c=>
   rw [hc] at hm
   cases hm
   have hgc:gI (YB n.decls s.num) (i:Int)=c:=by rw [gI];simp [hc]
   rw [hg,hgc]
   exact Z0w hk hq hb
 ·rename_i h8
  rw [YJ,Z6 om] at hm
  have:m=[]:=by
   match i,hm with
   | 0,hm=>simpa using hm.symm
   | 1,hm=>simpa using hm.symm
   | i+2,hm=>simp at hm
  subst this
  exact ⟨hk,by simp⟩
theorem Si {n:Zj}:∀{l:List Z7} {us vs:LI},Xu n l us=some vs->us.length<=vs.length
 | [],us,vs,h=>by rw [Xu] at h;cases h;exact X1 _
 | s::r,us,vs,h=>by
  rw [Xu] at h
  split at h
  ·cases h
  ·have:=Si h
   split at this
   ·simp only [YE,FY] at this;omega
   ·exact this
theorem O0 {n:Zj} {ln:LI} {L L':Zb} {op num into q:Int} {args:LI} {ds:List Zg} (hk:YK ds L q) (h:Ut n ln L op num into args=some L'):YK ds L' q/\L'.vars=L.vars:=by
 rw [Ut] at h
 cases ht:TJ n op num args 0 L with
 | none=>rw [ht] at h;cases h
 | some L1=>
  rw [ht] at h
  simp only at h
  obtain ⟨k1,k2,k3,k4,k5,k6⟩:=ED hk ht
  split at h
  ·rw [Kb] at h
   split at h
   ·split at h
    ·cases h
    ·cases h
     exact ⟨k1.turn rfl rfl rfl rfl (by simp) rfl k1.nn k1.bd,k2⟩
   ·cases h;exact ⟨k1,k2⟩
  ·cases h
theorem Z2y {L L':Zb} {m:Nat} (h:Ud L m=some L'):L'=L.take m/\WJ (L.own.drop m) (L.tok.drop m)=true:=by
 rw [Ud] at h
 split at h
 ·rename_i hz;cases h;exact ⟨rfl,hz⟩
 ·cases h
theorem Lq {r:Option Zb} {f:Zb->Option Zb} {L:Zb} (h:Ci r f=some L):∃L1,r=some L1/\f L1=some L:=by
 cases r with
 | none=>cases h
 | some L1=>exact ⟨L1,rfl,h⟩
theorem HX (n:Zj) (hn:YZ n) (ln:LI):∀m:Nat,
  (∀(s:Z7) (L L':Zb) (q:Int),s.sz<=m->YK n.decls L q->0<=q->0<=ZT n L.vars s->T2 n ln L s=some L'->YK n.decls L' (q+4*s.sz)/\L'.vars=KR n L.vars s) /\
  (∀(b:Zf) (L O:Zb) (q:Int) (k:Nat),b.sz<=m->YK n.decls L q->0<=q->0<=Yv n L.vars b->k<=L.vars.length->WQ n ln L k b=some O ->
   (O.own.length=k/\O.tok.length=k/\(∀x∈O.own,0<=x/\x<=q+4*b.sz))/\Wc O/\O.vars.length=k):=by
 intro m
 induction m with
 | zero=>exact ⟨fun s _ _ _ h=>by have:=s.sz_pos;omega,fun s _ _ _ _ h=>by have:=s.sz_pos;omega⟩
 | succ m ih=>
  have hs:∀(s:Z7) (L L':Zb) (q:Int),s.sz<=m+1->YK n.decls L q->0<=q->0<=ZT n L.vars s->T2 n ln L s=some L'->YK n.decls L' (q+4*s.sz)/\L'.vars=KR n L.vars s:=by
   intro s L L' q YH hk hq hty h
   have hp:=s.sz_pos
   have hf:=Bh hty
   obtain ⟨f1,f2,f3,f4,f5⟩:=hk.len
   rw [Lk] at h
   unfold K7 at h
   cases hpk:Q6 n ln L s.op s.num s.into s.args (TL n ln L s.op s.num s.args s.kids) with
   | none=>rw [hpk] at h;cases h
   | some L1=>
    rw [hpk] at h
    simp only at h
    have key:YK n.decls L1 (q+4*s.sz)/\L1.vars=L.vars:=by
     rw [Q6] at hpk
     split at hpk
     ·obtain ⟨d1,d2,d3,d4,d5,d6⟩:=H6 hpk
      refine ⟨hk.turn d1 d2 d3 d4 (by rw [d5]) (by rw [d6,QA]) ?_ ?_,d1⟩
      ·rw [d6];intro x hx
       rcases QP hx with hx|rfl
       ·exact hk.nn x hx
       ·have:=Hz (v:=gI s.args 0) hk.nn;omega
      ·rw [d6];intro x hx
       rcases QP hx with hx|rfl
       ·have:=hk.bd x hx;omega
       ·have:=Hw (v:=gI s.args 0) hk.bd hq;omega
     split at hpk
     ·exact ⟨(hk.take hpk).le om,(Qu hpk).2.1⟩
     split at hpk
     ·rename_i hop
      obtain ⟨d1,d2,d3,d4,d5,Lt,ht,d6⟩:=Iq hpk
      have hkt:=hk.take ht
      have h3:=TZ hn.decls (gI L.con (gI s.args 0))
      refine ⟨hk.turn d1 d2 d3 d4 d5 ?_ ?_ ?_,d1⟩
      ·rw [d6,Gn,(Qu ht).2.2.2.2.2.2,QA]
      ·rw [d6];exact Gp _ _ _ hkt.nn
      ·rw [d6];intro x hx
       have:=Gm _ _ _ q hq hkt.bd x hx;omega
     split at hpk
     ·rename_i hop
      split at hpk
      ·cases hpk
      ·cases hks:s.kids with
       | nil=>rw [hks,TL] at hpk;cases hpk
       | cons b bs=>
        rw [hks,TL] at hpk
        unfold At at hpk
        cases hb:WQ n ln (Vg n.decls L s.op s.num s.args 0) L.vars.length b with
        | none=>rw [hb] at hpk;cases hpk
        | some one=>
         rw [hb] at hpk
         simp only at hpk
         split at hpk
         ·cases hpk
          obtain ⟨q1,q2,q3⟩:=hf.kids hop
          have hks0:s.kids[0]? = some b:=by rw [hks];rfl
          obtain ⟨a0,ha0⟩:=QM (xs:=YJ n.decls s.op s.num) (j:=0) om
          obtain ⟨k1,k2⟩:=C1 hk hq hf hop ha0
          have hbz:=Kg hks0
          obtain ⟨⟨r1,r2,r3⟩,_⟩:=ih.2 b _ one q L.vars.length om k1 hq (by rw [k2];exact q3 0 b a0 hks0 ha0) (by rw [k2];simp) hb
          refine ⟨hk.turn rfl rfl rfl rfl (by simp only;omega) (by simp only;omega) (fun x hx=>(r3 x hx).1) (fun x hx=>?_),rfl⟩
          have:=(r3 x hx).2;omega
         ·cases hpk
     ·obtain ⟨k1,k2⟩:=O0 hk hpk
      exact ⟨k1.le om,k2⟩
    split at h
    ·rename_i hd
     cases h
     refine ⟨key.1.grow om ?_,by rw [KR,Z6 hd];simp [Zb.grow,key.2]⟩
     split<;>omega
    ·rename_i hd
     cases h
     exact ⟨key.1,by rw [KR,Z4 hd];exact key.2⟩
  refine ⟨hs,?_⟩
  intro b L O q k YH hk hq hty hkl h
  have hsteps:∀(l:List Z7) (L L':Zb) (q:Int) (vs:LI),Y9 l<=m->YK n.decls L q->0<=q->Xu n l L.vars=some vs->V5 n ln L l=some L'->YK n.decls L' (q+4*Y9 l)/\L'.vars=vs:=by
   intro l
   induction l with
   | nil=>intro L L' q vs _ hk _ h1 h2;rw [Xu] at h1;rw [V5] at h2;cases h1;cases h2;exact ⟨by simpa [Y9] using hk,rfl⟩
   | cons s r ihr=>
    intro L L' q vs hz hk hq h1 h2
    rw [Y9] at hz
    rw [V5] at h2
    obtain ⟨L1,e1,e2⟩:=Lq h2
    rw [Xu] at h1
    split at h1
    ·cases h1
    ·rename_i h0
     obtain ⟨k1,k2⟩:=hs s L L1 q om hk hq om e1
     obtain ⟨k3,k4⟩:=ihr L1 L' (q+4*s.sz) vs om k1 om (by rw [k2];exact h1) e2
     exact ⟨k3.le (by rw [Y9];omega),k4⟩
  have hbz:=b.sz_eq
  rw [KA] at h
  obtain ⟨L1,e1,e2⟩:=Lq h
  rw [E2] at hty
  cases hv:Xu n b.steps L.vars with
  | none=>rw [hv] at hty;simp at hty
  | some vs=>
   obtain ⟨k1,k2⟩:=hsteps b.steps L L1 q vs om hk hq hv e1
   have hlen:=Si hv
   rw [VM] at e2
   obtain ⟨L2,e3,e4⟩:=Lq e2
   have k3:YK n.decls L2 (q+4*Y9 b.steps)/\L2.vars=L1.vars:=by
    split at e3
    ·exact ⟨k1.take e3,(Qu e3).2.1⟩
    ·cases e3;exact ⟨k1,rfl⟩
   obtain ⟨rfl,_⟩:=Z2y e4
   obtain ⟨g1,g2,g3,g4,g5⟩:=k3.1.len
   have hl2:L2.vars.length=vs.length:=by rw [k3.2,k2]
   refine ⟨⟨by simp [Zb.take];omega,by simp [Zb.take];omega,fun x hx=>?_⟩,⟨by simp [Zb.take];omega,by simp [Zb.take];omega,by simp [Zb.take];omega,by simp [Zb.take];omega,by simp [Zb.take];omega⟩,by simp [Zb.take];omega⟩
   have hx':x∈L2.own:=Cp hx
   have:=k3.1.nn x hx'
   have:=k3.1.bd x hx'
   omega
theorem Ll {n:Zj} (hn:YZ n) {ln:LI} {s:Z7} {L L':Zb} {q:Int} (hk:YK n.decls L q) (hq:0<=q) (hty:0<=ZT n L.vars s) (h:T2 n ln L s=some L'):YK n.decls L' (q+4*s.sz)/\L'.vars=KR n L.vars s:=
 (HX n hn ln s.sz).1 s L L' q (X1 _) hk hq hty h
theorem Mx {n:Zj} (hn:YZ n) {ln:LI} {b:Zf} {L O:Zb} {q:Int} {k:Nat} (hk:YK n.decls L q) (hq:0<=q) (hty:0<=Yv n L.vars b) (hkl:k<=L.vars.length) (h:WQ n ln L k b=some O) :
  O.own.length=k/\O.tok.length=k/\(∀x∈O.own,0<=x/\x<=q+4*b.sz):=
 ((HX n hn ln b.sz).2 b L O q k (X1 _) hk hq hty hkl h).1
theorem Ay {n:Zj} (hn:YZ n) {ln:LI} {s:Z7} {L L1:Zb} {q:Int} (hk:YK n.decls L q) (hq:0<=q) (hf:Jp n L.vars s)
  (hpk:Q6 n ln L s.op s.num s.into s.args (TL n ln L s.op s.num s.args s.kids)=some L1):YK n.decls L1 (q+4*s.sz)/\L1.vars=L.vars:=by
 have hp:=s.sz_pos
 obtain ⟨f1,f2,f3,f4,f5⟩:=hk.len
 rw [Q6] at hpk
 split at hpk
 ·obtain ⟨d1,d2,d3,d4,d5,d6⟩:=H6 hpk
  refine ⟨hk.turn d1 d2 d3 d4 (by rw [d5]) (by rw [d6,QA]) ?_ ?_,d1⟩
  ·rw [d6];intro x hx
   rcases QP hx with hx|rfl
   ·exact hk.nn x hx
   ·have:=Hz (v:=gI s.args 0) hk.nn;omega
  ·rw [d6];intro x hx
   rcases QP hx with hx|rfl
   ·have:=hk.bd x hx;omega
   ·have:=Hw (v:=gI s.args 0) hk.bd hq;omega
 split at hpk
 ·exact ⟨(hk.take hpk).le om,(Qu hpk).2.1⟩
 split at hpk
 ·rename_i hop
  obtain ⟨d1,d2,d3,d4,d5,Lt,ht,d6⟩:=Iq hpk
  have hkt:=hk.take ht
  have h3:=TZ hn.decls (gI L.con (gI s.args 0))
  refine ⟨hk.turn d1 d2 d3 d4 d5 ?_ ?_ ?_,d1⟩
  ·rw [d6,Gn,(Qu ht).2.2.2.2.2.2,QA]
  ·rw [d6];exact Gp _ _ _ hkt.nn
  ·rw [d6];intro x hx
   have:=Gm _ _ _ q hq hkt.bd x hx;omega
 split at hpk
 ·rename_i hop
  split at hpk
  ·cases hpk
  ·cases hks:s.kids with
   | nil=>rw [hks,TL] at hpk;cases hpk
   | cons b bs=>
    rw [hks,TL] at hpk
    unfold At at hpk
    cases hb:WQ n ln (Vg n.decls L s.op s.num s.args 0) L.vars.length b with
    | none=>rw [hb] at hpk;cases hpk
    | some one=>
     rw [hb] at hpk
     simp only at hpk
     split at hpk
     ·cases hpk
      obtain ⟨q1,q2,q3⟩:=hf.kids hop
      have hks0:s.kids[0]? = some b:=by rw [hks];rfl
      obtain ⟨a0,ha0⟩:=QM (xs:=YJ n.decls s.op s.num) (j:=0) om
      obtain ⟨k1,k2⟩:=C1 hk hq hf hop ha0
      have hbz:=Kg hks0
      obtain ⟨r1,r2,r3⟩:=Mx hn k1 hq (by rw [k2];exact q3 0 b a0 hks0 ha0) (by rw [k2];simp) hb
      refine ⟨hk.turn rfl rfl rfl rfl (by simp only;omega) (by simp only;omega) (fun x hx=>(r3 x hx).1) (fun x hx=>?_),rfl⟩
      have:=(r3 x hx).2;omega
     ·cases hpk
 ·obtain ⟨k1,k2⟩:=O0 hk hpk
  exact ⟨k1.le om,k2⟩
end Go.Abs
section
namespace Go.Abs
theorem Gt {ds:List Zg} {op num:Int} {i:Nat} {m:LI} (h8:op=8) (h:(YJ ds op num)[i]? = some m):∃c,(YB ds num)[i]? = some c/\m=Y1 ds c:=by
 rw [YJ,Z4 om,Tm] at h
 cases hc:(YB ds num)[i]? with
 | none=>rw [hc] at h;cases h
 | some c=>rw [hc] at h;cases h;exact ⟨c,rfl,rfl⟩
theorem Z7z {ds:List Zg} {L:Zb} {op num x c:Int} {args:LI} {i:Nat} (h8:op=8) (hx:args[0]? = some x) (hc:(YB ds num)[i]? = some c):Vg ds L op num args i=J3 ds L x c:=by
 have h1:gI args 0=x:=by rw [gI];simp [hx]
 have h2:gI (YB ds num) (i:Int)=c:=by rw [gI];simp [hc]
 rw [Vg,Z6 h8,h1,h2]
theorem Z80 {ds:List Zg} {L:Zb} {op num:Int} {args:LI} {i:Nat} (h8:¬op=8):Vg ds L op num args i=L:=by rw [Vg,Z4 h8]
theorem Z81 {n:Zj} {ln:LI} {L:Zb} {op num:Int} {args:LI} {kids:List Zf} {kb:Zf} (h:kids[0]? = some kb) :
  TL n ln L op num args kids=At L (WQ n ln (Vg n.decls L op num args 0) L.vars.length kb) fun one=>QN n ln L op num args one (kids.drop 1) 1:=by
 cases kids with
 | nil=>simp at h
 | cons b bs=>simp at h;subst h;rw [TL];rfl
theorem D5 {n:Zj} {ln:LI} {L one:Zb} {op num:Int} {args:LI} {kids:List Zf} {kb:Zf} {k:Nat} (h:kids[k]? = some kb) :
  QN n ln L op num args one (kids.drop k) k=Fu one (WQ n ln (Vg n.decls L op num args k) L.vars.length kb) (QN n ln L op num args one (kids.drop (k+1)) (k+1)):=by
 rw [ZH h,QN]
def KD (n:Zj) (ln:LI) (L:Zb) (s:Z7):Option Zb:=
 if s.op=8/\¬XL L ln (gI s.args 0)=true then none else TL n ln L s.op s.num s.args s.kids
theorem Z27 {n:Zj} {ln:LI} {L:Zb} {s:Z7} (h8:s.op=8) (ha:¬XL L ln (gI s.args 0)=true):KD n ln L s=none:=by rw [KD,Z6 ⟨h8,ha⟩]
theorem MO {n:Zj} {ln:LI} {L:Zb} {s:Z7} {kb:Zf} (h:¬(s.op=8/\¬XL L ln (gI s.args 0)=true)) (hk:s.kids[0]? = some kb) :
  KD n ln L s=At L (WQ n ln (Vg n.decls L s.op s.num s.args 0) L.vars.length kb) fun one=>QN n ln L s.op s.num s.args one (s.kids.drop 1) 1:=by
 rw [KD,Z4 h,Z81 hk]
theorem Ja {xs:LI} {x:Int} (h:xs[0]? = some x):gI xs 0=x:=by rw [gI];simp [h]
end Go.Abs
namespace Go.Abs
theorem Wc.grow {L:Zb} {t o p:Int} (h:Wc L):Wc (L.grow t o p):=by
 obtain ⟨f1,f2,f3,f4,f5⟩:=h
 exact ⟨by simp [Zb.grow,f1],by simp [Zb.grow,f2],by simp [Zb.grow,f3],by simp [Zb.grow,f4],by simp [Zb.grow,f5]⟩
theorem Wc.arm {L:Zb} {i j:Nat} {c d:Int} (h:Wc L):Wc ⟨L.vars,L.own,L.par,L.con.set i c,L.fst.set j d,L.tok⟩:=by
 obtain ⟨f1,f2,f3,f4,f5⟩:=h
 exact ⟨f1,f2,by simp [f3],by simp [f4],f5⟩
end Go.Abs
namespace Go.Abs
theorem OJ {n:Zj} (hn:YZ n) {ln:LI} {L O:Zb} {q:Int} {s:Z7} {i:Nat} {kb:Zf} {m:LI} (hk:YK n.decls L q) (hq:0<=q) (hf:Jp n L.vars s) (hop:s.op=7∨s.op=8)
  (_:s.kids[i]? = some kb) (harm:(YJ n.decls s.op s.num)[i]? = some m) (hbt:0<=Yv n (L.vars++m) kb) (h:WQ n ln (Vg n.decls L s.op s.num s.args i) L.vars.length kb=some O) :
  O.own.length=L.vars.length/\O.tok.length=L.vars.length:=by
 obtain ⟨k1,k2⟩:=C1 hk hq hf hop harm
 obtain ⟨r1,r2,_⟩:=Mx hn k1 hq (by rw [k2];exact hbt) (by rw [k2];simp) h
 exact ⟨r1,r2⟩
theorem Rq {one two:Zb} {r:Bool} (h:¬(¬one.own=two.own∨¬one.tok=two.tok)):Fu one (some two) r=r:=Z6 ⟨Ww.1 fun q=>h (.inl q),Ww.1 fun q=>h (.inr q)⟩
theorem Rp {one two:Zb} {r:Bool} (h:¬one.own=two.own∨¬one.tok=two.tok):Fu one (some two) r=false:=Z4 fun q=>h.elim (fun z=>z q.1) fun z=>z q.2
theorem Pd {L one:Zb} {f:Zb->Bool} (h:f one=true):At L (some one) f=some ⟨L.vars,one.own,L.par,L.con,L.fst,one.tok⟩:=Z6 h
theorem Db {L one:Zb} {f:Zb->Bool} (h:f one=false):At L (some one) f=none:=Z4 (by rw [h];simp)
end Go.Abs
namespace Go.Abs
section
variable {n:Zj} {ln:LI} {L:Zb} {s:Z7}
abbrev Q7 (n:Zj) (ln:LI) (L:Zb) (s:Z7):Option Zb:=Q6 n ln L s.op s.num s.into s.args (TL n ln L s.op s.num s.args s.kids)
theorem Iu {x:Int} (h:s.op=14) (hx:gI s.args 0=x):Q7 n ln L s=J7 L ln x:=hx▸Z6 h
theorem Iv {x:Int} (h:s.op=15) (hx:gI s.args 0=x):Q7 n ln L s=Ul L x:=by rw [<-hx,Q7,Q6,Z4 om,Z6 h]
theorem Iw {x:Int} (h:s.op=16∨s.op=17) (hx:gI s.args 0=x):Q7 n ln L s=TP n.decls L s.op x:=by rw [<-hx,Q7,Q6,Z4 om,Z4 om,Z6 h]
theorem Fk (h:s.op=7∨s.op=8):Q7 n ln L s=KD n ln L s:=by rw [Q7,Q6,Z4 om,Z4 om,Z4 om,Z6 h,KD]
theorem PT (h1:¬s.op=14) (h2:¬s.op=15) (h3:¬(s.op=16∨s.op=17)) (h4:¬(s.op=7∨s.op=8)):Q7 n ln L s=Ut n ln L s.op s.num s.into s.args:=by
 rw [Q7,Q6,Z4 h1,Z4 h2,Z4 h3,Z4 h4]
theorem Z3n {v:Int} (h:¬XL L ln v=true):J7 L ln v=none:=Z4 h
theorem Z3o {v x:Int} (h:¬¬XL L ln v=true) (hx:gI L.own v=x):J7 L ln v=some ⟨L.vars,L.own.set v.toNat (x+1),L.par,L.con,L.fst,L.tok⟩:=by rw [J7,Z6 (Ww.1 h),hx]
theorem Uk (n:Zj) (ln:LI) (L:Zb) (s:Z7):T2 n ln L s=K7 L s.op (ZT n L.vars s) (Q7 n ln L s):=Lk n ln L s
theorem UX {X:Zb} {op t:Int} (h:XA op=true/\t≠0):K7 L op t (some X)=some (X.grow t 1 (-1)):=by
 unfold K7;simp only [h.1,↓reduceIte];rw [Z6 h.2]
theorem UY {X:Zb} {op t:Int} (h:¬(XA op=true/\t≠0)) (h2:XA op=true):K7 L op t (some X)=some (X.grow 0 0 (-1)):=by
 have ht:t=0:=Ww.1 fun q=>h ⟨h2,q⟩
 subst ht
 unfold K7;simp only [h2,↓reduceIte];rfl
theorem UZ {X:Zb} {op t:Int} (h:¬XA op=true):K7 L op t (some X)=some X:=by
 unfold K7;simp only [Z4 h]
end
end Go.Abs
namespace Go.Abs
theorem BC {n:Zj} {us:LI} {b:Zf} (h:0<=Yv n us b):∃vs t,Xu n b.steps us=some vs/\YN vs b.result=some t/\0<=t:=by
 rw [E2] at h
 cases hv:Xu n b.steps us with
 | none=>rw [hv] at h;simp at h
 | some vs=>
  rw [hv] at h
  simp only at h
  cases ha:YN vs b.result with
  | none=>rw [ha] at h;simp at h
  | some t=>rw [ha] at h;exact ⟨vs,t,rfl,ha,h⟩
theorem Cg {n:Zj} {us vs:LI} {s:Z7} {r:List Z7} (h:Xu n (s::r) us=some vs):0<=ZT n us s/\Xu n r (KR n us s)=some vs:=by
 rw [Xu] at h
 split at h
 ·cases h
 ·exact ⟨by omega,h⟩
theorem Cd (n:Zj) (us:LI) (s:Z7):us.length<=(KR n us s).length/\(KR n us s).length<=us.length+s.sz:=by
 have:=s.sz_pos
 rw [KR];split
 ·simp only [YE,FY];omega
 ·omega
end Go.Abs
namespace Go.Abs
theorem Z4e {X L:Zb} {m:Nat} {r x:Int} (hg:gI L.vars r=x) (h:x≠0) (ht:Ul L r=some X):VM m r L=Ud X m:=by rw [VM,hg,Z6 h,ht];rfl
theorem Z4d {L:Zb} {m:Nat} {r x:Int} (hg:gI L.vars r=x) (h:x≠0) (ht:Ul L r=none):VM m r L=none:=by rw [VM,hg,Z6 h,ht];rfl
theorem CP {L:Zb} {m:Nat} {r x:Int} (hg:gI L.vars r=x) (h:¬x≠0):VM m r L=Ud L m:=by rw [VM,hg,Z4 h];rfl
end Go.Abs
namespace Go.Abs
theorem PR {ds:List Zg} {lent:LI}:∀{ps:LI} {i:Nat} {L:Zb},YK ds L 1->YK ds (Qr lent ps i L) 1/\(Qr lent ps i L).vars=L.vars++ps
 | [],i,L,hk=>⟨hk,by simp [Qr]⟩
 | t::r,i,L,hk=>by
  rw [Qr]
  obtain ⟨k1,k2⟩:=PR (lent:=lent) (ps:=r) (i:=i+1) (hk.grow (t:=t) (o:=if t≠0/\¬(i:Int)∈lent then 1 else 0) (p:=-1) om (by split<;>omega))
  exact ⟨k1,by rw [k2];simp [Zb.grow]⟩
theorem Pl (ds:List Zg) (r:Yy):YK ds (Uw r) 1/\(Uw r).vars=r.params:=by
 have h:YK ds (⟨[],[],[],[],[],[]⟩:Zb) 1:=⟨⟨rfl,rfl,rfl,rfl,rfl⟩,fun j h1 h2=>by simp at h2;omega,fun j h1 h2=>by simp at h2;omega,by simp,by simp⟩
 obtain ⟨k1,k2⟩:=PR (lent:=r.lent) (ps:=r.params) (i:=0) h
 exact ⟨k1,by rw [Uw,k2];rfl⟩
theorem Z2w {L:Zb} (h:Ud L 0=none):(Ud L 0).isSome=false:=by rw [h];rfl
theorem Z2x {L L':Zb} (h:Ud L 0=some L'):(Ud L 0).isSome=true:=by rw [h];rfl
theorem Z1m {n:Zj} (hn:YZ n) {ln:LI} {b:Zf} {L O:Zb} {q:Int} {k:Nat} (hk:YK n.decls L q) (hq:0<=q) (hty:0<=Yv n L.vars b) (hkl:k<=L.vars.length) (h:WQ n ln L k b=some O) :
  Wc O/\O.vars.length=k:=
 ((HX n hn ln b.sz).2 b L O q k (X1 _) hk hq hty hkl h).2
end Go.Abs
namespace Go.Abs
theorem IF {n:Zj}:∀{l:List Yy},Tz n l=true->∀r∈l,¬UM r.body<0/\Yv n r.params r.body=r.result
 | [],_,r,h=>by simp at h
 | a::l,h,r,hr=>by
  rw [Tz] at h
  split at h
  ·rename_i h1
   rcases YA.1 hr with rfl|hr
   ·exact h1
   ·exact IF h r hr
  ·cases h
theorem DG {n:Zj} (hz:WM n) (h:XX n=true):YZ n/\∀r∈n.routines,0<=Yv n r.params r.body:=by
 simp only [XX,Xv] at h
 refine ⟨Ik hz h.1,fun r hr=>?_⟩
 rw [(IF h.2 r hr).2]
 have h1:=h.1
 simp only [Va,Qx,Xv] at h1
 have:=IU h1.2.1.2.2.1 (VZ r) (Xe.2 ⟨r,hr,rfl⟩)
 simp only [Kk,Xv,decide_eq_true_eq,VZ] at this
 exact (of_decide_eq_true this.2.2).1
end Go.Abs
end
section
namespace Go.Abs
theorem Hf {xs:LI} (h:Zk xs=[]):xs=[]:=by cases xs with|nil=>rfl|cons x r=>cases h
theorem Z3u {xs:List Xs} (h:Wd xs=[]):xs=[]:=by cases xs with|nil=>rfl|cons x r=>cases h
theorem Z3w {xs:List Zg} (h:X4 xs=[]):xs=[]:=by cases xs with|nil=>rfl|cons x r=>cases h
def Jb (i:Int):LI->Nat->Int
 | [],_=>-1
 | x::r,k=>if i=x then (k:Int) else Jb i r (k+1)
def EP (xs:LI) (i:Int):Int:=Jb i xs 0
theorem Ou (i:Int):∀(xs:LI) (k:Nat),(0<=Jb i xs k↔i∈xs)/\-1<=Jb i xs k
 | [],k=>by simp [Jb]
 | x::r,k=>by
  rw [Jb]
  obtain ⟨h1,h2⟩:=Ou i r (k+1)
  split
  ·rename_i h;subst h;simp<;>omega
  ·rename_i h;simp [h1,h,h2]
theorem Z7a (xs:LI) (i:Int):decide (EP xs i>=0)=decide (i∈xs):=by
 rw [decide_eq_decide];exact (Ou i xs 0).1
end Go.Abs
namespace Go.Abs
theorem NW (xss:List LI) (k:Nat):(xss.take k).flatten.length<=xss.flatten.length:=by
 conv=>rhs;rw [<-LK k xss,List.flatten_append,YE]
 omega
end Go.Abs
namespace Go.Abs
theorem Hs {xss:List LI} {k:Nat} {x:LI} (h:xss[k]? = some x):(xss.take (k+1)).flatten=(xss.take k).flatten++x:=by rw [WU h,List.flatten_append];simp
theorem NV {xss:List LI} {k:Nat} {x:LI} (h:xss[k]? = some x):(xss.take k).flatten.length+x.length<=xss.flatten.length:=by
 have:=NW xss (k+1)
 rw [Hs h,YE] at this
 exact this
end Go.Abs
end
section
namespace Go.Abs
theorem Z2m {c:Int} {ds:List Zg} {k:Nat} {d:Zg} {r:Int × LI} (h:ds[k]? = some d) (hn:¬(c-Yk (ds.take k)>=0/\c-Yk (ds.take k)<d.cons.length))
  (hr:US c (ds.drop k) k (Yk (ds.take k))=r):US c (ds.drop (k+1)) (k+1) (Yk (ds.take (k+1)))=r:=by
 rw [ZH h,US,Z4 om] at hr
 rw [WU h,CF,<-hr];rfl
end Go.Abs
namespace Go.Abs
theorem Z2o {c:Int} {ds:List Zg} {k:Nat} {d:Zg} {x:Xs} (h:ds[k]? = some d) (hn:c-Yk (ds.take k)>=0/\c-Yk (ds.take k)<d.cons.length)
  (hx:d.cons[(c-Yk (ds.take k)).toNat]? = some x):US c (ds.drop k) k (Yk (ds.take k))=((k:Int)+1,x.fields):=by
 rw [ZH h,US,Z6 om,hx];rfl
def A3 (c:Int) (z:Nat) (v:Int):Prop:=v=c-z∨(c<0/\c-z < -9223372036854775808/\v=c-z+18446744073709551616)
theorem Z12 {c:Int} {z l:Nat} {v:Int} (h:A3 c z v) (hz:z<=100) (hl:l<=3) (hc:-9223372036854775808<=c/\c<=9223372036854775807):A3 c (z+l) (Bn (v-l)):=by
 unfold A3 at *;rw [Bn,IntKind.wrap_i64];omega
theorem Z2n {c v:Int} {ds:List Zg} {k:Nat} {d:Zg} {r:Int × LI} (h:ds[k]? = some d) (ha:A3 c (Yk (ds.take k)) v) (hn:¬(v>=0/\v<d.cons.length))
  (hr:US c (ds.drop k) k (Yk (ds.take k))=r):US c (ds.drop (k+1)) (k+1) (Yk (ds.take (k+1)))=r:=Z2m h (by unfold A3 at ha;omega) hr
theorem Z2p {c v:Int} {ds:List Zg} {k:Nat} {d:Zg} {x:Xs} (h:ds[k]? = some d) (ha:A3 c (Yk (ds.take k)) v) (hz:Yk (ds.take k)<=100) (hl:d.cons.length<=3) (hc:-9223372036854775808<=c)
  (hn:v>=0/\v<d.cons.length) (hx:d.cons[v.toNat]? = some x):US c (ds.drop k) k (Yk (ds.take k))=((k:Int)+1,x.fields):=by
 have:v=c-(Yk (ds.take k):Int):=by unfold A3 at ha;omega
 subst this
 exact Z2o h hn hx
def Vs (ds:List Zg) (t:Int):Zg:=if XO ds t=true then (ds[(t-1).toNat]?).getD ⟨0,0,[]⟩ else ⟨0,0,[]⟩
end Go.Abs
namespace Go.Abs
abbrev Nf (ds:List Zg) (d:Zg):Prop:=
 (((¬(0<=d.frm/\d.frm<=ds.length))∨(¬(0<=d.to_/\d.to_<=ds.length)))∨((d.cons.length:Int)>3))∨(((d.cons.length:Int)>0)/\((d.frm≠0)∨(d.to_≠0)))
theorem Z3e {ds:List Zg} {d:Zg} {i:Nat} (h:Nf ds d):Ur ds d i=false:=by
 rw [Ur]
 split
 ·rw [Z4];rintro ⟨h1,h2,h3⟩
  rcases h with ((h|h)|h)|h<;>omega
 ·split
  ·rfl
  ·rcases h with ((h|h)|h)|h
   ·rw [decide_eq_false h];rfl
   ·rw [decide_eq_false h,Bool.and_false]
   ·omega
   ·omega
theorem Z3f {ds:List Zg} {d:Zg} {i:Nat} (hl:0<d.cons.length) (h:Th ds.length d.cons=false):Ur ds d i=false:=by
 rw [Ur,Z6 hl];split
 ·exact h
 ·rfl
theorem Z3g {ds:List Zg} {d:Zg} {i:Nat} (hl:d.cons.length=0) (h:Ql d (ds.take i)=true):Ur ds d i=false:=by
 rw [Ur,Z4 om,Z6 h]
theorem Z3h {ds:List Zg} {d:Zg} {i:Nat} (h1:¬Nf ds d) (h2:Th ds.length d.cons=true) (h3:d.cons.length=0->Ql d (ds.take i)=false):Ur ds d i=true:=by
 rw [Ur]
 have ha:0<=d.frm/\d.frm<=ds.length:=Ww.1 fun q=>h1 (.inl (.inl (.inl q)))
 have hb:0<=d.to_/\d.to_<=ds.length:=Ww.1 fun q=>h1 (.inl (.inl (.inr q)))
 have hc:¬(d.cons.length:Int)>3:=fun q=>h1 (.inl (.inr q))
 split
 ·rename_i hl
  have hd:¬(d.frm≠0∨d.to_≠0):=fun q=>h1 (.inr ⟨by omega,q⟩)
  rw [Z6 ⟨by omega,by omega,by omega⟩];exact h2
 ·rw [Z4 (by rw [h3 om];simp),decide_eq_true ha,decide_eq_true hb];rfl
theorem Lx {ds:List Zg} {k:Nat} {d:Zg} (h:ds[k]? = some d) (hA:Ur ds d k=false) (c:UU ds (ds.drop k) k=UU ds ds 0):false=WB ds:=by
 rw [WB,<-c,ZH h,UU,CJ h,hA,Z4 (by simp),Bool.and_false]
theorem Zf8 {ds:List Zg} {k:Nat} {d:Zg} {r:Bool} (h:ds[k]? = some d) (hA:Ur ds d k=true) (c:UU ds (ds.drop k) k=r):UU ds (ds.drop (k+1)) (k+1)=r:=by
 rw [ZH h,UU,CJ h,hA,Z6 rfl] at c;exact c
theorem Zf7 {ds:List Zg} {k:Nat} (hl:ds.length<=4) (hk:ds.length<=k) (c:UU ds (ds.drop k) k=UU ds ds 0):true=WB ds:=by
 rw [WB,<-c,YV hk,decide_eq_true hl];rfl
theorem Z2q {m:Nat} {c:Xs} (h:((c.fields.length:Int)>3)∨(¬(XT m c.fields=true))):KE m c=false:=by
 rw [KE]
 rcases h with h|h
 ·rw [decide_eq_false om];rfl
 ·rw [Jj.2 h,Bool.and_false]
theorem Z2r {m:Nat} {c:Xs} (h:¬(((c.fields.length:Int)>3)∨(¬(XT m c.fields=true)))):KE m c=true:=by
 rw [KE,Ww.1 fun q=>h (.inr q),decide_eq_true (by have:¬(c.fields.length:Int)>3:=fun q=>h (.inl q);omega)];rfl
end Go.Abs
end
section
namespace Go.Abs
structure WO where
 pms:LI
 lnt:LI
 res:Int
abbrev OQ (f:WO):List AV:=[Ze f.pms,Ze f.lnt,.i f.res]
abbrev DV (f:WO):AV:=.agg (OQ f)
def UW (fs:List WO):List AV:=fs.map DV
abbrev C4 (xs:List WO):AV:=.sl (UW xs) none
abbrev Fg (xs:List WO) (v:Value):AV:=.sl (UW xs) (some v)
theorem B2 {xs:List WO} {j:Nat} {x:WO} (h:xs[j]? = some x):(UW xs)[j]? = some (DV x):=by simp [UW,h]
@[simp] theorem CM (xs:List WO):(UW xs).length=xs.length:=by simp [UW]
theorem Nv (xs:List WO):∀y∈UW xs,y.leaves.length=3:=by intro y hy;simp only [UW,Xe] at hy;obtain ⟨x,_,rfl⟩:=hy;rfl
theorem Z46 (xs:List WO):(Zu (UW xs)).all AV.one=true:=KI fun y hy=>by simp only [UW,Xe] at hy;obtain ⟨x,_,rfl⟩:=hy;rfl
def Xq (r:Yy):WO:=⟨r.params,r.lent,r.result⟩
def Je (m:Nat) (f:WO):Bool:=Kk m ⟨f.pms,f.res⟩&&Kq f.pms f.lnt
def QR (m:Nat):List WO->Bool
 | []=>true
 | f::r=>if Je m f=true then QR m r else false
def Hp:List WO->Bool
 | []=>false
 | f::_=>decide (f.pms.length=0)&&decide (f.res=0)
def Kr (ds:List Zg) (fs:List WO):Bool:=WB ds&&(decide (1<=fs.length/\fs.length<=4)&&(Hp fs&&QR ds.length fs))
theorem NO {fs:List WO} {x:WO} (h:fs[0]? = some x):Hp fs=(decide (x.pms.length=0)&&decide (x.res=0)):=by
 cases fs with
 | nil=>simp at h
 | cons f r=>simp at h;subst h;rfl
theorem RD (m:Nat):∀rs:List Yy,QR m (rs.map Xq)=(Kl m (rs.map VZ)&&TN rs)
 | []=>rfl
 | r::rs=>by
  simp only [WC,QR,Kl,TN,Je,RD m rs]
  simp only [Xq,VZ]
  by_cases h1:Kk m { params:=r.params,result:=r.result }=true<;>by_cases h2:Kq r.params r.lent=true<;>simp [h1,h2]
theorem Po (n:Zj):Va n=(decide (n.routines.length<=4)&&Kr n.decls (n.routines.map Xq)):=by
 have hf:Hp (n.routines.map Xq)=Ey (n.routines.map VZ):=by
  cases n.routines with
  | nil=>rfl
  | cons r rs=>rfl
 rw [Va,Kr,Qx,RD,hf]
 simp only [Um]
 cases decide (n.routines.length<=4)<;>cases WB n.decls<;>cases decide (1<=n.routines.length/\n.routines.length<=4)<;>cases Kl n.decls.length (n.routines.map VZ) <;>
  cases Ey (n.routines.map VZ)<;>cases TN n.routines<;>rfl
theorem Fx {rs:List Yy} {j:Nat} {x:WO} (h:(rs.map Xq)[j]? = some x):∃r,rs[j]? = some r/\x=Xq r:=by
 rw [Tm] at h
 cases hr:rs[j]? with
 | none=>rw [hr] at h;cases h
 | some r=>rw [hr] at h;cases h;exact ⟨r,rfl,rfl⟩
theorem P2 {ps ls:LI} {j:Nat} {v:Int} {r:Bool} (h:ls[j]? = some v) (hg:(0<=v/\v<=(ps.length:Int)-1)/\ps[v.toNat]?≠some 0/\(∀p,(if j=0 then none else ls[j-1]?)=some p->p<v))
  (hr:Q4 ps (ls.drop j) (if j=0 then none else ls[j-1]?)=r):Q4 ps (ls.drop (j+1)) (if j+1=0 then none else ls[j+1-1]?)=r:=by
 rw [ZH h,I3 hg] at hr
 rw [Z4 om,show j+1-1=j from rfl,h];exact hr
theorem I4 {ps ls:LI} {j:Nat} {v:Int} {r:Bool} (h:ls[j]? = some v) (hg:¬((0<=v/\v<=(ps.length:Int)-1)/\ps[v.toNat]?≠some 0/\(∀p,(if j=0 then none else ls[j-1]?)=some p->p<v)))
  (hr:Q4 ps (ls.drop j) (if j=0 then none else ls[j-1]?)=r):r=false:=by
 rw [ZH h,F6 hg] at hr;exact hr.symm
theorem Fy {m:Nat} {fs:List WO} {k:Nat} {f:WO} {r:Bool} (h:fs[k]? = some f) (hb:Je m f=false) (hr:QR m (fs.drop k)=r):r=false:=by
 rw [ZH h,QR,hb,Z4 (by simp)] at hr;exact hr.symm
theorem Zby {m:Nat} {fs:List WO} {k:Nat} {f:WO} {r:Bool} (h:fs[k]? = some f) (hb:Je m f=true) (hr:QR m (fs.drop k)=r):QR m (fs.drop (k+1))=r:=by
 rw [ZH h,QR,Z6 hb] at hr;exact hr
end Go.Abs
namespace Go.Abs
section
variable {ds:List Zg} {fs:List WO} {x:WO}
theorem Zfe (h:((¬(WB ds=true))∨((fs.length:Int)<1))∨((fs.length:Int)>4)):false=Kr ds fs:=by
 rw [Kr]
 rcases h with (h|h)|h
 ·rw [Jj.2 h];rfl
 ·rw [decide_eq_false (p:=1<=fs.length/\fs.length<=4) om];simp
 ·rw [decide_eq_false (p:=1<=fs.length/\fs.length<=4) om];simp
theorem SB (hx:fs[0]? = some x) (h:((x.pms.length:Int)>0)∨x.res≠0):false=Kr ds fs:=by
 rw [Kr,NO hx]
 rcases h with h|h
 ·rw [decide_eq_false (p:=x.pms.length=0) om];simp
 ·rw [decide_eq_false (p:=x.res=0) h];simp
theorem FQ (h:QR ds.length fs=false):false=Kr ds fs:=by rw [Kr,h];simp
theorem Zff (h:¬(((¬(WB ds=true))∨((fs.length:Int)<1))∨((fs.length:Int)>4))) (hx:fs[0]? = some x) (h1:¬((x.pms.length:Int)>0)) (h2:¬x.res≠0) (h3:QR ds.length fs=true) :
  true=Kr ds fs:=by
 have hv:WB ds=true:=Ww.1 fun q=>h (.inl (.inl q))
 have ha:¬(fs.length:Int)<1:=fun q=>h (.inl (.inr q))
 have hb:¬(fs.length:Int)>4:=fun q=>h (.inr q)
 rw [Kr,NO hx,hv,h3,decide_eq_true (p:=1<=fs.length/\fs.length<=4) om,decide_eq_true (p:=x.pms.length=0) om,decide_eq_true (p:=x.res=0) (Ww.1 h2)];rfl
abbrev Rw (m:Nat) (x:WO):Prop:=(((x.pms.length:Int)>3)∨(¬(XT m x.pms=true)))∨(¬(0<=x.res/\x.res<=m))
theorem Zbl {m:Nat} (h:Rw m x):Je m x=false:=by
 rw [Je,Kk]
 rcases h with (h|h)|h
 ·rw [decide_eq_false (p:=x.pms.length<=3) om];simp
 ·rw [Jj.2 h];simp
 ·rw [decide_eq_false h];simp
theorem IN {m:Nat} (h:Kq x.pms x.lnt=false):Je m x=false:=by rw [Je,h,Bool.and_false]
theorem Zbm {m:Nat} (h:¬Rw m x) (hl:Kq x.pms x.lnt=true):Je m x=true:=by
 have h1:¬(x.pms.length:Int)>3:=fun q=>h (.inl (.inl q))
 rw [Je,Kk,hl,decide_eq_true (p:=x.pms.length<=3) om,Ww.1 fun q=>h (.inl (.inr q)),decide_eq_true (Ww.1 fun q=>h (.inr q))];rfl
end
end Go.Abs
namespace Go.Abs
abbrev Yr (n:Zj):AV:=C4 (n.routines.map Xq)
end Go.Abs
end
section
namespace Go.Abs
def XU (us:LI):LI->Option LI
 | []=>some []
 | a::r=>match YN us a with
  | none=>none
  | some t=>match XU us r with
   | none=>none
   | some ts=>some (t::ts)
theorem Lu {us:LI}:∀{args ts:LI},XU us args=some ts->∀tys,XD us args tys=true↔ts=tys
 | [],ts,h,tys=>by
  rw [XU] at h;cases h
  cases tys with
  | nil=>simp [XD,UN]
  | cons t r=>simp [XD,UN]
 | a::r,ts,h,tys=>by
  rw [XU] at h
  cases ha:YN us a with
  | none=>rw [ha] at h;cases h
  | some t=>
   rw [ha] at h
   cases hr:XU us r with
   | none=>rw [hr] at h;cases h
   | some tr=>
    rw [hr] at h;cases h
    cases tys with
    | nil=>simp [XD,UN]
    | cons t2 r2=>
     rw [XD,UN,ha]
     have:=Lu hr r2
     rw [XD] at this
     by_cases he:t=t2
     ·subst he;simp [this]
     ·rw [Z4 (fun q=>he (Tn q))];simp [he]
theorem Ml {us:LI}:∀{args ts:LI},XU us args=some ts->ts.length=args.length
 | [],ts,h=>by rw [XU] at h;cases h;rfl
 | a::r,ts,h=>by
  rw [XU] at h
  cases ha:YN us a with
  | none=>rw [ha] at h;cases h
  | some t=>
   rw [ha] at h
   cases hr:XU us r with
   | none=>rw [hr] at h;cases h
   | some tr=>rw [hr] at h;cases h;simp [Ml hr]
theorem Mm {us:LI} {b t:Int}:∀{xs ts:LI},XU us xs=some ts->YN us b=some t->XU us (xs++[b])=some (ts++[t])
 | [],ts,h,hb=>by rw [XU] at h;cases h;simp [XU,hb]
 | a::r,ts,h,hb=>by
  rw [XU] at h
  cases ha:YN us a with
  | none=>rw [ha] at h;cases h
  | some u=>
   rw [ha] at h
   cases hr:XU us r with
   | none=>rw [hr] at h;cases h
   | some tr=>
    rw [hr] at h;cases h
    rw [Ku,XU,ha,Mm hr hb];rfl
def Cw (n:Zj) (num:Int):LI->Option Int
 | [a,b]=>if XO n.decls a=true/\b=(Vs n.decls a).frm/\num=0 then some (Vs n.decls a).to_ else none
 | _=>none
def Xd (n:Zj) (op num:Int) (ts:LI):Option Int:=
 if op=0 then (if (-999<=num/\num<=999)/\ts.length=0 then some 0 else none)
 else if op=1∨op=2∨op=3∨op=4 then (if num=0/\ts=[0,0] then some 0 else none)
 else if op=5 then (if num=0/\ts=[0] then some 0 else none)
 else if op=11 then Cw n num ts
 else if op=6 then (if 0<=XN n.decls num/\ts=Y1 n.decls num then some (XN n.decls num) else none)
 else if op=9 then (match YN n.routines num with
  | none=>none
  | some r=>if ts=r.params then some r.result else none)
 else if op=10 then (match YN n.routines num with
  | none=>none
  | some r=>if r.params.length≠0/\0<=K1 n.decls r.params r.result/\ts=r.params.take (r.params.length-1) then some (K1 n.decls r.params r.result) else none)
 else none
theorem DZ {n:Zj} {num:Int} {ts:LI} (h:ts.length≠2):Cw n num ts=none:=by
 match ts,h with
 | [],_=>rfl
 | [_],_=>rfl
 | [_,_],h=>simp at h
 | _::_::_::_,_=>rfl
structure QC (n:Zj):Prop where
 result:∀r∈n.routines,0<=r.result
 params:∀r∈n.routines,∀p∈r.params,0<=p
 decl:∀d∈n.decls,d.cons.length=0->0<=d.frm/\0<=d.to_
 fields:∀c,∀f∈Y1 n.decls c,0<=f
abbrev OA (us:LI) (s:Z7):Prop:=s.into≠0/\(((s.op≠6∨s.into<1)∨s.into>us.length)∨gI us (s.into-1)=0)
theorem Z7q {us:LI} {op into:Int} (hnn:∀t∈us,0<=t) (h:¬(into≠0/\(((op≠6∨into<1)∨into>us.length)∨gI us (into-1)=0))):Vq us op into=true:=by
 rw [Vq]
 split
 ·rfl
 ·rename_i h0
  have h1:¬(((op≠6∨into<1)∨into>us.length)∨gI us (into-1)=0):=fun q=>h ⟨h0,q⟩
  have h2:op=6:=Ww.1 fun q=>h1 (.inl (.inl (.inl q)))
  have h3:¬into<1:=fun q=>h1 (.inl (.inl (.inr q)))
  have h4:¬into>us.length:=fun q=>h1 (.inl (.inr q))
  have h5:¬gI us (into-1)=0:=fun q=>h1 (.inr q)
  obtain ⟨t,ht⟩:=QM (xs:=us) (j:=(into-1).toNat) om
  rw [Z6 h2,TC om ht]
  rw [Vt ht] at h5
  have:=hnn t (YF ht)
  simp;omega
theorem Z7p {us:LI} {op into:Int} (h:into≠0/\(((op≠6∨into<1)∨into>us.length)∨gI us (into-1)=0)):Vq us op into=false:=by
 obtain ⟨h0,h⟩:=h
 rw [Vq,Z4 h0]
 split
 ·rename_i h6
  cases ha:YN us (into-1) with
  | none=>rfl
  | some t=>
   obtain ⟨a1,a2⟩:=K3 ha
   rcases h with ((h|h)|h)|h
   ·exact absurd h6 h
   ·omega
   ·omega
   ·rw [Vt a2] at h;subst h;rfl
 ·rfl
theorem Ze6 {n:Zj} {us:LI} {s:Z7} (h:OA us s):ZT n us s=-1:=by
 rw [KV,Z6 (.inr (.inl (by rw [Z7p h];simp)))]
end Go.Abs
namespace Go.Abs
theorem Z7r {α:Type} {c:Prop} [Decidable c] {v:α}:(if c then some v else none).isSome=decide c:=by split<;>simp_all
theorem Zbz {n:Zj} (hty:QC n) {op num:Int} {ts:LI} {x:Int} (h:Xd n op num ts=some x):0<=x:=by
 unfold Xd at h
 split at h
 ·split at h<;>cases h;exact Int.le_refl 0
 split at h
 ·split at h<;>cases h;exact Int.le_refl 0
 split at h
 ·split at h<;>cases h;exact Int.le_refl 0
 split at h
 ·rcases ts with _|⟨a,_|⟨b,_|⟨c,r⟩⟩⟩
  ·cases h
  ·cases h
  ·rw [Cw] at h
   split at h
   ·rename_i hq
    cases h
    rw [Vs,Z6 hq.1]
    have hA:=hq.1
    simp only [XO,Xv,decide_eq_true_eq] at hA
    cases hd:n.decls[(a-1).toNat]? with
    | none=>rw [hd] at hA;simp at hA
    | some d=>
     rw [hd] at hA
     exact (hty.decl d (YF hd) (by simpa using hA.2)).2
   ·cases h
  ·cases h
 split at h
 ·split at h
  ·rename_i hq;cases h;exact hq.1
  ·cases h
 split at h
 ·cases ha:YN n.routines num with
  | none=>rw [ha] at h;cases h
  | some r=>
   rw [ha] at h
   simp only at h
   split at h
   ·cases h;exact hty.result r (YF (K3 ha).2)
   ·cases h
 split at h
 ·cases ha:YN n.routines num with
  | none=>rw [ha] at h;cases h
  | some r=>
   rw [ha] at h
   simp only at h
   split at h
   ·rename_i hq;cases h;exact hq.2.1
   ·cases h
 ·cases h
def Kn (n:Zj) (us:LI) (s:Z7) (ts:LI):Int:=
 if YT s.op=true then (match ts with
  | [t]=>if t≠0/\s.num=0/\s.kids.length=0/\¬((s.op=16∨s.op=17)/\XO n.decls t=true) then 0 else -1
  | _=>-1)
 else if s.op=7 then (if ts=[0]/\s.num=0 then Tc n us s.op s.num s.kids else -1)
 else if s.op=8 then (if ts=[s.num] then Tc n us s.op s.num s.kids else -1)
 else if 0<s.kids.length∨(s.op=10/\0<(((YN n.routines s.num).map (·.lent)).getD []).length) then -1
 else (Xd n s.op s.num ts).getD (-1)
theorem OC {p q:Prop} [Decidable p] [Decidable q] {a b:Int} (h:p↔q):ite p a b=ite q a b:=by
 by_cases hp:p
 ·rw [Z6 hp,Z6 (h.1 hp)]
 ·rw [Z4 hp,Z4 (fun z=>hp (h.2 z))]
theorem AJ {n:Zj} {us:LI} {s:Z7} {ts:LI} (hnn:∀t∈us,0<=t) (hts:XU us s.args=some ts) (hi:¬OA us s):ZT n us s=Kn n us s ts:=by
 have hv:=Z7q hnn hi
 have ht:=Lu hts
 have hl:=Ml hts
 have hfirst:((s.num≠0/\¬Vd s.op=true)∨¬Vq us s.op s.into=true∨(0<s.kids.length/\s.op≠7/\s.op≠8))↔((s.num≠0/\¬Vd s.op=true)∨(0<s.kids.length/\s.op≠7/\s.op≠8)):=by
  rw [hv];simp
 rw [KV,OC hfirst]
 unfold Kn
 by_cases hc:YT s.op=true
 ·have hop:14<=s.op/\s.op<=17:=by simpa [YT] using hc
  have hnum:Vd s.op=false:=by simp [Vd];omega
  rw [Z6 hc]
  by_cases hb:s.num≠0∨0<s.kids.length
  ·rw [Z6 (by rcases hb with hb|hb;exact .inl ⟨hb,by rw [hnum];simp⟩;exact .inr ⟨hb,by omega,by omega⟩)]
   split
   ·rw [Z4];rintro ⟨h1,h2,h3,h4⟩;omega
   ·rfl
  ·rw [Z4 (by rintro (⟨h1,_⟩|⟨h1,_⟩)<;>exact hb (by first|exact .inl h1|exact .inr h1)),Z4 om,Z4 om,Z4 om,Z4 om,Z4 om,Z4 om,Z4 om,Z4 om,Z6 om]
   have Zc:s.num=0:=Ww.1 fun q=>hb (.inl q)
   have ZD:s.kids.length=0:=by have:¬0<s.kids.length:=fun q=>hb (.inr q);omega
   rcases he:s.args with _|⟨a,_|⟨b,r⟩⟩
   ·rw [he] at hts;rw [XU] at hts;cases hts;rfl
   ·rw [he] at hts
    rw [XU] at hts
    cases ha:YN us a with
    | none=>rw [ha] at hts;cases hts
    | some t=>
     rw [ha,XU] at hts;cases hts
     rw [TD,ha]
     simp only
     by_cases ht0:t=0
     ·rw [Z6 ht0,Z4 (fun q=>q.1 ht0)]
     ·rw [Z4 ht0]
      by_cases hA:XO n.decls t=true
      ·by_cases h16:s.op=16∨s.op=17
       ·rw [Z6 ⟨by omega,hA⟩,Z4 (fun q=>q.2.2.2 ⟨h16,hA⟩)]
       ·rw [Z4 (by rintro ⟨q,_⟩;omega),Z6 ⟨ht0,Zc,ZD,fun q=>h16 q.1⟩]
      ·rw [Z4 (fun q=>hA q.2),Z6 ⟨ht0,Zc,ZD,fun q=>hA q.2⟩]
   ·rw [he] at hl
    rw [show TD n.decls us s.op (a::b::r)=-1 from rfl]
    match ts,hl with
    | [t],hl=>simp at hl
    | [],hl=>simp at hl
    | _::_::_,_=>rfl
 have hop:¬(14<=s.op/\s.op<=17):=by simpa [YT] using hc
 by_cases h7:s.op=7
 ·have hnum:Vd s.op=false:=by simp [Vd];omega
  conv=>rhs;rw [Z4 hc,Z6 h7]
  by_cases hb:s.num=0
  ·rw [Z4 (fun q=>q.elim (fun z=>z.1 hb) fun z=>z.2.1 h7),Z4 om,Z4 om,Z4 om,Z4 om,Z6 h7]
   by_cases hq:ts=[0]
   ·rw [Z6 ((ht _).2 hq),Z6 ⟨hq,hb⟩]
   ·rw [Z4 (fun q=>hq ((ht _).1 q)),Z4 (fun q=>hq q.1)]
  ·rw [Z6 (.inl ⟨hb,by rw [hnum];simp⟩),Z4 (fun q=>hb q.2)]
 by_cases h8:s.op=8
 ·have hnum:Vd s.op=true:=by simp [Vd,h8]
  conv=>rhs;rw [Z4 hc,Z4 h7,Z6 h8]
  rw [Z4 (fun q=>q.elim (fun z=>z.2 hnum) fun z=>z.2.2 h8),Z4 om,Z4 om,Z4 om,Z4 om,Z4 h7,Z6 h8]
  by_cases hq:ts=[s.num]
  ·rw [Z6 ((ht _).2 hq),Z6 hq]
  ·rw [Z4 (fun q=>hq ((ht _).1 q)),Z4 hq]
 conv=>rhs;rw [Z4 hc,Z4 h7,Z4 h8]
 by_cases hk:0<s.kids.length
 ·rw [Z6 (.inr ⟨hk,h7,h8⟩),Z6 (.inl hk)]
 by_cases hlent:s.op=10/\0<(((YN n.routines s.num).map (·.lent)).getD []).length
 ·conv=>rhs;rw [Z6 (.inr hlent)]
  have hnum:Vd s.op=true:=by simp [Vd,hlent.1]
  have h10:=hlent.1
  rw [Z4 (fun q=>q.elim (fun z=>z.2 hnum) fun z=>hk z.1),Z4 om,Z4 om,Z4 om,Z4 om,Z4 h7,Z4 h8,Z6 (.inr h10),Uz]
  cases ha:YN n.routines s.num with
  | none=>rfl
  | some r=>
   have h2:=hlent.2
   rw [ha] at h2
   simp only [Cs,Option.getD_some] at h2
   simp only
   rw [QQ,Z4 om,Z6 (.inr (.inl h2))]
 conv=>rhs;rw [Z4 (fun q=>Or.elim q hk hlent)]
 have sf:∀{X:Option Int},Xd n s.op s.num ts=X->ZT n us s=X.getD (-1)->ZT n us s=(Xd n s.op s.num ts).getD (-1):=fun a b=>by rw [a];exact b
 have hL:=KV n us s
 rw [OC hfirst] at hL
 rw [<-hL]
 by_cases hnb:s.num≠0/\¬Vd s.op=true
 ·have hnn2:¬(s.op=0∨(s.op=6∨(s.op=8∨(s.op=9∨s.op=10)))):=fun q=>hnb.2 (by simpa [Vd] using q)
  refine sf (X:=none) ?_ (by rw [hL,Z6 (.inl hnb)];rfl)
  unfold Xd
  rw [Z4 om]
  split
  ·rw [Z4 (fun q=>hnb.1 q.1)]
  split
  ·rw [Z4 (fun q=>hnb.1 q.1)]
  split
  ·by_cases hl2:ts.length=2
   ·match ts,hl2 with
    | [a,b],_=>exact Z4 fun q=>hnb.1 q.2.2
   ·exact DZ hl2
  rw [Z4 om,Z4 om,Z4 om]
 rw [Z4 (fun q=>q.elim hnb fun z=>hk z.1)] at hL
 have hnumf:¬(s.op=0∨(s.op=6∨(s.op=8∨(s.op=9∨s.op=10))))->s.num=0:=fun q=>Ww.1 fun z=>hnb ⟨z,fun y=>q (by simpa [Vd] using y)⟩
 by_cases h0:s.op=0
 ·rw [Z6 h0] at hL
  by_cases hq:s.args.length=0/\(-999<=s.num/\s.num<=999)
  ·exact sf (by unfold Xd;rw [Z6 h0,Z6 ⟨hq.2,by omega⟩]) (by rw [hL,Z6 hq];rfl)
  ·exact sf (by unfold Xd;rw [Z6 h0,Z4 (fun q=>hq ⟨by omega,q.1⟩)]) (by rw [hL,Z4 hq];rfl)
 rw [Z4 h0] at hL
 by_cases h1:s.op=1∨s.op=2∨s.op=3∨s.op=4
 ·rw [Z6 h1] at hL
  by_cases hq:ts=[0,0]
  ·exact sf (by unfold Xd;rw [Z4 h0,Z6 h1,Z6 ⟨hnumf om,hq⟩]) (by rw [hL,Z6 ((ht _).2 hq)];rfl)
  ·exact sf (by unfold Xd;rw [Z4 h0,Z6 h1,Z4 (fun q=>hq q.2)]) (by rw [hL,Z4 (fun q=>hq ((ht _).1 q))];rfl)
 rw [Z4 h1] at hL
 by_cases h5:s.op=5
 ·rw [Z6 h5] at hL
  by_cases hq:ts=[0]
  ·exact sf (by unfold Xd;rw [Z4 h0,Z4 h1,Z6 h5,Z6 ⟨hnumf om,hq⟩]) (by rw [hL,Z6 ((ht _).2 hq)];rfl)
  ·exact sf (by unfold Xd;rw [Z4 h0,Z4 h1,Z6 h5,Z4 (fun q=>hq q.2)]) (by rw [hL,Z4 (fun q=>hq ((ht _).1 q))];rfl)
 rw [Z4 h5] at hL
 by_cases h6:s.op=6
 ·rw [Z6 h6] at hL
  have hct:0<XN n.decls s.num↔0<=XN n.decls s.num:=by
   rcases Int.lt_or_le (XN n.decls s.num) 1 with q|q
   ·have:=(Ed q).2;omega
   ·omega
  by_cases hq:0<=XN n.decls s.num/\ts=Y1 n.decls s.num
  ·exact sf (by unfold Xd;rw [Z4 h0,Z4 h1,Z4 h5,Z4 om,Z6 h6,Z6 hq]) (by rw [hL,Z6 ⟨hct.2 hq.1,(ht _).2 hq.2⟩];rfl)
  ·exact sf (by unfold Xd;rw [Z4 h0,Z4 h1,Z4 h5,Z4 om,Z6 h6,Z4 hq]) (by rw [hL,Z4 (fun q=>hq ⟨hct.1 q.1,(ht _).1 q.2⟩)];rfl)
 rw [Z4 h6,Z4 h7,Z4 h8] at hL
 by_cases h9:s.op=9
 ·rw [Z6 (.inl h9),Uz] at hL
  cases ha:YN n.routines s.num with
  | none=>exact sf (by unfold Xd;rw [Z4 h0,Z4 h1,Z4 h5,Z4 om,Z4 h6,Z6 h9,ha]) (by rw [hL,ha];rfl)
  | some r=>
   rw [ha] at hL
   simp only at hL
   rw [QQ,Z6 h9] at hL
   have hF:∀{X:Option Int},(if ts=r.params then some r.result else none)=X->Xd n s.op s.num ts=X:=fun q=>by
    unfold Xd;rw [Z4 h0,Z4 h1,Z4 h5,Z4 om,Z4 h6,Z6 h9,ha];exact q
   by_cases hq:ts=r.params
   ·exact sf (hF (Z6 hq)) (by rw [hL,Z6 ((ht _).2 hq)];rfl)
   ·exact sf (hF (Z4 hq)) (by rw [hL,Z4 (fun q=>hq ((ht _).1 q))];rfl)
 by_cases h10:s.op=10
 ·rw [Z6 (.inr h10),Uz] at hL
  cases ha:YN n.routines s.num with
  | none=>exact sf (by unfold Xd;rw [Z4 h0,Z4 h1,Z4 h5,Z4 om,Z4 h6,Z4 h9,Z6 h10,ha]) (by rw [hL,ha];rfl)
  | some r=>
   rw [ha] at hL hlent
   simp only [Cs,Option.getD_some] at hL hlent
   rw [QQ,Z4 h9] at hL
   have hF:∀{X:Option Int},(if r.params.length≠0/\0<=K1 n.decls r.params r.result/\ts=r.params.take (r.params.length-1) then some (K1 n.decls r.params r.result) else none)=X->Xd n s.op s.num ts=X:=fun q=>by
    unfold Xd;rw [Z4 h0,Z4 h1,Z4 h5,Z4 om,Z4 h6,Z4 h9,Z6 h10,ha];exact q
   by_cases hp:r.params.length=0
   ·exact sf (hF (Z4 fun q=>q.1 hp)) (by rw [hL,Z6 (.inl hp)];rfl)
   by_cases hq:ts=r.params.take (r.params.length-1)
   ·rw [Z4 (fun z=>z.elim hp fun z=>z.elim (fun z=>hlent ⟨h10,z⟩) fun z=>z ((ht _).2 hq))] at hL
    by_cases har:0<=K1 n.decls r.params r.result
    ·exact sf (hF (Z6 ⟨hp,har,hq⟩)) hL
    ·refine sf (hF (Z4 fun q=>har q.2.1)) ?_
     have key:∀(l:List Zg) (i:Nat) (f t:Int),¬0<=QH f t l i->QH f t l i=-1:=by
      intro l
      induction l with
      | nil=>intro i f t _;rfl
      | cons d r ih=>
       intro i f t hn
       rw [QH] at hn ⊢
       split
       ·rename_i hh;rw [Z6 hh] at hn;omega
       ·rename_i hh;rw [Z4 hh] at hn;exact ih _ _ _ hn
     exact hL.trans (key _ _ _ _ har)
   ·exact sf (hF (Z4 fun q=>hq q.2.2)) (by rw [hL,Z6 (.inr (.inr fun q=>hq ((ht _).1 q)))];rfl)
 rw [Z4 om] at hL
 by_cases h11:s.op=11
 ·rw [Z6 h11] at hL
  have hn0:=hnumf om
  have hF:∀{X:Option Int},Cw n s.num ts=X->Xd n s.op s.num ts=X:=fun q=>by
   unfold Xd;rw [Z4 h0,Z4 h1,Z4 h5,Z6 h11];exact q
  rcases he:s.args with _|⟨a,_|⟨b,_|⟨c,r⟩⟩⟩
  ·rw [he] at hts hL;rw [XU] at hts;cases hts;exact sf (hF rfl) hL
  ·rw [he] at hl hL
   exact sf (hF (DZ (by simp at hl;omega))) hL
  ·rw [he] at hts hL
   rw [XU] at hts
   cases ha:YN us a with
   | none=>rw [ha] at hts;cases hts
   | some t=>
    rw [ha,XU] at hts
    cases hb:YN us b with
    | none=>rw [hb] at hts;cases hts
    | some t2=>
     rw [hb,XU] at hts;cases hts
     rw [Qg,ha] at hL
     simp only at hL
     by_cases hA:XO n.decls t=true
     ·rw [Z6 hA] at hL
      have hA2:=hA
      simp only [XO,Xv,decide_eq_true_eq] at hA2
      cases hd:n.decls[(t-1).toNat]? with
      | none=>rw [hd] at hA2;simp at hA2
      | some d=>
       rw [hd] at hL
       simp only at hL
       have hD:Vs n.decls t=d:=by rw [Vs,Z6 hA,hd];rfl
       have h2:=Lu (us:=us) (args:=[b]) (ts:=[t2]) (by rw [XU,hb,XU]) [d.frm]
       by_cases hq:t2=d.frm
       ·exact sf (hF (Z6 ⟨hA,by rw [hD];exact hq,hn0⟩)) (by rw [hL,Z6 (h2.2 (by rw [hq])),hD];rfl)
       ·exact sf (hF (Z4 fun q=>hq (by rw [hD] at q;exact q.2.1))) (by rw [hL,Z4 (fun q=>hq (by simpa using h2.1 q))];rfl)
     ·exact sf (hF (Z4 fun q=>hA q.1)) (by rw [hL,Z4 hA];rfl)
  ·rw [he] at hl hL
   exact sf (hF (DZ (by simp at hl;omega))) hL
 rw [Z4 h11,Z4 om] at hL
 exact sf (X:=none) (by unfold Xd;rw [Z4 h0,Z4 h1,Z4 h5,Z4 h11,Z4 h6,Z4 h9,Z4 h10]) hL
end Go.Abs
namespace Go.Abs
theorem Pv:∀(n:Nat) (f:Int) (k:Nat) (x:Int),(Vh f n)[k]? = some x->x=f+k/\k<n
 | 0,f,k,x,h=>by simp [Vh] at h
 | n+1,f,k,x,h=>by
  rw [Vh] at h
  cases k with
  | zero=>simp at h;subst h;exact ⟨by omega,by omega⟩
  | succ k=>have:=Pv n (f+1) k x (by simpa using h);exact ⟨by omega,by omega⟩
theorem N5 {ds:List Zg} (hd:Wk ds) {t:Int} {k:Nat} {x:Int} (h:(YB ds t)[k]? = some x):0<=x/\x<=100:=by
 rw [YB] at h
 split at h
 ·rename_i ht
  obtain ⟨d,hd1⟩:=QM (xs:=ds) (j:=(t-1).toNat) om
  rw [hd1] at h
  have:=Pv _ _ _ _ h
  have h3:=hd.cons_at hd1
  have h4:=(hd.take (t-1).toNat).sum
  simp only [Cs,Option.getD_some] at this
  omega
 ·simp at h
end Go.Abs
namespace Go.Abs
section
variable {S:Option Int} {c:Prop} [Decidable c] {v:Int} {b:Bool}
theorem AB (h:S=if c then some v else none) (hb:b=true↔c):b=S.isSome:=by rw [h,Z7r,Wp,hb,decide_eq_true_iff]
theorem AC (h:S=if c then some v else none):∀x,S=some x->v=x:=by
 intro x hx;rw [h] at hx;split at hx
 ·exact Tn hx
 ·cases hx
theorem Dr (h:S=none):false=S.isSome:=by rw [h];rfl
theorem Ds (h:S=none):∀x,S=some x->v=x:=by intro x hx;rw [h] at hx;cases hx
end
section
variable {n:Zj} {op num:Int} {ts:LI}
theorem sf0 (h:op=0):Xd n op num ts=if (-999<=num/\num<=999)/\ts.length=0 then some 0 else none:=by unfold Xd;rw [Z6 h]
theorem sf1 (h:op=1∨op=2∨op=3∨op=4):Xd n op num ts=if num=0/\ts=[0,0] then some 0 else none:=by unfold Xd;rw [Z4 om,Z6 h]
theorem sf5 (h:op=5):Xd n op num ts=if num=0/\ts=[0] then some 0 else none:=by unfold Xd;rw [Z4 om,Z4 om,Z6 h]
theorem Rv (h:op=11):Xd n op num ts=Cw n num ts:=by unfold Xd;rw [Z4 om,Z4 om,Z4 om,Z6 h]
theorem Zbv (h:op=11) (hl:(ts.length:Int)≠2):Xd n op num ts=none:=(Rv h).trans (DZ om)
theorem IT (h:op=11) {a b:Int} (hl:¬(ts.length:Int)≠2) (ha:ts[0]? = some a) (hb:ts[1]? = some b) :
  Xd n op num ts=if XO n.decls a=true/\b=(Vs n.decls a).frm/\num=0 then some (Vs n.decls a).to_ else none:=by
 rw [Rv h]
 match ts,hl,ha,hb with
 | [x,y],_,ha,hb=>simp at ha hb;subst ha;subst hb;rfl
 | [],hl,_,_=>simp at hl
 | [_],hl,_,_=>simp at hl
 | _::_::_::_,hl,_,_=>simp at hl;omega
theorem Zbu (h:op=11) {a:Int} (hl:¬(ts.length:Int)≠2) (ha:ts[0]? = some a) (hn:¬XO n.decls a=true):Xd n op num ts=none:=by
 obtain ⟨b,hb⟩:=QM (xs:=ts) (j:=1) om
 rw [IT h hl ha hb,Z4 fun q=>hn q.1]
theorem sf6 (h:op=6):Xd n op num ts=if 0<=XN n.decls num/\ts=Y1 n.decls num then some (XN n.decls num) else none:=by
 unfold Xd;rw [Z4 om,Z4 om,Z4 om,Z4 om,Z6 h]
theorem Zbw (h:op=9∨op=10) (hr:num<0∨num>=(((n.routines.map Xq).length:Nat):Int)):Xd n op num ts=none:=by
 have ha:YN n.routines num=none:=QI (by simp at hr;omega)
 unfold Xd
 rw [Z4 om,Z4 om,Z4 om,Z4 om,Z4 om]
 rcases h with h|h
 ·rw [Z6 h,ha]
 ·rw [Z4 om,Z6 h,ha]
theorem sf9 (h:op=9) {x:WO} (hr:¬(num<0∨num>=(((n.routines.map Xq).length:Nat):Int))) (hx:(n.routines.map Xq)[num.toNat]? = some x) :
  Xd n op num ts=if ts=x.pms then some x.res else none:=by
 obtain ⟨r,h1,rfl⟩:=Fx hx
 have ha:YN n.routines num=some r:=TC (by simp at hr;omega) h1
 unfold Xd
 rw [Z4 om,Z4 om,Z4 om,Z4 om,Z4 om,Z6 h,ha];rfl
theorem Zbt (h:op=10) {x:WO} (hr:¬(num<0∨num>=(((n.routines.map Xq).length:Nat):Int))) (hx:(n.routines.map Xq)[num.toNat]? = some x) (hp:(x.pms.length:Int)-1<0) :
  Xd n op num ts=none:=by
 obtain ⟨r,h1,rfl⟩:=Fx hx
 have ha:YN n.routines num=some r:=TC (by simp at hr;omega) h1
 have hp':r.params.length=0:=by simp only [Xq] at hp;omega
 unfold Xd
 rw [Z4 om,Z4 om,Z4 om,Z4 om,Z4 om,Z4 om,Z6 h,ha]
 exact Z4 fun q=>q.1 hp'
theorem Zbs (h:op=10) {x:WO} {l:Int} (hr:¬(num<0∨num>=(((n.routines.map Xq).length:Nat):Int))) (hx:(n.routines.map Xq)[num.toNat]? = some x) (hp:¬(x.pms.length:Int)-1<0)
  (hl:x.pms[((x.pms.length:Int)-1).toNat]? = some l) :
  Xd n op num ts=if 0<=Tf n.decls l x.res/\ts=x.pms.take ((x.pms.length:Int)-1).toNat then some (Tf n.decls l x.res) else none:=by
 obtain ⟨r,h1,rfl⟩:=Fx hx
 have ha:YN n.routines num=some r:=TC (by simp at hr;omega) h1
 simp only [Xq] at hp hl ⊢
 have hq:((r.params.length:Int)-1).toNat=r.params.length-1:=by omega
 have ht:r.params.take ((r.params.length:Int)-1).toNat=r.params.take (r.params.length-1):=Ys (fun k=>r.params.take k) hq
 have hl':r.params[r.params.length-1]? = some l:=by rw [<-hl];exact Ys (fun k=>r.params[k]?) hq.symm
 have hlast:K1 n.decls r.params r.result=Tf n.decls l r.result:=by rw [K1,NZ hl']
 unfold Xd
 rw [Z4 om,Z4 om,Z4 om,Z4 om,Z4 om,Z4 om,Z6 h,ha]
 simp only [hlast]
 by_cases hc:0<=Tf n.decls l r.result/\ts=r.params.take (r.params.length-1)
 ·rw [Z6 ⟨by omega,hc⟩]
  exact (Z6 ⟨hc.1,hc.2.trans ht.symm⟩).symm
 ·rw [Z4 fun q=>hc q.2]
  exact (Z4 (fun q=>hc ⟨q.1,q.2.trans ht⟩)).symm
theorem sfd (h0:¬op=0) (h1:¬(op=1∨op=2∨op=3∨op=4)) (h5:¬op=5) (h11:¬op=11) (h6:¬op=6) (h9:¬(op=9∨op=10)):Xd n op num ts=none:=by
 unfold Xd;rw [Z4 h0,Z4 h1,Z4 h5,Z4 h11,Z4 h6,Z4 om,Z4 om]
end
end Go.Abs
end
namespace Go.Abs
mutual
def Z7.rng:Z7->Prop
 | .mk _ num _ _ kids=>(-9223372036854775808<=num/\num<=9223372036854775807)/\QJ kids
def Zf.rng:Zf->Prop
 | .mk steps _=>U0 steps
def U0:List Z7->Prop
 | []=>True
 | s::r=>s.rng/\U0 r
def QJ:List Zf->Prop
 | []=>True
 | b::r=>b.rng/\QJ r
end
theorem Z7.rng_eq (s:Z7):s.rng=((-9223372036854775808<=s.num/\s.num<=9223372036854775807)/\QJ s.kids):=by cases s;rw [Z7.rng];rfl
theorem Zf.rng_eq (b:Zf):b.rng=U0 b.steps:=by cases b;rw [Zf.rng];rfl
theorem Lg:∀{xs:List Z7} {k:Nat} {s:Z7},U0 xs->xs[k]? = some s->s.rng
 | [],k,s,_,h=>by simp at h
 | x::r,0,s,hr,h=>by rw [U0] at hr;simp at h;subst h;exact hr.1
 | x::r,k+1,s,hr,h=>by rw [U0] at hr;exact Lg (k:=k) hr.2 (by simpa using h)
theorem E3:∀{xs:List Zf} {k:Nat} {b:Zf},QJ xs->xs[k]? = some b->b.rng
 | [],k,s,_,h=>by simp at h
 | x::r,0,s,hr,h=>by rw [QJ] at hr;simp at h;subst h;exact hr.1
 | x::r,k+1,s,hr,h=>by rw [QJ] at hr;exact E3 (k:=k) hr.2 (by simpa using h)
theorem Lv {us:LI}:∀{args:LI},XU us args=none->∀tys,XD us args tys=false
 | [],h,tys=>by rw [XU] at h;cases h
 | a::r,h,tys=>by
  cases tys with
  | nil=>simp [XD,UN]
  | cons t ts=>
   rw [XU] at h
   rw [XD,UN]
   cases ha:YN us a with
   | none=>simp
   | some u=>
    rw [ha] at h
    cases hr:XU us r with
    | none=>
     have:=Lv hr ts
     rw [XD] at this
     by_cases he:u=t
     ·subst he;simpa using this
     ·rw [Z4 (fun q=>he (Tn q))]
    | some tr=>rw [hr] at h;cases h
theorem Ze5 {n:Zj} {us:LI} {s:Z7} (h:XU us s.args=none):ZT n us s=-1:=by
 have ht:=Lv h
 rw [KV]
 split
 ·rfl
 split
 ·rw [Z4];rintro ⟨q,_⟩
  have:s.args=[]:=Bq.1 q
  rw [this,XU] at h;cases h
 split
 ·rw [Z4 (by rw [ht];simp)]
 split
 ·rw [Z4 (by rw [ht];simp)]
 split
 ·rw [Z4 (by rw [ht];simp)]
 split
 ·rw [Z4 (by rw [ht];simp)]
 split
 ·rw [Z4 (by rw [ht];simp)]
 split
 ·rw [Uz]
  cases YN n.routines s.num with
  | none=>rfl
  | some r=>
   simp only
   rw [QQ]
   split
   ·rw [Z4 (by rw [ht];simp)]
   ·rw [Z6 (.inr (.inr (by rw [ht];simp)))]
 split
 ·match hA:s.args with
  | []=>rfl
  | [_]=>rfl
  | [a,b]=>
   rw [Qg]
   rw [hA,XU] at h
   cases ha:YN us a with
   | none=>rfl
   | some t=>
    rw [ha] at h
    simp only at h ⊢
    split
    ·cases n.decls[(t-1).toNat]? with
     | none=>rfl
     | some d=>
      simp only
      rw [Z4]
      cases hb:XU us [b] with
      | none=>rw [Lv hb];simp
      | some tr=>rw [hb] at h;cases h
    ·rfl
  | _::_::_::_=>rfl
 split
 ·match hA:s.args with
  | []=>rfl
  | [a]=>
   rw [TD]
   rw [hA,XU] at h
   cases ha:YN us a with
   | none=>rfl
   | some t=>rw [ha,XU] at h;cases h
  | _::_::_=>rfl
 ·rfl
theorem Mk {us:LI} {a:Int}:∀{xs:LI} {k:Nat},xs[k]? = some a->YN us a=none->XU us xs=none
 | [],k,h,_=>by simp at h
 | x::r,0,h,ha=>by simp at h;subst h;rw [XU,ha]
 | x::r,k+1,h,ha=>by
  have:=Mk (xs:=r) (k:=k) (by simpa using h) ha
  rw [XU]
  cases YN us x with
  | none=>rfl
  | some t=>simp only [this]
theorem Z83 {n:Zj} {us:LI} {ks:List Zf} {ms:List LI} (h:0<ks.length) (t:Int) :
  XP n us (ks.drop 0) (ms.drop 0) (decide (0=0)) t=XP n us ks ms true 0:=by
 cases ks with
 | nil=>simp at h
 | cons b bs=>
  cases ms with
  | nil=>rw [TR,TR,XP,XP]
  | cons m r=>
   simp only [TR,decide_true]
   rw [XP,XP];simp
theorem MC {b:Zf}:∀{ks:List Zf} {k:Nat},ks[k]? = some b->b.sz<=Xn ks
 | [],k,h=>by simp at h
 | x::r,0,h=>by simp at h;subst h;rw [Xn];omega
 | x::r,k+1,h=>by have:=MC (ks:=r) (k:=k) (by simpa using h);rw [Xn];omega
theorem DF (us m:LI):[us,m].flatten=us++m:=by simp
theorem NY {xs:LI} {i:Int} (h:i.toNat<xs.length):xs[i.toNat]? = some (gI xs i):=by rw [gI,Qz h];rfl
theorem Ez {xs:LI} (h:0<xs.length):xs[0]? = some (gI xs 0):=NY (i:=0) h
def U9 (n:Zj) (num:Int):WO:=((n.routines.map Xq)[num.toNat]?).getD ⟨[],[],0⟩
theorem Rx {n:Zj} {i:Int} (h:i.toNat<(n.routines.map Xq).length):(n.routines.map Xq)[i.toNat]? = some (U9 n i):=by rw [U9,Qz h];rfl
theorem Dd {us m:LI} (h1:∀t∈us,0<=t) (h2:∀t∈m,0<=t):∀t∈us++m,0<=t:=fun t h=>(Yz.1 h).elim (h1 t) (h2 t)
theorem Ac {us:LI} {args ts:LI} {k:Nat} (h:XU us (args.take k)=some ts) (hk:args.length<=k):XU us args=some ts:=by
 rw [W6 hk] at h;exact h
theorem Z0v {us:LI} {args ts:LI} {k:Nat} {a t:Int} (h:XU us (args.take k)=some ts) (ha:args[k]? = some a) (ht:YN us a=some t):XU us (args.take (k+1))=some (ts++[t]):=by
 rw [WU ha];exact Mm h ht
theorem PD {ts:LI} (h:(ts.length:Int)=1):ts=[gI ts 0]:=by
 match ts,h with
 | [a],_=>rfl
section
variable {n:Zj} {us ts:LI} {s:Z7}
theorem JK {p1 p2 p3 p4 p5:Prop}:(p1/\(p2∨(p3∨(p4∨p5))))↔(p1/\(((p2∨p3)∨p4)∨p5)):=by simp only [or_assoc]
def Ea (n:Zj) (s:Z7) (ts:LI):Int:=match ts with
  | [t]=>if t≠0/\s.num=0/\s.kids.length=0/\¬((s.op=16∨s.op=17)/\XO n.decls t=true) then 0 else -1
  | _=>-1
theorem AI:Kn n us s ts =
 if YT s.op=true then Ea n s ts
 else if s.op=7 then (if ts=[0]/\s.num=0 then Tc n us s.op s.num s.kids else -1)
 else if s.op=8 then (if ts=[s.num] then Tc n us s.op s.num s.kids else -1)
 else if 0<s.kids.length∨(s.op=10/\0<(((YN n.routines s.num).map (·.lent)).getD []).length) then -1
 else (Xd n s.op s.num ts).getD (-1):=by unfold Kn Ea;rfl
theorem N1 (h:(ts.length:Int)=1):Ea n s ts=if gI ts 0≠0/\s.num=0/\s.kids.length=0/\¬((s.op=16∨s.op=17)/\XO n.decls (gI ts 0)=true) then 0 else -1:=by
 match ts,h with
 | [a],_=>rfl
theorem Z2f (h:(ts.length:Int)≠1):Ea n s ts=-1:=by
 match ts,h with
 | [],_=>rfl
 | [a],h=>exact absurd rfl h
 | _::_::_,_=>rfl
theorem Zdl (hS:ZT n us s=Kn n us s ts) (hc:YT s.op=true)
  (h:((((ts.length:Int)=1/\gI ts 0≠0)/\s.num=0)/\(s.kids.length:Int)=0)/\(s.op=16∨s.op=17)) :
  (!XO n.decls (gI ts 0))=decide (0<=ZT n us s):=by
 obtain ⟨⟨⟨⟨h1,h2⟩,h3⟩,h4⟩,h5⟩:=h
 have h4':s.kids.length=0:=by omega
 rw [hS,AI,Z6 hc,N1 h1]
 cases hA:XO n.decls (gI ts 0)
 ·rw [Z6 ⟨h2,h3,h4',by simp⟩];rfl
 ·rw [Z4 (fun q=>q.2.2.2 ⟨h5,rfl⟩)];rfl
theorem Zdm (hS:ZT n us s=Kn n us s ts) (hc:YT s.op=true)
  (h:¬(((((ts.length:Int)=1/\gI ts 0≠0)/\s.num=0)/\(s.kids.length:Int)=0)/\(s.op=16∨s.op=17))) :
  ((((((ts.length:Int)==1)&&(gI ts 0 != 0))&&(s.num==0))&&((s.kids.length:Int)==0)))=decide (0<=ZT n us s):=by
 rw [hS,AI,Z6 hc]
 by_cases h1:(ts.length:Int)=1
 ·rw [N1 h1]
  by_cases h2:(gI ts 0≠0/\s.num=0)/\(s.kids.length:Int)=0
  ·obtain ⟨⟨h2,h3⟩,h4⟩:=h2
   have h4':s.kids.length=0:=by omega
   rw [Z6 ⟨h2,h3,h4',fun q=>h ⟨⟨⟨⟨h1,h2⟩,h3⟩,h4⟩,q.1⟩⟩,Zs.2 h1,ZP.2 h2,Zs.2 h3,Zs.2 h4];rfl
  ·rw [Z4 (fun q=>h2 ⟨⟨q.1,q.2.1⟩,by have:=q.2.2.1;omega⟩)]
   show _=false
   rw [Jj];intro q
   obtain ⟨⟨⟨_,q1⟩,q2⟩,q3⟩:=(YD (YD (YD Zs ZP) Zs) Zs).1 q
   exact h2 ⟨⟨q1,q2⟩,q3⟩
 ·rw [Z2f h1]
  show _=false
  rw [Jj];intro q
  obtain ⟨⟨⟨q1,_⟩,_⟩,_⟩:=(YD (YD (YD Zs ZP) Zs) Zs).1 q
  exact h1 q1
theorem Zdh (hS:ZT n us s=Kn n us s ts) (hc:¬YT s.op=true) (h7:s.op=7)
  (h:(((ts.length:Int)≠1∨gI ts 0≠0)∨s.num≠0)∨(s.kids.length:Int)≠2):ZT n us s=-1:=by
 rw [hS,AI,Z4 hc,Z6 h7]
 split
 ·rename_i q
  obtain ⟨q1,q2⟩:=q
  rw [q1] at h
  rw [Tc,Z6]
  right
  rw [YJ,Z6 h7]
  have:gI [0] 0=0:=rfl
  simp [this] at h
  show s.kids.length≠2
  omega
 ·rfl
theorem Zdi (hS:ZT n us s=Kn n us s ts) (hc:¬YT s.op=true) (h7:s.op=7)
  (h:¬((((ts.length:Int)≠1∨gI ts 0≠0)∨s.num≠0)∨(s.kids.length:Int)≠2)):ZT n us s=XP n us s.kids (List.replicate 2 []) true 0:=by
 have h1:(ts.length:Int)=1:=Ww.1 fun q=>h (.inl (.inl (.inl q)))
 have h2:gI ts 0=0:=Ww.1 fun q=>h (.inl (.inl (.inr q)))
 have h3:s.num=0:=Ww.1 fun q=>h (.inl (.inr q))
 have h4:(s.kids.length:Int)=2:=Ww.1 fun q=>h (.inr q)
 rw [hS,AI,Z4 hc,Z6 h7,Z6 ⟨by rw [PD h1,h2],h3⟩,Tc,Z4]
 ·rw [YJ,Z6 h7];rfl
 ·rw [YJ,Z6 h7];simp;omega
theorem Zdj (hS:ZT n us s=Kn n us s ts) (hc:¬YT s.op=true) (h7:¬s.op=7) (h8:s.op=8)
  (h:(ts.length:Int)≠1∨(gI ts 0≠s.num∨(((((YB n.decls s.num).map (Y1 n.decls)).length:Nat):Int)=0∨(s.kids.length:Int)≠((((YB n.decls s.num).map (Y1 n.decls)).length:Nat):Int)))):ZT n us s=-1:=by
 rw [hS,AI,Z4 hc,Z4 h7,Z6 h8]
 split
 ·rename_i q
  have hg:gI ts 0=s.num:=by rw [q];rfl
  have hl:(ts.length:Int)=1:=by rw [q];rfl
  rw [Tc,Z6]
  rw [YJ,Z4 h7]
  omega
 ·rfl
theorem Zdk (hS:ZT n us s=Kn n us s ts) (hc:¬YT s.op=true) (h7:¬s.op=7) (h8:s.op=8)
  (h:¬((ts.length:Int)≠1∨(gI ts 0≠s.num∨(((((YB n.decls s.num).map (Y1 n.decls)).length:Nat):Int)=0∨(s.kids.length:Int)≠((((YB n.decls s.num).map (Y1 n.decls)).length:Nat):Int))))) :
  ZT n us s=XP n us s.kids ((YB n.decls s.num).map (Y1 n.decls)) true 0:=by
 have h1:(ts.length:Int)=1:=Ww.1 fun q=>h (.inl q)
 have h2:gI ts 0=s.num:=Ww.1 fun q=>h (.inr (.inl q))
 rw [hS,AI,Z4 hc,Z4 h7,Z6 h8,Z6 (by rw [PD h1,h2]),Tc,Z4]
 ·rw [YJ,Z4 h7]
 ·rw [YJ,Z4 h7];omega
theorem Z8y {n:Zj} {num:Int}:(((YN n.routines num).map (·.lent)).getD []).length=if 0<=num/\num<(((n.routines.map Xq).length:Nat):Int) then (U9 n num).lnt.length else 0:=by
 split
 ·rename_i h
  rw [Um] at h
  obtain ⟨r,hr⟩:=QM (xs:=n.routines) (j:=num.toNat) om
  rw [TC om hr,U9,Tm,hr];rfl
 ·rename_i h
  rw [Um] at h
  rw [QI om];rfl
theorem S8:(0<s.kids.length∨(s.op=10/\0<(((YN n.routines s.num).map (·.lent)).getD []).length)) ↔
  ((s.kids.length:Int)>0∨(s.op=10/\(s.num>=0/\(s.num<(((n.routines.map Xq).length:Nat):Int)/\((((U9 n s.num).lnt).length:Nat):Int)>0)))):=by
 rw [Z8y]
 by_cases hq:0<=s.num/\s.num<(((n.routines.map Xq).length:Nat):Int)
 ·rw [Z6 hq];omega
 ·rw [Z4 hq];omega
theorem stB (hS:ZT n us s=Kn n us s ts) (hc:¬YT s.op=true) (h7:¬s.op=7) (h8:¬s.op=8)
  (h:((s.kids.length:Int)>0∨(s.op=10/\(s.num>=0/\(s.num<(((n.routines.map Xq).length:Nat):Int)/\((((U9 n s.num).lnt).length:Nat):Int)>0))))):ZT n us s=-1:=by
 rw [hS,AI,Z4 hc,Z4 h7,Z4 h8,Z6 (S8.2 h)]
theorem stS (hS:ZT n us s=Kn n us s ts) (hc:¬YT s.op=true) (h7:¬s.op=7) (h8:¬s.op=8)
  (h:¬((s.kids.length:Int)>0∨(s.op=10/\(s.num>=0/\(s.num<(((n.routines.map Xq).length:Nat):Int)/\((((U9 n s.num).lnt).length:Nat):Int)>0))))):ZT n us s=(Xd n s.op s.num ts).getD (-1):=by
 rw [hS,AI,Z4 hc,Z4 h7,Z4 h8,Z4 (fun q=>h (S8.1 q))]
theorem Zdn (hty:QC n) (h:ZT n us s=(Xd n s.op s.num ts).getD (-1)):(Xd n s.op s.num ts).isSome=decide (0<=ZT n us s):=by
 rw [h]
 cases hs:Xd n s.op s.num ts with
 | none=>rfl
 | some x=>have:=Zbz hty hs;simp [this]
theorem Zdo {t:Int} (h:ZT n us s=(Xd n s.op s.num ts).getD (-1)) (hp:∀x,Xd n s.op s.num ts=some x->t=x):¬YT s.op=true->0<=ZT n us s->t=ZT n us s:=by
 intro _ h0
 rw [h] at h0 ⊢
 cases hs:Xd n s.op s.num ts with
 | none=>rw [hs] at h0;exact absurd h0 (by decide)
 | some x=>exact hp x hs
end
theorem Ze4 {n:Zj} {us:LI} {s:Z7} (h:0<=ZT n us s):(0<=s.op/\s.op<=11)∨(14<=s.op/\s.op<=17):=by
 rw [KV] at h
 by_cases hq:(0<=s.op/\s.op<=11)∨(14<=s.op/\s.op<=17)
 ·exact hq
 ·exfalso
  split at h
  ·omega
  rw [Z4 om,Z4 om,Z4 om,Z4 om,Z4 om,Z4 om,Z4 om,Z4 om,Z4 om] at h
  omega
theorem H4 {n:Zj} {us:LI} {s:Z7} (h:0<=ZT n us s):XA s.op=!YT s.op:=by
 have:=Ze4 h
 rw [XA,YT,Wp];simp;omega
theorem Ze7 {n:Zj} {xs:List Z7} {vs:LI} {k:Nat} {s:Z7} {t:Int} {r:Option LI} (hs:xs[k]? = some s) (h:0<=ZT n vs s) (ht:¬YT s.op=true->0<=ZT n vs s->t=ZT n vs s)
  (hr:Xu n (xs.drop k) vs=r):Xu n (xs.drop (k+1)) (if YT s.op=true then vs else vs++[t])=r:=by
 rw [ZH hs,Xu,Z4 om] at hr
 rw [<-hr,H4 h]
 by_cases hc:YT s.op=true
 ·rw [Z6 hc,hc];rfl
 ·rw [Z4 hc,Z6 (by simpa using hc),ht hc h]
theorem Ze8 {n:Zj} {xs:List Z7} {vs:LI} {k:Nat} {s:Z7} {r:Option LI} (hs:xs[k]? = some s) (h:¬0<=ZT n vs s) (hr:Xu n (xs.drop k) vs=r):r=none:=by
 rw [ZH hs,Xu,Z6 om] at hr;exact hr.symm
theorem Z9j {c:Prop} [Decidable c] {vs:LI} {t:Int} (h:∀x∈vs,0<=x) (ht:¬c->0<=t):∀x∈(if c then vs else vs++[t]),0<=x:=by
 split
 ·exact h
 ·rename_i hc
  exact Dd h (fun x hx=>by rw [YL.1 hx];exact ht hc)
theorem Mi {m:Nat} {xs:LI} (h:XT m xs=true):∀x∈xs,0<=x/\x<=m:=by
 rw [XT,Bp] at h
 exact fun x hx=>of_decide_eq_true (h x hx)
theorem Pp {n:Zj} (h:Va n=true):QC n:=by
 simp only [Va,Qx,Xv,decide_eq_true_eq] at h
 obtain ⟨h1,⟨h2,h3,h4,h5⟩,h6⟩:=h
 have hs:∀r∈n.routines,XT n.decls.length r.params=true/\0<=r.result:=fun r hr=>by
  have:=IU h4 (VZ r) (Xe.2 ⟨r,hr,rfl⟩)
  simp only [Kk,Xv,decide_eq_true_eq] at this
  exact ⟨this.2.1,this.2.2.1⟩
 simp only [WB,Xv,decide_eq_true_eq] at h2
 obtain ⟨h2a,h2b⟩:=h2
 rw [H2] at h2b
 have key:∀(i:Nat) (d:Zg),n.decls[i]? = some d->Ur n.decls d i=true:=fun i d hi=>by
  have:=h2b i (W5.1 hi).1
  rwa [Vk,CJ hi] at this
 refine ⟨fun r hr=>(hs r hr).2,fun r hr p hp=>(Mi (hs r hr).1 p hp).1,fun d hd h0=>?_,fun c f hf=>?_⟩
 ·obtain ⟨i,hi⟩:=List.mem_iff_getElem?.1 hd
  have:=key i d hi
  rw [Ur,Z4 om] at this
  split at this
  ·cases this
  ·simp only [Xv,decide_eq_true_eq] at this;omega
 ·by_cases hc:XN n.decls c<1
  ·rw [(Ed hc).1] at hf;cases hf
  ·obtain ⟨k,d,x,q1,q2,q3,q4,q5⟩:=GV hc
   rw [q5] at hf
   have:=key k d q1
   have hp:0<d.cons.length:=by have:=(W5.1 q3).1;omega
   rw [Ur,Z6 hp] at this
   split at this
   ·have:=N6.1 this x (YF q3)
    simp only [KE,Xv] at this
    exact (Mi this.2 f hf).1
   ·cases this
end Go.Abs
section
namespace Go.Abs
structure YM where
 mat:Int
 fst:Int
 fds:LI
 chg:Bool
abbrev OP (a:YM):List AV:=[.i a.mat,.i a.fst,Ze a.fds,.b a.chg]
abbrev LO (a:YM):AV:=.agg (OP a)
def Wu (xs:List YM):List AV:=xs.map LO
abbrev YR (xs:List YM):AV:=.sl (Wu xs) none
abbrev Il (xs:List YM) (v:Value):AV:=.sl (Wu xs) (some v)
theorem Z3p {xs:List YM} {j:Nat} {x:YM} (h:xs[j]? = some x):(Wu xs)[j]? = some (LO x):=by simp [Wu,h]
@[simp] theorem Z3q (xs:List YM):(Wu xs).length=xs.length:=by simp [Wu]
theorem Nj (xs ys:List YM):Wu (xs++ys)=Wu xs++Wu ys:=by simp [Wu]
theorem BI (xs:List YM):∀y∈Wu xs,y.leaves.length=4:=by intro y hy;simp only [Wu,Xe] at hy;obtain ⟨x,_,rfl⟩:=hy;rfl
theorem H7 (xs:List YM):(Zu (Wu xs)).all AV.one=true:=KI fun y hy=>by simp only [Wu,Xe] at hy;obtain ⟨x,_,rfl⟩:=hy;rfl
theorem Z3r {xs:List YM} (h:Wu xs=[]):xs=[]:=by cases xs with|nil=>rfl|cons x r=>cases h
abbrev WL:=Zb
def VN:LI->Int->LI
 | [],_=>[]
 | t::r,p=>if t≠0 then p::VN r (p+1) else VN r (p+1)
theorem Z5a {xs:LI} {k:Nat} {t p:Int} {acc r:LI} (h:xs[k]? = some t) (ha:acc++VN (xs.drop k) (p+k)=r) :
  (if t≠0 then acc++[p+k] else acc)++VN (xs.drop (k+1)) (p+((k+1:Nat):Int))=r:=by
 rw [ZH h,VN] at ha
 rw [show p+((k+1:Nat):Int)=p+k+1 by omega]
 split
 ·rename_i q;rw [Z6 q] at ha;rw [U1];exact ha
 ·rename_i q;rw [Z4 q] at ha;exact ha
theorem Z59 {xs:LI} {k:Nat} {p:Int} {acc r:LI} (h:xs.length<=k) (ha:acc++VN (xs.drop k) (p+k)=r):acc=r:=by
 rw [YV h,VN,AM] at ha;exact ha
theorem HG:∀(xs:LI) (p:Int) (own:LI),UP own p xs=(VN xs p).foldl (fun o f=>o.set f.toNat (gI o f+1)) own
 | [],_,_=>rfl
 | t::r,p,own=>by
  rw [UP,VN]
  split
  ·rw [List.foldl_cons];exact HG r _ _
  ·exact HG r _ _
theorem HH:∀{xs:LI} {p f:Int},f∈VN xs p->p<=f/\f<p+xs.length
 | [],_,_,h=>by simp [VN] at h
 | t::r,p,f,h=>by
  rw [VN] at h
  split at h
  ·rcases YA.1 h with rfl|h
   ·simp only [XI];omega
   ·have:=HH h;simp only [XI];omega
  ·have:=HH h;simp only [XI];omega
theorem O2:∀(xs:LI) (p:Int),(VN xs p).length<=xs.length
 | [],_=>by simp [VN]
 | t::r,p=>by
  have:=O2 r (p+1)
  rw [VN];split<;>simp<;>omega
def Ui:List YM->Int->Option YM
 | [],_=>none
 | a::r,v=>match Ui r v with
  | some x=>some x
  | none=>if a.mat=v then some a else none
theorem PB {a:YM}:∀{as1:List YM} {v:Int},Ui (as1++[a]) v=if a.mat=v then some a else Ui as1 v
 | [],v=>rfl
 | x::r,v=>by
  rw [Ku,Ui,PB]
  by_cases h:a.mat=v
  ·rw [Z6 h,Z6 h]
  ·rw [Z4 h,Z4 h];rfl
theorem Dh {v:Int}:∀{as1:List YM},(∀a∈as1,a.mat≠v)->Ui as1 v=none
 | [],_=>rfl
 | x::r,h=>by rw [Ui,Dh (fun a ha=>h a (Xy _ ha))];exact Z4 (h x (YY ..))
theorem PA {v:Int} {a:YM}:∀{as1:List YM},Ui as1 v=some a->a∈as1/\a.mat=v
 | [],h=>by cases h
 | x::r,h=>by
  rw [Ui] at h
  cases hr:Ui r v with
  | some y=>rw [hr] at h;cases h;have:=PA hr;exact ⟨Xy _ this.1,this.2⟩
  | none=>
   rw [hr] at h
   simp only at h
   split at h
   ·cases h;exact ⟨YY ..,by assumption⟩
   ·cases h
structure WD (ds:List Zg) (L:Zb) (as1:List YM):Prop where
 rng:∀a∈as1,0<=a.mat/\a.mat<a.fst/\a.fst+a.fds.length<=L.vars.length
 par:∀a∈as1,∀v:Int,a.fst<=v->v<a.fst+a.fds.length->gI L.par v=a.mat
 non:∀v:Int,0<=v->v<L.vars.length->0<=gI L.par v->∃a∈as1,a.fst<=v/\v<a.fst+a.fds.length
 off:∀v:Int,0<=v->v<L.vars.length->match Ui as1 v with
  | none=>gI L.con v<0
  | some a=>0<=gI L.con v/\a.fst=gI L.fst v/\a.fds=Y1 ds (gI L.con v)
theorem WD.same {ds:List Zg} {L M:Zb} {as1:List YM} (h:WD ds L as1) (h1:M.vars.length=L.vars.length) (h2:M.par=L.par) (h3:M.con=L.con) (h4:M.fst=L.fst):WD ds M as1:=by
 refine ⟨?_,?_,?_,?_⟩
 ·rw [h1];exact h.rng
 ·rw [h2];exact h.par
 ·rw [h1,h2];exact h.non
 ·rw [h1,h3,h4];exact h.off
theorem WD.grow {ds:List Zg} {L:Zb} {as1:List YM} {t o:Int} (h:WD ds L as1) (hl:Wc L):WD ds (L.grow t o (-1)) as1:=by
 obtain ⟨e1,e2,e3,e4,e5⟩:=hl
 have key:∀{xs:LI} {y v:Int},xs.length=L.vars.length->0<=v->v<L.vars.length->gI (xs++[y]) v=gI xs v:=fun hx h0 h1=>Aj om
 have kend:∀{xs:LI} {y v:Int},xs.length=L.vars.length->v=(L.vars.length:Int)->gI (xs++[y]) v=y:=fun hx h1=>Hx om
 have hlen:(L.grow t o (-1)).vars.length=L.vars.length+1:=by simp [Zb.grow]
 refine ⟨fun a ha=>?_,fun a ha v h1 h2=>?_,fun v h0 h1 h2=>?_,fun v h0 h1=>?_⟩
 ·have:=h.rng a ha;omega
 ·have:=h.rng a ha
  show gI (L.par++[-1]) v=a.mat
  rw [key e2 om om];exact h.par a ha v h1 h2
 ·have h2':0<=gI (L.par++[-1]) v:=h2
  by_cases hv:v<L.vars.length
  ·rw [key e2 h0 hv] at h2';exact h.non v h0 hv h2'
  ·rw [kend e2 om] at h2';omega
 ·show match Ui as1 v with
   | none=>gI (L.con++[-1]) v<0
   | some a=>0<=gI (L.con++[-1]) v/\a.fst=gI (L.fst++[-1]) v/\a.fds=Y1 ds (gI (L.con++[-1]) v)
  by_cases hv:v<L.vars.length
  ·rw [key e3 h0 hv,key e4 h0 hv];exact h.off v h0 hv
  ·rw [Dh (fun a ha=>by have:=h.rng a ha;omega)]
   show gI (L.con++[-1]) v<0
   rw [kend e3 om];omega
theorem WD.arm {ds:List Zg} {L:Zb} {as1:List YM} {x c:Int} (h:WD ds L as1) (hl:Wc L) (hx:0<=x/\x<L.vars.length) (hc:0<=c) :
  WD ds (J3 ds L x c) (as1++[⟨x,(L.vars.length:Nat),Y1 ds c,false⟩]):=by
 obtain ⟨e1,e2,e3,e4,e5⟩:=hl
 rw [J3,HD]
 have hnew:∀{xs:LI} {y v:Int},xs.length=L.vars.length->(L.vars.length:Int)<=v->v<L.vars.length+(Y1 ds c).length->gI (xs++List.replicate (Y1 ds c).length y) v=y:=fun hx h0 h1=>HA om
 have X9:∀{xs:LI} {y v:Int},xs.length=L.vars.length->0<=v->v<L.vars.length->gI (xs++List.replicate (Y1 ds c).length y) v=gI xs v:=fun hx h0 h1=>Aj om
 refine ⟨fun a ha=>?_,fun a ha v h1 h2=>?_,fun v h0 h1 h2=>?_,fun v h0 h1=>?_⟩
 ·simp only [YE]
  rcases Yz.1 ha with ha|ha
  ·have:=h.rng a ha;omega
  ·rw [YL.1 ha]
   show 0<=x/\x<(L.vars.length:Nat)/\(L.vars.length:Int)+((Y1 ds c).length:Nat)<=_
   omega
 ·show gI (L.par++List.replicate _ x) v=a.mat
  rcases Yz.1 ha with ha|ha
  ·have:=h.rng a ha
   rw [X9 e2 om om];exact h.par a ha v h1 h2
  ·rw [YL.1 ha] at h1 h2 ⊢
   exact hnew e2 h1 h2
 ·simp only [YE] at h1
  have h2':0<=gI (L.par++List.replicate (Y1 ds c).length x) v:=h2
  by_cases hv:v<L.vars.length
  ·rw [X9 e2 h0 hv] at h2'
   obtain ⟨a,ha,q⟩:=h.non v h0 hv h2'
   exact ⟨a,List.mem_append_left _ ha,q⟩
  ·exact ⟨_,List.mem_append_right _ (YL.2 rfl),by show (L.vars.length:Int)<=v;omega,by show v<(L.vars.length:Int)+(Y1 ds c).length;omega⟩
 ·simp only [YE] at h1
  show match Ui (as1++[⟨x,(L.vars.length:Nat),Y1 ds c,false⟩]) v with
   | none=>gI (L.con.set x.toNat c++List.replicate (Y1 ds c).length (-1)) v<0
   | some a=>0<=gI (L.con.set x.toNat c++List.replicate (Y1 ds c).length (-1)) v/\a.fst=gI (L.fst.set x.toNat L.vars.length++List.replicate (Y1 ds c).length (-1)) v /\
     a.fds=Y1 ds (gI (L.con.set x.toNat c++List.replicate (Y1 ds c).length (-1)) v)
  rw [PB]
  by_cases hv:v<L.vars.length
  ·rw [X9 (by simp [e3]) h0 hv,X9 (by simp [e4]) h0 hv]
   by_cases he:x=v
   ·rw [Z6 he]
    show 0<=gI (L.con.set x.toNat c) v/\(L.vars.length:Int)=gI (L.fst.set x.toNat L.vars.length) v/\Y1 ds c=Y1 ds (gI (L.con.set x.toNat c) v)
    rw [EA om om,EA om om]
    exact ⟨hc,rfl,rfl⟩
   ·rw [Z4 he,EB om,EB om];exact h.off v h0 hv
  ·rw [hnew (by simp [e3]) om om]
   rw [Z4 (by show ¬x=v;omega),Dh (fun a ha=>by have:=h.rng a ha;omega)]
   show (-1:Int)<0
   omega
theorem Z0m {L:Zb} {ln:LI} {v:Int} {p:Int} (hv:0<=v/\v<L.vars.length) (hd:∀i:Int,0<=i->i<L.vars.length->gI L.par i<i) (h:¬(gI L.own v>0∨v∈ln)) (hp:gI L.par v=p) (h0:0<=p):XL L ln v=XL L ln p:=
 (Mg (N:=L.vars.length) rfl hp hv ⟨by omega,fun q=>h (.inr q)⟩ om hd rfl).symm
theorem Z0l {L:Zb} {ln:LI} {v:Int} (h:¬(gI L.own v>0∨v∈ln)) (hp:gI L.par v<0):XL L ln v=false:=
 (Mf rfl rfl ⟨by omega,fun q=>h (.inr q)⟩ hp rfl).symm
theorem Z0n {L:Zb} {ln:LI} {v:Int} (h:gI L.own v>0∨v∈ln):XL L ln v=true:=
 (Mh rfl (fun q=>h.elim (fun z=>by omega) q.2) rfl).symm
end Go.Abs
namespace Go.Abs
def Xf (L:Zb) (v:Int):Zb:={ L with own:=L.own.set v.toNat (gI L.own v-1) }
theorem JZ {L:Zb} {v:Int}:Ul L v=if 1<=gI L.own v then some (Xf L v) else none:=by
 rw [Ul]
 by_cases h:gI L.own v<1
 ·rw [Z6 h,Z4 om]
 ·rw [Z4 h,Z6 om];rfl
end Go.Abs
namespace Go.Abs
def XJ (L:Zb) (r:Int):Zb:=if gI L.vars r≠0 then Xf L r else L
theorem NE {L:Zb} {m:Nat} {r:Int} (ho:gI L.vars r≠0->1<=gI L.own r) (hz:WJ ((XJ L r).own.drop m) ((XJ L r).tok.drop m)=true):VM m r L=some ((XJ L r).take m):=by
 rw [VM]
 by_cases h:gI L.vars r≠0
 ·rw [Z6 h,JZ,Z6 (ho h)]
  have e:XJ L r=Xf L r:=Z6 h
  rw [e] at hz ⊢
  exact Z6 hz
 ·rw [Z4 h]
  have e:XJ L r=L:=Z4 h
  rw [e] at hz ⊢
  exact Z6 hz
theorem Z4c {L:Zb} {m:Nat} {r:Int} (h:gI L.vars r≠0) (ho:¬1<=gI L.own r):VM m r L=none:=by
 rw [VM,Z6 h,JZ,Z4 ho];rfl
theorem Eu {L:Zb} {m:Nat} {r:Int} (hz:WJ ((XJ L r).own.drop m) ((XJ L r).tok.drop m)=false):VM m r L=none:=by
 rw [VM]
 by_cases h:gI L.vars r≠0
 ·rw [Z6 h,JZ]
  have e:XJ L r=Xf L r:=Z6 h
  rw [e] at hz
  split
  ·exact Z4 (by rw [hz];simp)
  ·rfl
 ·rw [Z4 h]
  have e:XJ L r=L:=Z4 h
  rw [e] at hz
  exact Z4 (by rw [hz];simp)
theorem FT {os ts:LI} {k:Nat} {o t:Int} {r:Bool} (h1:os[k]? = some o) (h2:ts[k]? = some t) (h:o≠0∨0<=t) (hr:WJ (os.drop k) (ts.drop k)=r):r=false:=by
 rw [ZH h1,ZH h2,WJ,Z6 h] at hr;exact hr.symm
theorem FU {os ts:LI} {k:Nat} {o t:Int} {r:Bool} (h1:os[k]? = some o) (h2:ts[k]? = some t) (h:¬(o≠0∨0<=t)) (hr:WJ (os.drop k) (ts.drop k)=r):WJ (os.drop (k+1)) (ts.drop (k+1))=r:=by
 rw [ZH h1,ZH h2,WJ,Z4 h] at hr;exact hr
theorem SU {os ts:LI} {k:Nat} {r:Bool} (h1:os.length<=k) (hr:WJ (os.drop k) (ts.drop k)=r):r=true:=by
 rw [YV h1] at hr;rw [<-hr];simp [WJ]
end Go.Abs
namespace Go.Abs
def BE (o:LI) (fs:LI):LI:=fs.foldl (fun o f=>o.set f.toNat (gI o f+1)) o
theorem Z1n {p:Int} {xs own:LI}:BE own (VN xs p)=UP own p xs:=(HG xs p own).symm
theorem Z1o {fs o r:LI} {k:Nat} {f x:Int} (h:fs[k]? = some f) (hx:gI o f=x) (hr:BE o (fs.drop k)=r):BE (o.set f.toNat (x+1)) (fs.drop (k+1))=r:=by
 rw [ZH h,BE,List.foldl_cons,hx] at hr;exact hr
theorem MF {fs o r:LI} {k:Nat} (h:fs.length<=k) (hr:BE o (fs.drop k)=r):o=r:=by
 rw [YV h] at hr;exact hr
def Qj (n:Zj) (ln:LI) (L:Zb) (op v:Int):Option Zb:=if op=14 then J7 L ln v else if op=15 then Ul L v else TP n.decls L op v
section
variable {n:Zj} {ln:LI} {L:Zb} {op v:Int} {am:List YM} {a:YM}
theorem Z2h (h:op=14) (ha:¬XL L ln v=true):Qj n ln L op v=none:=by rw [Qj,Z6 h,J7,Z4 ha]
theorem Z2i (h:op=14) (ha:XL L ln v=true) {x:Int} (hx:gI L.own v=x):Qj n ln L op v=some { L with own:=L.own.set v.toNat (x+1) }:=by rw [Qj,Z6 h,J7,Z6 ha,hx]
theorem Z2k (h:op=15) (ht:1<=gI L.own v):Qj n ln L op v=some (Xf L v):=by rw [Qj,Z4 om,Z6 h,JZ,Z6 ht]
theorem Z2j (h:op=15) (ht:¬1<=gI L.own v):Qj n ln L op v=none:=by rw [Qj,Z4 om,Z6 h,JZ,Z4 ht]
theorem N3 (h1:¬op=14) (h2:¬op=15):Qj n ln L op v=TP n.decls L op v:=by rw [Qj,Z4 h1,Z4 h2]
theorem Zad {ds:List Zg} (har:WD ds L am) (hv:0<=v/\v<L.vars.length) (ho:Ui am v=none):TP ds L op v=none:=by
 have:=har.off v hv.1 hv.2
 rw [ho] at this
 rw [TP,Z6 (.inl this)]
theorem Zac {ds:List Zg} (har:WD ds L am) (hv:0<=v/\v<L.vars.length) (ho:Ui am v=some a) {xt:Int} (hxt:gI L.tok v=xt):TP ds L op v=if ¬1<=gI L.own v∨(op=17/\xt>=0) then none else
  some { Xf L v with own:=UP (Xf L v).own a.fst a.fds,tok:=if op=17 then L.tok.set v.toNat a.fds.length else L.tok }:=by
 have:=har.off v hv.1 hv.2
 rw [ho] at this
 obtain ⟨h1,h2,h3⟩:=this
 have hcon:¬gI L.con v<0:=by omega
 rw [TP,JZ,hxt,<-h2,<-h3]
 by_cases ht:1<=gI L.own v
 ·rw [Z6 ht]
  by_cases h17:op=17/\xt>=0
  ·have c1:gI L.con v<0∨(op=17/\0<=xt):=.inr h17
   have c2:¬1<=gI L.own v∨(op=17/\xt>=0):=.inr h17
   rw [Z6 c1,Z6 c2]
  ·have c1:¬(gI L.con v<0∨(op=17/\0<=xt)):=fun q=>q.elim hcon h17
   have c2:¬(¬1<=gI L.own v∨(op=17/\xt>=0)):=fun q=>q.elim (fun z=>z ht) h17
   rw [Z4 c1,Z4 c2]
 ·rw [Z4 ht]
  have c2:¬1<=gI L.own v∨(op=17/\xt>=0):=.inl ht
  rw [Z6 c2]
  split<;>rfl
end
end Go.Abs
namespace Go.Abs
theorem Z3d {ds:List Zg} {L:Zb} {q v:Int} (hk:YK ds L q) (h1:1<=gI L.own v) (hv:0<=v/\v<L.vars.length):∀y∈(Xf L v).own,0<=y/\y<=q:=by
 intro y hy
 rcases QP hy with hy|rfl
 ·exact ⟨hk.nn y hy,hk.bd y hy⟩
 ·obtain ⟨x,hx⟩:=QM (xs:=L.own) (j:=v.toNat) (by have:=hk.len.own;omega)
  have hg:=Vt hx
  have:=hk.bd x (YF hx)
  omega
end Go.Abs
end
section
namespace Go.Abs
def WI (n:Zj) (us:LI) (op num:Int):LI->Nat->LI
 | [],_=>[]
 | a::r,i=>if Q0 n us op num a i=true then (i:Int)::WI n us op num r (i+1) else WI n us op num r (i+1)
section
variable {n:Zj} {us:LI} {op num:Int}
theorem Zan {args acc r:LI} {k:Nat} {a:Int} (h:args[k]? = some a) (hc:Q0 n us op num a k=true) (hr:acc++WI n us op num (args.drop k) k=r) :
  (acc++[(k:Int)])++WI n us op num (args.drop (k+1)) (k+1)=r:=by
 rw [ZH h,WI,Z6 hc] at hr;rw [U1];exact hr
theorem PV {args acc r:LI} {k:Nat} {a:Int} (h:args[k]? = some a) (hc:¬Q0 n us op num a k=true) (hr:acc++WI n us op num (args.drop k) k=r) :
  acc++WI n us op num (args.drop (k+1)) (k+1)=r:=by
 rw [ZH h,WI,Z4 hc] at hr;exact hr
theorem Zam {args acc r:LI} {k:Nat} (h:args.length<=k) (hr:acc++WI n us op num (args.drop k) k=r):acc=r:=by
 rw [YV h,WI,AM] at hr;exact hr
theorem Iz (h:¬Qk op=true):∀(args:LI) (i:Nat),WI n us op num args i=[]
 | [],_=>rfl
 | a::r,i=>by
  have hb:Qk op=false:=by simpa using h
  rw [WI,Z4 (by rw [Q0,hb];simp)];exact Iz h r (i+1)
theorem Iy:∀{args:LI} {i:Nat} {p:Int},p∈WI n us op num args i->(i:Int)<=p/\p<i+args.length
 | [],_,_,h=>by simp [WI] at h
 | a::r,i,p,h=>by
  rw [WI] at h
  simp only [XI]
  split at h
  ·rcases YA.1 h with rfl|h
   ·omega
   ·have:=Iy h;omega
  ·have:=Iy h;omega
theorem PU:∀(args:LI) (i:Nat),(WI n us op num args i).length<=args.length
 | [],_=>by simp [WI]
 | a::r,i=>by
  have:=PU r (i+1)
  rw [WI];split<;>simp<;>omega
theorem P3 (h:¬Qk op=true) (i:Nat):¬VP n op num i=true:=by
 have:op≠9:=fun q=>h (by rw [q];rfl)
 rw [VP,JN,Z4 this];simp
def A7 (n:Zj) (op num:Int) (args:LI) (k:Nat) (ls:LI):Prop:=∀x,x∈ls↔∃i,i<k/\args[i]? = some x/\VP n op num i=true
theorem P1 {args ls:LI} {k:Nat} (h:A7 n op num args k ls) (hl:¬VP n op num k=true):A7 n op num args (k+1) ls:=by
 intro x;rw [h x]
 constructor
 ·rintro ⟨i,q1,q2⟩;exact ⟨i,by omega,q2⟩
 ·rintro ⟨i,q1,q2,q3⟩
  rcases AO i k with q|q
  ·exact ⟨i,q,q2,q3⟩
  ·have:i=k:=by omega
   subst this;exact absurd q3 hl
theorem Z8s {args ls ls2:LI} {k:Nat} {a:Int} (ha:args[k]? = some a) (h:A7 n op num args k ls) (hl:VP n op num k=true) (h2:∀x,x∈ls2↔x∈ls∨x=a):A7 n op num args (k+1) ls2:=by
 intro x;rw [h2 x,h x]
 constructor
 ·rintro (⟨i,q1,q2⟩|rfl)
  ·exact ⟨i,by omega,q2⟩
  ·exact ⟨k,by omega,ha,hl⟩
 ·rintro ⟨i,q1,q2,q3⟩
  rcases AO i k with q|q
  ·exact .inl ⟨i,q,q2,q3⟩
  ·have:i=k:=by omega
   subst this;rw [ha] at q2;exact .inr (Tn q2).symm
theorem Z8u {args:LI}:A7 n op num args 0 []:=by intro x;simp
theorem Z8t {args ls:LI} {k:Nat} (h:A7 n op num args k ls) (hk:args.length<=k):∀x,x∈ls↔∃i,args[i]? = some x/\VP n op num i=true:=by
 intro x;rw [h x]
 constructor
 ·rintro ⟨i,_,q⟩;exact ⟨i,q⟩
 ·rintro ⟨i,q⟩;exact ⟨i,by have:=(W5.1 q.1).1;omega,q⟩
end
def Qv (args:LI):LI->Zb->Option Zb
 | [],L=>some L
 | k::r,L=>match Ul L (gI args k) with
  | none=>none
  | some L1=>Qv args r L1
theorem DE {n:Zj} {op num:Int} {all:LI}:∀{args:LI} {i:Nat} {L:Zb},all.drop i=args->TJ n op num args i L=Qv all (WI n L.vars op num args i) L
 | [],i,L,_=>rfl
 | a::r,i,L,h=>by
  have hr:all.drop (i+1)=r:=by rw [<-List.drop_drop,h];rfl
  have ha:gI all (i:Int)=a:=by
   have:(all.drop i)[0]? = some a:=by rw [h];rfl
   rw [Cm] at this
   exact Vt (by simpa using this)
  rw [TJ,WI]
  split
  ·rw [Qv,ha]
   cases ht:Ul L a with
   | none=>rfl
   | some L1=>
    simp only
    rw [DE hr,(Qu ht).2.1]
  ·exact DE hr
theorem Zej {args ps:LI} {k:Nat} {L:Zb} {p x:Int} {r:Option Zb} (h:ps[k]? = some p) (hx:gI args p=x) (ht:1<=gI L.own x) (hr:Qv args (ps.drop k) L=r):Qv args (ps.drop (k+1)) (Xf L x)=r:=by
 rw [ZH h,Qv,hx,JZ,Z6 ht] at hr;exact hr
theorem Zek {args ps:LI} {k:Nat} {L:Zb} {p x:Int} {r:Option Zb} (h:ps[k]? = some p) (hx:gI args p=x) (ht:¬1<=gI L.own x) (hr:Qv args (ps.drop k) L=r):r=none:=by
 rw [ZH h,Qv,hx,JZ,Z4 ht] at hr;exact hr.symm
theorem Zei {args ps:LI} {k:Nat} {L:Zb} {r:Option Zb} (h:ps.length<=k) (hr:Qv args (ps.drop k) L=r):r=some L:=by
 rw [YV h,Qv] at hr;exact hr.symm
theorem EC {n:Zj} {op num:Int} {ln:LI} {L:Zb} {all:LI}:∀{args:LI} {i:Nat},all.drop i=args ->
  (Ka n op num ln L args i=true↔∀j x,i<=j->all[j]? = some x->VP n op num j=true->XL L ln x=true)
 | [],i,h=>by
  simp only [Ka,true_iff]
  intro j x hj hx _
  have:=(W5.1 hx).1
  have hl:=Ys List.length h
  simp at hl;omega
 | a::r,i,h=>by
  have hr:all.drop (i+1)=r:=by rw [<-List.drop_drop,h];rfl
  have ha:all[i]? = some a:=by
   have:(all.drop i)[0]? = some a:=by rw [h];rfl
   rw [Cm] at this;simpa using this
  rw [Ka]
  split
  ·rename_i q
   simp only [Bool.false_eq_true,false_iff]
   exact fun z=>q.2 (z i a (X1 _) ha q.1)
  ·rename_i q
   rw [EC hr]
   constructor
   ·intro z j x hj hx hl
    rcases AO i j with hij|hij
    ·exact z j x hij hx hl
    ·have:j=i:=by omega
     subst this;rw [ha] at hx;cases hx
     exact Ww.1 fun y=>q ⟨hl,y⟩
   ·exact fun z j x hj=>z j x om
theorem O1 {n:Zj} {ln:LI} {L L1:Zb} {op num into:Int} {args ls:LI} (h1:Qv args (WI n L.vars op num args 0) L=some L1) (hl:∀x,x∈ls↔∃i,args[i]? = some x/\VP n op num i=true) :
  ((∀x∈ls,XL L1 ln x=true)->Ut n ln L op num into args=Kb L1 into args.length)/\((∃x∈ls,¬XL L1 ln x=true)->Ut n ln L op num into args=none):=by
 rw [Ut,DE (all:=args) (args:=args) (i:=0) rfl,h1]
 simp only
 constructor
 ·intro h
  rw [Z6 ((EC (all:=args) (args:=args) (i:=0) rfl).2 fun j x _ hx hj=>h x ((hl x).2 ⟨j,hx,hj⟩))]
 ·rintro ⟨x,hx,hd⟩
  rw [Z4]
  intro z
  obtain ⟨j,q1,q2⟩:=(hl x).1 hx
  exact hd ((EC (all:=args) (args:=args) (i:=0) rfl).1 z j x (TT _) q1 q2)
theorem Z52 {n:Zj} {ln:LI} {L:Zb} {op num into:Int} {args:LI} (h1:Qv args (WI n L.vars op num args 0) L=none):Ut n ln L op num into args=none:=by
 rw [Ut,DE (all:=args) (args:=args) (i:=0) rfl,h1]
end Go.Abs
namespace Go.Abs
theorem Zbx {n:Zj} (hn:YZ n) (num:Int):(U9 n num).lnt.length<=4194304:=by
 rw [U9,Tm]
 cases h:n.routines[num.toNat]? with
 | none=>simp
 | some r=>exact hn.lent r (YF h)
theorem Z8r {n:Zj} {op num:Int} {k:Nat}:VP n op num k=true↔(op=9/\(k:Int)∈(U9 n num).lnt):=by
 rw [VP,JN,decide_eq_true_iff]
 by_cases h:op=9
 ·rw [Z6 h,U9,Tm]
  cases n.routines[num.toNat]? with
  | none=>simp
  | some r=>simp [h,Xq]
 ·rw [Z4 h];simp [h]
end Go.Abs
namespace Go.Abs
theorem clS {xs:LI} {p:LI->Prop}:Bw fun r h=>∃(vp vl:Value) (ls:LI),r=.tup [ZY xs vp,ZY ls vl]/\h=[.tail vp 1,.tail vl 1]/\p ls:=by
 rintro _ _ ⟨vp,vl,ls,rfl,rfl,_⟩
 refine ⟨.tup fun y hy=>?_,by simp [A4]⟩
 simp only [YA,List.not_mem_nil,or_false] at hy
 rcases hy with rfl|rfl
 ·exact .own (k:=1) (FP _) (by simp)
 ·exact .own (k:=1) (FP _) (by simp)
end Go.Abs
end
section
namespace Go.Abs
section
variable {n:Zj} {ln:LI}
theorem Z53 {L L':Zb} {op num into q:Int} {args:LI} {ds:List Zg} (hk:YK ds L q) (h:Ut n ln L op num into args=some L'):L'.vars=L.vars/\L'.par=L.par/\L'.con=L.con/\L'.fst=L.fst:=by
 rw [Ut] at h
 cases ht:TJ n op num args 0 L with
 | none=>rw [ht] at h;cases h
 | some L1=>
  rw [ht] at h
  obtain ⟨_,h1,h2,h3,h4,_⟩:=ED hk ht
  simp only at h
  split at h
  ·rw [Kb] at h
   split at h
   ·split at h
    ·cases h
    ·cases h;exact ⟨h1,h2,h3,h4⟩
   ·cases h;exact ⟨h1,h2,h3,h4⟩
  ·cases h
theorem Zal {L L1:Zb} {s:Z7} {q:Int} {ds:List Zg} (hk:YK ds L q) (h:Q6 n ln L s.op s.num s.into s.args (TL n ln L s.op s.num s.args s.kids)=some L1):L1.vars=L.vars/\L1.par=L.par/\L1.con=L.con/\L1.fst=L.fst:=by
 rw [Q6] at h
 split at h
 ·obtain ⟨h1,h2,h3,h4,_⟩:=H6 h;exact ⟨h1,h2,h3,h4⟩
 split at h
 ·obtain ⟨_,h1,h2,h3,h4,_⟩:=Qu h;exact ⟨h1,h2,h3,h4⟩
 split at h
 ·obtain ⟨h1,h2,h3,h4,_⟩:=Iq h;exact ⟨h1,h2,h3,h4⟩
 split at h
 ·split at h
  ·cases h
  ·cases hks:s.kids with
   | nil=>rw [hks,TL] at h;cases h
   | cons b bs=>
    rw [hks,TL] at h
    unfold At at h
    cases hb:WQ n ln (Vg n.decls L s.op s.num s.args 0) L.vars.length b with
    | none=>rw [hb] at h;cases h
    | some one=>
     rw [hb] at h
     simp only at h
     split at h
     ·cases h;exact ⟨rfl,rfl,rfl,rfl⟩
     ·cases h
 ·exact Z53 hk h
theorem Sd (hn:YZ n) {s:Z7} {L L':Zb} {q:Int} {am:List YM} (hk:YK n.decls L q) (hq:0<=q) (hty:0<=ZT n L.vars s) (h:T2 n ln L s=some L') (ha:WD n.decls L am):WD n.decls L' am:=by
 rw [Lk] at h
 cases hp:Q6 n ln L s.op s.num s.into s.args (TL n ln L s.op s.num s.args s.kids) with
 | none=>rw [hp] at h;cases h
 | some L1=>
  rw [hp] at h
  obtain ⟨h1,h2,h3,h4⟩:=Zal hk hp
  have hk1:=(Ay hn hk hq (Bh hty) hp).1
  have ha1:WD n.decls L1 am:=ha.same (by rw [h1]) h2 h3 h4
  rw [K7] at h
  split at h
  ·cases h;exact ha1.grow hk1.len
  ·cases h;exact ha1
theorem FG (hn:YZ n) {am:List YM}:∀{xs:List Z7} {L L':Zb} {q:Int} {vs:LI},YK n.decls L q->0<=q->WD n.decls L am->Xu n xs L.vars=some vs->V5 n ln L xs=some L' ->
  YK n.decls L' (q+4*Y9 xs)/\L'.vars=vs/\WD n.decls L' am
 | [],L,L',q,vs,hk,hq,ha,ht,h=>by
  rw [V5] at h;rw [Xu] at ht;cases h;cases ht
  exact ⟨by simpa [Y9] using hk,rfl,ha⟩
 | s::r,L,L',q,vs,hk,hq,ha,ht,h=>by
  rw [V5] at h
  cases hs:T2 n ln L s with
  | none=>rw [hs] at h;cases h
  | some L1=>
   rw [hs] at h
   obtain ⟨g1,g2⟩:=Cg ht
   obtain ⟨k1,k2⟩:=Ll hn hk hq g1 hs
   have:=FG hn (xs:=r) k1 (by have:=s.sz_pos;omega) (Sd hn hk hq g1 hs ha) (by rw [k2];exact g2) h
   refine ⟨?_,this.2⟩
   rw [show q+4*Y9 (s::r)=q+4*s.sz+4*Y9 r by rw [Y9];omega]
   exact this.1
end
end Go.Abs
namespace Go.Abs
def AR (n:Zj):Prop:=∀r∈n.routines,∀i:Nat,(i:Int)∈r.lent->∃t,r.params[i]? = some t/\t≠0
theorem P0 {ps:LI}:∀{ls:LI} {prev:Option Int},Q4 ps ls prev=true->∀v∈ls,(0<=v/\v<=(ps.length:Int)-1)/\ps[v.toNat]?≠some 0
 | [],_,_,v,h=>by cases h
 | x::r,prev,h,v,hv=>by
  rw [Q4] at h
  split at h
  ·rename_i q
   rcases YA.1 hv with rfl|hv
   ·exact ⟨q.1,q.2.1⟩
   ·exact P0 h v hv
  ·cases h
theorem P4:∀{rs:List Yy},TN rs=true->∀r∈rs,Kq r.params r.lent=true
 | [],_,r,h=>by cases h
 | x::rs,h,r,hr=>by
  rw [TN] at h
  split at h
  ·rcases YA.1 hr with rfl|hr
   ·assumption
   ·exact P4 h r hr
  ·cases h
theorem Z9k {n:Zj} (h:Va n=true):AR n:=by
 simp only [Va,Qx,Xv,decide_eq_true_eq] at h
 obtain ⟨_,_,h6⟩:=h
 intro r hr i hi
 obtain ⟨h1,h2⟩:=P0 (P4 h6 r hr) i hi
 obtain ⟨t,ht⟩:=QM (xs:=r.params) (j:=i) om
 refine ⟨t,ht,fun q=>h2 ?_⟩
 rw [Qy,ht,q]
theorem FM {us:LI}:∀{args tys:LI} {i:Nat} {a t:Int},UN us args tys=true->args[i]? = some a->tys[i]? = some t->YN us a=some t
 | [],_,i,a,t,_,h,_=>by simp at h
 | x::r,[],i,a,t,_,_,h=>by simp at h
 | x::r,y::ys,i,a,t,h,ha,ht=>by
  rw [UN] at h
  split at h
  ·rename_i hq
   cases i with
   | zero=>simp at ha ht;subst ha;subst ht;exact hq
   | succ i=>exact FM h (by simpa using ha) (by simpa using ht)
  ·cases h
theorem Z8v {n:Zj} (hl:AR n) {us:LI} {s:Z7} (h:0<=ZT n us s):∀(i:Nat) (a:Int),s.args[i]? = some a->VP n s.op s.num i=true->gI us a≠0:=by
 intro i a ha hla
 rw [VP,JN,decide_eq_true_iff] at hla
 by_cases h9:s.op=9
 ·rw [Z6 h9] at hla
  have hn:=(Bh h).num h9
  obtain ⟨r,hr⟩:=QM (xs:=n.routines) (j:=s.num.toNat) om
  rw [hr] at hla
  obtain ⟨t,ht,h0⟩:=hl r (YF hr) i hla
  rw [KV] at h
  split at h
  ·omega
  rw [Z4 om,Z4 om,Z4 om,Z4 om,Z4 om,Z4 om,Z6 (.inl h9),Uz,TC om hr] at h
  simp only [QQ] at h
  rw [Z6 h9] at h
  split at h
  ·rename_i hty
   rw [XD] at hty
   have hq:YN us a=some t:=by
    first
    | exact FM hty ha ht
    | exact FM (Bool.and_eq_true_iff.1 hty).2 ha ht
    | exact FM (Bool.and_eq_true_iff.1 hty).1 ha ht
   rw [Vt (K3 hq).2];exact h0
  ·omega
 ·rw [Z4 h9] at hla;cases hla
end Go.Abs
namespace Go.Abs
theorem Zbq {n:Zj} {us:LI} {s:Z7} (h:∀t∈us,0<=t) (h0:0<=ZT n us s):∀t∈KR n us s,0<=t:=by
 rw [KR];split
 ·exact Dd h fun t ht=>by rw [YL.1 ht];exact h0
 ·exact h
end Go.Abs
namespace Go.Abs
theorem GQ {c:Bool} {ok:Int->Prop}:Bw fun r h=>∃t:Int,r=.tup [.i t,.b c]/\h=[]/\ok t:=by
 rintro _ _ ⟨t,rfl,rfl,_⟩
 refine ⟨.tup fun y hy=>?_,by simp⟩
 simp only [YA,List.not_mem_nil,or_false] at hy
 rcases hy with rfl|rfl<;>exact .val
section
variable {n:Zj} {ln:LI} {L:Zb} {s:Z7}
theorem Z4u {op t:Int} {r:Option Zb} (h:¬XA op=true):K7 L op t r=r:=by
 cases r with
 | none=>rfl
 | some X=>exact Z4 h
theorem Sf {x:Int} (hc:YT s.op=true) (hx:gI s.args 0=x):T2 n ln L s=Qj n ln L s.op x:=by
 have hop:14<=s.op/\s.op<=17:=by simpa [YT] using hc
 have hd:¬XA s.op=true:=by rw [XA];simp;omega
 rw [Uk,Z4u hd,Qj]
 by_cases h14:s.op=14
 ·rw [Z6 h14];exact Iu h14 hx
 rw [Z4 h14]
 by_cases h15:s.op=15
 ·rw [Z6 h15];exact Iv h15 hx
 rw [Z4 h15]
 exact Iw om hx
theorem Lm {L1:Zb} {t:Int} (hP:Q7 n ln L s=some L1) (h0:0<=ZT n L.vars s) (hnc:¬YT s.op=true) (ht:t=ZT n L.vars s):T2 n ln L s=some (L1.grow t (min t 1) (-1)):=by
 have hd:XA s.op=true:=by rw [H4 h0];simpa using hnc
 rw [Uk,hP]
 show (if XA s.op=true then _ else _)=_
 rw [Z6 hd,ht,show (if ZT n L.vars s≠0 then (1:Int) else 0)=min (ZT n L.vars s) 1 by split<;>omega]
theorem Sh (hP:Q7 n ln L s=none):T2 n ln L s=none:=by rw [Uk,hP];rfl
theorem Ix (h1:¬YT s.op=true) (h2:¬(s.op=7∨s.op=8)):Q7 n ln L s=Ut n ln L s.op s.num s.into s.args:=by
 have hop:¬(14<=s.op/\s.op<=17):=by simpa [YT] using h1
 rw [Q7,Q6,Z4 om,Z4 om,Z4 om,Z4 h2]
theorem Zak (h1:¬YT s.op=true) (h2:¬(s.op=7∨s.op=8)) (h3:¬Qk s.op=true) (h0:0<=ZT n L.vars s):Q7 n ln L s=some L:=by
 rw [Ix h1 h2,Ut,DE (all:=s.args) (args:=s.args) (i:=0) rfl,Iz h3]
 show (if Ka n s.op s.num ln L s.args 0=true then Kb L s.into s.args.length else none)=some L
 rw [Z6 ((EC (all:=s.args) (args:=s.args) (i:=0) rfl).2 fun j x _ _ hl=>absurd hl (P3 h3 j)),Kb]
 have hi:¬0<s.into:=by
  intro hi
  rw [KV] at h0
  split at h0
  ·omega
  ·rename_i hq
   have hv:Vq L.vars s.op s.into=true:=Ww.1 fun z=>hq (.inr (.inl z))
   rw [Vq,Z4 om] at hv
   split at hv
   ·rename_i h6;exact h3 (by rw [h6];rfl)
   ·cases hv
 rw [Z4 hi]
end
end Go.Abs
namespace Go.Abs
def T5 (L:Zb) (am:List YM) (s:Z7) (m:LI):List YM:=if s.op=8 then am++[⟨gI s.args 0,(L.vars.length:Nat),m,false⟩] else am
def Km (n:Zj) (L:Zb) (s:Z7) (k:Nat):Zb:=if s.op=8 then { L with con:=L.con.set (gI s.args 0).toNat (gI (YB n.decls s.num) k),fst:=L.fst.set (gI s.args 0).toNat L.vars.length } else L
theorem AH {n:Zj} {L:Zb} {s:Z7} {k:Nat}:(Km n L s k).vars=L.vars:=by rw [Km];split<;>rfl
theorem Ce {n:Zj} {L:Zb} {s:Z7} {k:Nat}:(Km n L s k).own=L.own:=by rw [Km];split<;>rfl
theorem Cf {n:Zj} {L:Zb} {s:Z7} {k:Nat}:(Km n L s k).tok=L.tok:=by rw [Km];split<;>rfl
theorem Sc {n:Zj} {L:Zb} {s:Z7} {k:Nat} (h:Wc L):Wc (Km n L s k):=by rw [Km];split;exact h.arm;exact h
theorem Sb {n:Zj} {L:Zb} {s:Z7} {k:Nat} {m:LI} (hop:s.op=7∨s.op=8) (hm:(YJ n.decls s.op s.num)[k]? = some m):K8 (Km n L s k) (gI s.args 0) m=Vg n.decls L s.op s.num s.args k:=by
 rw [Km,Vg]
 by_cases h8:s.op=8
 ·rw [Z6 h8,Z6 h8]
  obtain ⟨c,hc,rfl⟩:=Gt h8 hm
  have hgc:gI (YB n.decls s.num) (k:Int)=c:=by rw [gI];simp [hc]
  rw [J3,hgc]
 ·rw [Z4 h8,Z4 h8]
  rw [YJ,Z6 om] at hm
  have:m=[]:=by
   match k,hm with
   | 0,hm=>simpa using hm.symm
   | 1,hm=>simpa using hm.symm
   | k+2,hm=>simp at hm
  rw [this];rfl
theorem Mp {n:Zj} {L:Zb} {am:List YM} {s:Z7} {k:Nat} {m:LI} (hn:YZ n) (ha:WD n.decls L am) (hl:Wc L) (hop:s.op=7∨s.op=8) (hx:0<=gI s.args 0/\gI s.args 0<L.vars.length) (hm:(YJ n.decls s.op s.num)[k]? = some m) :
  WD n.decls (Vg n.decls L s.op s.num s.args k) (T5 L am s m):=by
 rw [T5,Vg]
 by_cases h8:s.op=8
 ·rw [Z6 h8,Z6 h8]
  obtain ⟨c,hc,rfl⟩:=Gt h8 hm
  have hgc:gI (YB n.decls s.num) (k:Int)=c:=by rw [gI];simp [hc]
  rw [hgc]
  exact ha.arm hl hx (N5 hn.decls hc).1
 ·rw [Z4 h8,Z4 h8];exact ha
end Go.Abs
namespace Go.Abs
theorem FF {n:Zj}:∀{xs:List Z7} {us vs:LI},Xu n xs us=some vs->us.length<=vs.length/\vs.length<=us.length+Y9 xs
 | [],us,vs,h=>by rw [Xu] at h;cases h;simp [Y9]
 | s::r,us,vs,h=>by
  obtain ⟨_,g2⟩:=Cg h
  have:=FF g2
  have h2:=Cd n us s
  rw [Y9];omega
theorem Mo {L:Zb} {am:List YM} {s:Z7} {m:LI}:(T5 L am s m).length<=am.length+1:=by rw [T5];split<;>simp
theorem Mq {n:Zj} (hty:QC n) {op num:Int} {k:Nat} {m:LI} (h:(YJ n.decls op num)[k]? = some m):∀f∈m,0<=f:=by
 by_cases h7:op=7
 ·rw [YJ,Z6 h7] at h
  have:m=[]:=by
   match k,h with
   | 0,h=>simpa using h.symm
   | 1,h=>simpa using h.symm
   | k+2,h=>simp at h
  rw [this];intro f hf;cases hf
 ·rw [YJ,Z4 h7,Tm] at h
  cases hc:(YB n.decls num)[k]? with
  | none=>rw [hc] at h;cases h
  | some c=>rw [hc] at h;cases h;exact hty.fields c
theorem Et {L:Zb} {r:Int}:(XJ L r).own.length=L.own.length/\(XJ L r).tok.length=L.tok.length/\(XJ L r).vars=L.vars:=by
 rw [XJ];split
 ·exact ⟨QA,rfl,rfl⟩
 ·exact ⟨rfl,rfl,rfl⟩
end Go.Abs
namespace Go.Abs
theorem FJ {L M:Zb} {n:Zj} {ln:LI} {xs:List Z7} {f:Zb->Option Zb} (h:V5 n ln L xs=some M):Ci (V5 n ln L xs) f=f M:=by rw [h];rfl
end Go.Abs
end
section
namespace Go.Abs
theorem SS:∀{os ts:LI} {m:Nat},os.length=ts.length->(WJ os ts=true↔WJ (os.take m) (ts.take m)=true/\WJ (os.drop m) (ts.drop m)=true)
 | [],[],m,_=>by simp [WJ]
 | [],_::_,_,h=>by simp at h
 | _::_,[],_,h=>by simp at h
 | o::os,t::ts,0,h=>by simp [WJ]
 | o::os,t::ts,m+1,h=>by
  simp only [DP,List.drop_succ_cons]
  rw [WJ,WJ]
  split
  ·simp
  ·exact SS (by simpa using h)
theorem Ra {n:Zj} {r:Yy} {M:Zb} (hP:V5 n r.lent (Uw r) r.body.steps=some M) (hl:M.own.length=M.tok.length):Qh n r=(VM 0 r.body.result M).isSome:=by
 rw [Qh,KA,hP]
 show (match VM r.params.length r.body.result M with|none=>false|some L=>(Ud L 0).isSome)=_
 rw [VM,VM]
 cases hT:(if gI M.vars r.body.result≠0 then Ul M r.body.result else some M) with
 | none=>rfl
 | some M2=>
  have h2:M2.own.length=M2.tok.length:=by
   split at hT
   ·have:=Qu hT;rw [this.2.2.2.2.2.1,this.2.2.2.2.2.2,QA];exact hl
   ·cases hT;exact hl
  show (match Ud M2 r.params.length with|none=>false|some L=>(Ud L 0).isSome)=(Ud M2 0).isSome
  have key:=SS (m:=r.params.length) h2
  rw [Ud,Ud]
  by_cases h1:WJ (M2.own.drop r.params.length) (M2.tok.drop r.params.length)=true
  ·rw [Z6 h1]
   show (Ud (M2.take r.params.length) 0).isSome=_
   rw [Ud]
   by_cases h3:WJ (M2.own.take r.params.length) (M2.tok.take r.params.length)=true
   ·rw [Z6 (show WJ ((M2.take r.params.length).own.drop 0) ((M2.take r.params.length).tok.drop 0)=true from h3),Z6 (show WJ (M2.own.drop 0) (M2.tok.drop 0)=true from key.2 ⟨h3,h1⟩)];rfl
   ·rw [Z4 (show ¬WJ ((M2.take r.params.length).own.drop 0) ((M2.take r.params.length).tok.drop 0)=true from h3),Z4 (show ¬WJ (M2.own.drop 0) (M2.tok.drop 0)=true from fun z=>h3 (key.1 z).1)]
  ·rw [Z4 h1,Z4 (show ¬WJ (M2.own.drop 0) (M2.tok.drop 0)=true from fun z=>h1 (key.1 z).2)];rfl
theorem Zaz {n:Zj} {r:Yy} (hP:V5 n r.lent (Uw r) r.body.steps=none):Qh n r=false:=by rw [Qh,KA,hP];rfl
end Go.Abs
namespace Go.Abs
theorem IR {xs:LI} {k:Nat} {a b:Int} (h:xs.length=k):(xs++[a]).set k b=xs++[b]:=by subst h;simp
end Go.Abs
namespace Go.Abs
theorem Z0x {ds:List Zg}:WD ds ⟨[],[],[],[],[],[]⟩ []:=⟨fun a ha=>(nomatch ha),fun a ha=>(nomatch ha),fun v h0 h1=>(by have h2:v<((0:Nat):Int):=h1;omega),fun v h0 h1=>(by have h2:v<((0:Nat):Int):=h1;omega)⟩
theorem PS {ds:List Zg} {lent:LI}:∀{ps:LI} {i:Nat} {L:Zb},Wc L->WD ds L []->WD ds (Qr lent ps i L) []
 | [],_,_,_,h=>h
 | t::r,i,L,hl,h=>by rw [Qr];exact PS hl.grow (h.grow hl)
theorem Pk {ds:List Zg} (rt:Yy):WD ds (Uw rt) []:=PS ⟨rfl,rfl,rfl,rfl,rfl⟩ Z0x
end Go.Abs
end
section
namespace Go.Abs
def Y7 (c:Nat) (left:Int):Int:=if left<c then -1 else left-c
theorem Dx {a b:Nat} {left:Int} (h:0<=Y7 a left):Y7 b (Y7 a left)=Y7 (a+b) left:=by
 rw [Y7] at h ⊢
 unfold Y7 at *
 split at h
 ·omega
 ·rename_i q;rw [Z4 q];split<;>split<;>omega
theorem DB {a b:Nat} {left:Int} (h:Y7 a left<0):Y7 (a+b) left=-1:=by
 unfold Y7 at *
 split at h
 ·rw [Z6 om]
 ·omega
theorem Zea {left:Int} (h:0<=left):Y7 0 left=left:=by unfold Y7;rw [Z4 om];omega
theorem JX {c:Nat} {left:Int} (h:0<=left):-1<=Y7 c left/\Y7 c left<=left:=by unfold Y7;split<;>omega
def T7 (c:Xs):Nat:=c.fields.length
def Tq:List Xs->Nat
 | []=>0
 | c::r=>T7 c+Tq r
def Uq (l:List Xs):Nat:=l.length+Tq l
def U5 (d:Zg):Nat:=Uq d.cons
def Q1:List Zg->Nat
 | []=>0
 | d::r=>U5 d+Q1 r
def VA (l:List Zg):Nat:=l.length+Q1 l
end Go.Abs
namespace Go.Abs
theorem DC {a b c:Nat} {left lf:Int} {r:Int} (hs:c=a+b) (h:¬Y7 a lf<0) (hr:Y7 c lf=r):Y7 b (Y7 a lf)=r:=by
 rw [Dx om,<-hs];exact hr
theorem Dy {a b c:Nat} {lf r:Int} (hs:c=a+b) (h:Y7 a lf<0) (hr:Y7 c lf=r):-1=r:=by rw [hs,DB h] at hr;exact hr
theorem Dz {c:Nat} {lf r:Int} (hc:c=0) (h0:0<=lf) (hr:Y7 c lf=r):lf=r:=by rw [hc,Zea h0] at hr;exact hr
theorem DA {n s:Nat} {left:Int} (h:¬left-(n:Int)<0):Y7 s (left-(n:Int))=Y7 (n+s) left:=by
 have:Y7 n left=left-n:=by unfold Y7;rw [Z4 om]
 rw [<-this,Dx (by rw [this];omega)]
theorem DD {n s:Nat} {left:Int} (h:left-(n:Int)<0):-1=Y7 (n+s) left:=by unfold Y7;rw [Z6 om]
theorem N7 {cs:List Xs} {k:Nat} {c:Xs} (h:cs[k]? = some c):Tq (cs.drop k)=T7 c+Tq (cs.drop (k+1)):=by rw [ZH h,Tq]
theorem Z2t {cs:List Xs} {k:Nat} (h:cs.length<=k):Tq (cs.drop k)=0:=by rw [YV h,Tq]
theorem Ec {cs:List Xs} {k:Nat} {c:Xs} (h:cs[k]? = some c):T7 c<=Tq cs:=by
 induction cs generalizing k with
 | nil=>simp at h
 | cons d r ih=>
  cases k with
  | zero=>simp at h;subst h;rw [Tq];omega
  | succ k=>have:=ih (k:=k) (by simpa using h);rw [Tq];omega
theorem Ng {cs:List Zg} {k:Nat} {c:Zg} (h:cs[k]? = some c):Q1 (cs.drop k)=U5 c+Q1 (cs.drop (k+1)):=by rw [ZH h,Q1]
theorem Z3i {cs:List Zg} {k:Nat} (h:cs.length<=k):Q1 (cs.drop k)=0:=by rw [YV h,Q1]
theorem Ek {cs:List Zg} {k:Nat} {c:Zg} (h:cs[k]? = some c):U5 c<=Q1 cs:=by
 induction cs generalizing k with
 | nil=>simp at h
 | cons d r ih=>
  cases k with
  | zero=>simp at h;subst h;rw [Q1];omega
  | succ k=>have:=ih (k:=k) (by simpa using h);rw [Q1];omega
end Go.Abs
namespace Go.Abs
mutual
def Z7.cst:Z7->Nat
 | .mk _ _ _ args kids=>args.length+(kids.length+UG kids)
def Zf.cst:Zf->Nat
 | .mk steps _=>steps.length+UL steps
def UL:List Z7->Nat
 | []=>0
 | s::r=>s.cst+UL r
def UG:List Zf->Nat
 | []=>0
 | b::r=>b.cst+UG r
end
theorem Z7.cst_eq (s:Z7):s.cst=s.args.length+(s.kids.length+UG s.kids):=by cases s;rw [Z7.cst];rfl
theorem Zf.cst_eq (b:Zf):b.cst=b.steps.length+UL b.steps:=by cases b;rw [Zf.cst];rfl
def U3 (l:List Zf):Nat:=l.length+UG l
def UA (l:List Z7):Nat:=l.length+UL l
theorem Mw {cs:List Zf} {k:Nat} {c:Zf} (h:cs[k]? = some c):UG (cs.drop k)=c.cst+UG (cs.drop (k+1)):=by rw [ZH h,UG]
theorem Z1h {cs:List Zf} {k:Nat} (h:cs.length<=k):UG (cs.drop k)=0:=by rw [YV h,UG]
theorem Rs {cs:List Z7} {k:Nat} {c:Z7} (h:cs[k]? = some c):UL (cs.drop k)=c.cst+UL (cs.drop (k+1)):=by rw [ZH h,UL]
theorem Zbr {cs:List Z7} {k:Nat} (h:cs.length<=k):UL (cs.drop k)=0:=by rw [YV h,UL]
theorem Gw {cs:List Zf} {k:Nat} {c:Zf} (h:cs[k]? = some c):c.cst<=UG cs:=by
 induction cs generalizing k with
 | nil=>simp at h
 | cons d r ih=>
  cases k with
  | zero=>simp at h;subst h;rw [UG];omega
  | succ k=>have:=ih (k:=k) (by simpa using h);rw [UG];omega
theorem IQ {cs:List Z7} {k:Nat} {c:Z7} (h:cs[k]? = some c):c.cst<=UL cs:=by
 induction cs generalizing k with
 | nil=>simp at h
 | cons d r ih=>
  cases k with
  | zero=>simp at h;subst h;rw [UL];omega
  | succ k=>have:=ih (k:=k) (by simpa using h);rw [UL];omega
end Go.Abs
namespace Go.Abs
def VF (r:Yy):Nat:=r.params.length+(r.lent.length+r.body.cst)
def Td:List Yy->Nat
 | []=>0
 | r::rs=>VF r+Td rs
def VY (l:List Yy):Nat:=l.length+Td l
def Wo (n:Zj):Nat:=VA n.decls+VY n.routines
theorem Rj {cs:List Yy} {k:Nat} {c:Yy} (h:cs[k]? = some c):Td (cs.drop k)=VF c+Td (cs.drop (k+1)):=by rw [ZH h,Td]
theorem Zbh {cs:List Yy} {k:Nat} (h:cs.length<=k):Td (cs.drop k)=0:=by rw [YV h,Td]
theorem Fp {cs:List Yy} {k:Nat} {c:Yy} (h:cs[k]? = some c):VF c<=Td cs:=by
 induction cs generalizing k with
 | nil=>simp at h
 | cons d r ih=>
  cases k with
  | zero=>simp at h;subst h;rw [Td];omega
  | succ k=>have:=ih (k:=k) (by simpa using h);rw [Td];omega
theorem Lp {a b:Nat} {left:Int} (h:¬Y7 a left<0):Y7 b (Y7 a left)=Y7 (a+b) left:=Dx om
theorem St {c:Nat} {left:Int} (h:Y7 c left<0):-1=Y7 c left:=by unfold Y7 at *;split at h<;>first|rfl|omega
end Go.Abs
end
namespace Go.Abs
def XZ (op v:Int):Z7:=.mk op 0 0 [v] []
section
variable {ds:List Zg} {am:List YM} {m:Nat}
end
theorem Hm (xs ys:List ZX):WF (xs++ys)=WF xs++WF ys:=by simp [CQ]
theorem Z4o (xs ys:List ZV):TG (xs++ys)=TG xs++TG ys:=by simp [Ev]
theorem Hn (x:ZX):WF [x]=[x.er]:=by simp [CQ]
theorem Z4p (x:ZV):TG [x]=[x.er]:=by simp [Ev]
theorem NF (op v:Int) (u kv:Value):(ZX.mk op 0 0 [v] u [] kv).er=XZ op v:=by rw [ZX.er,TG];rfl
theorem S6 {xs:List Z7} {k:Nat} {s:Z7} (h:xs[k]? = some s):Y9 (xs.take (k+1))=Y9 (xs.take k)+s.sz:=by
 induction xs generalizing k with
 | nil=>simp at h
 | cons t r ih=>
  cases k with
  | zero=>simp at h;subst h;simp [Y9]
  | succ k=>rw [DP,DP,Y9,Y9,ih (by simpa using h)];omega
theorem S7 (xs:List Z7) (k:Nat):Y9 (xs.take k)<=Y9 xs:=by
 induction xs generalizing k with
 | nil=>simp
 | cons t r ih=>
  cases k with
  | zero=>simp [Y9]
  | succ k=>have:=ih k;rw [DP,Y9,Y9];omega
theorem ON {n:Zj} {us:LI} {s:Z7} (g:0<=ZT n us s) (h:0<s.kids.length):s.op=7∨s.op=8:=by
 rw [KV] at g
 split at g
 ·omega
 ·rename_i q
  exact DK fun z=>q (.inr (.inr ⟨h,fun e=>z (.inl e),fun e=>z (.inr e)⟩))
theorem JD (ys:List YP):(Zu (XV ys)).length=ys.length*3:=by rw [Ti _ (Hc _)];simp
theorem Hq (ys:List X3):(Zu (Ws ys)).length=ys.length:=by rw [Ti _ (Hb _)];simp
theorem NP (ys:List Zg):(Zu (X4 ys)).length=ys.length*3:=by rw [Ti _ (BK _)];simp
theorem Z4x (ys:List Xs):(Zu (Wd ys)).length=ys.length:=by rw [Ti _ (Em _)];simp
theorem Z4y {ds:List Zg} {k:Nat} {d:Zg} (h:ds[k]? = some d):Zu (X4 (ds.drop k))=Uh d++Zu (X4 (ds.drop (k+1))):=by rw [ZH h];rfl
theorem Z4w {ds:List Xs} {k:Nat} {d:Xs} (h:ds[k]? = some d):Zu (Wd (ds.drop k))=KP d++Zu (Wd (ds.drop (k+1))):=by rw [ZH h];rfl
theorem Re {ys:List YP} {ds:List Zg} {k:Nat} {d:Zg} (h:ds[k]? = some d):Zu (XV ys++X4 (ds.drop k))=Zu (XV ys)++(Uh d++Zu (X4 (ds.drop (k+1)))):=by
 rw [Qn,Z4y h]
theorem Zb3 {ys:List X3} {ds:List Xs} {k:Nat} {d:Xs} (h:ds[k]? = some d):Zu (Ws ys++Wd (ds.drop k))=Zu (Ws ys)++(KP d++Zu (Wd (ds.drop (k+1)))):=by
 rw [Qn,Z4w h]
theorem Rd {ys:List YP} {ds:List Zg} {k:Nat} (h:ys.length=k) (hk:k<=ds.length):(Zu (XV ys++X4 (ds.drop k))).length=ds.length*3:=by
 rw [Qn,YE,JD,NP,LG];omega
theorem Rc {ys:List X3} {ds:List Xs} {k:Nat} (h:ys.length=k) (hk:k<=ds.length):(Zu (Ws ys++Wd (ds.drop k))).length=ds.length*1:=by
 rw [Qn,YE,Hq,Z4x,LG];omega
theorem Zb5 {ys:List YP} {ds:List Zg} {k:Nat} {f t:Int} {zs:List X3} {u:Value}:Zu (XV ys)++([.i f,.i t,JR zs u]++Zu (X4 (ds.drop (k+1))))=Zu (XV (ys++[YP.mk f t zs u])++X4 (ds.drop (k+1))):=by
 rw [Np,Qn,Qn,U1];rfl
theorem Zb2 {ys:List X3} {ds:List Xs} {k:Nat} {xs:LI} {u:Value}:Zu (Ws ys)++([ZY xs u]++Zu (Wd (ds.drop (k+1))))=Zu (Ws (ys++[X3.mk xs u])++Wd (ds.drop (k+1))):=by
 rw [Nn,Qn,Qn,U1];rfl
theorem Zb4 {ys:List YP} {ds:List Zg} {k:Nat} (h:ds.length<=k):Zu (XV ys++X4 (ds.drop k))=Zu (XV ys):=by rw [YV h];simp [X4]
theorem Zb1 {ys:List X3} {ds:List Xs} {k:Nat} (h:ds.length<=k):Zu (Ws ys++Wd (ds.drop k))=Zu (Ws ys):=by rw [YV h];simp [Wd]
theorem Zbc {A B:List AV} {x y z x':AV} {o:Nat} (hA:A.length=o):(A++([x,y,z]++B)).take (o+2)++[x']++(A++([x,y,z]++B)).drop (o+2+1)=A++([x,y,x']++B):=by
 have h:=AA (A:=A++[x,y]) (xs:=[z]) (ys:=[x']) (B:=B) (o:=o+2) (by simp [hA]) rfl
 simpa using h
theorem Zbd {A B:List AV} {x y z:AV} {o:Nat} (hA:A.length=o):((A++([x,y,z]++B)).drop (o+2)).take 1=[z]:=by
 have h:=Rf (A:=A++[x,y]) (xs:=[z]) (B:=B) (o:=o+2) (by simp [hA])
 simpa using h
theorem Zbe {A B:List AV} {x y z x':AV} {o:Nat} (hA:A.length=o):(A++([x,y,z]++B)).set (o+2) x'=A++([x,y,x']++B):=by
 subst hA
 rw [List.set_append_right _ _ om]
 simp
theorem SW {f t:Int} {zs:List X3} {u:Value} {cs:List Xs} (h:zs.map X3.er=cs):[YP.mk f t zs u].map YP.er=[Zg.mk f t cs]:=by
 rw [<-h];rfl
theorem ZV.eta (y:ZV):ZV.mk y.steps y.sv y.result=y:=by cases y;rfl
theorem Z94 {xs:List YQ} {rs:List Yy} {g:Yy->Yy} {k:Nat} {r:Yy} {R:YQ} (h:xs.map YQ.er=(rs.take k).map g) (hr:rs[k]? = some r) (hy:R.er=g r) :
  (xs++[R]).map YQ.er=(rs.take (k+1)).map g:=by
 rw [List.map_append,h,WU hr,List.map_append,WC,hy];rfl
section
variable {ds:List Zg} (hd:Wk ds)
include hd
end
def Ff:Zj:=⟨[],[]⟩
theorem BB {n:Zj} (hz:WM n) (h:U2 n=true):YZ n/\Va n=true/\∀r∈n.routines,0<=Yv n r.params r.body:=by
 rw [U2,Xv] at h
 obtain ⟨h1,h2⟩:=DG hz h.1
 rw [XX,Xv] at h
 exact ⟨h1,h.1.1,h2⟩
section
variable {ds:List Zg} {cons first:LI}
end
section
variable {ds:List Zg} (hd:Wk ds)
include hd
end
section
variable {n:Zj} {ln:LI} {L:Zb}
end
structure CR (L:Zb) (cons first:LI):Prop where
 cl:cons.length=L.vars.length
 fl:first.length=L.vars.length
 eq:∀v:Int,0<=v->v<L.vars.length->0<=gI L.con v->gI cons v=gI L.con v/\gI first v=gI L.fst v
theorem C9 {A:List AV} {zs:List AV} {a n k q:Nat} (hA:A.length=k*q) (hk:k<=n) (hz:zs.length=q):(A++(List.replicate (n-k) zs).flatten).length=n*q:=by
 have h1:n*q=k*q+(n-k)*q:=by rw [<-QB];congr 1;omega
 simp only [YE,List.length_flatten,List.map_replicate,List.sum_replicate_nat,hA,hz]
 omega
theorem Ca {A:List AV} {zs:List AV} {n k:Nat} (hk:k<n):A++(List.replicate (n-k) zs).flatten=A++(zs++(List.replicate (n-(k+1)) zs).flatten):=by
 rw [show n-k=(n-(k+1))+1 by omega,Bt,List.flatten_cons]
theorem C8 {A:List AV} {zs:List AV} {n k:Nat} (hk:n<=k):A++(List.replicate (n-k) zs).flatten=A:=by
 rw [show n-k=0 by omega];simp
theorem NU (ys:LI):(Zu (Zk ys)).length=ys.length*1:=by rw [Ti _ (Wv _)];simp
theorem NT (ys:List ZX):(Zu (WE ys)).length=ys.length*5:=by rw [Ti _ (CK _)];simp
theorem NQ (ys:List ZV):(Zu (V7 ys)).length=ys.length*2:=by rw [Ti _ (Ha _)];simp
theorem NS (ys:List YQ):(Zu (V8 ys)).length=ys.length*5:=by rw [Ti _ (Eo _)];simp
theorem NR (ys:List X3):(Zu (Ws ys)).length=ys.length*1:=by rw [Hq];omega
theorem Zbb {xs:LI} {k:Nat} {x:Int} {B:List AV} (h:xs[k]? = some x):Zu (Zk (xs.take k))++([AV.i x]++B)=Zu (Zk (xs.take (k+1)))++B:=by
 rw [WU h,Q2,Qn,U1];rfl
theorem Zb7 {ys:List X3} {y:X3} {B:List AV}:Zu (Ws ys)++(Ao y++B)=Zu (Ws (ys++[y]))++B:=by rw [Nn,Qn,U1];rfl
theorem Zb8 {ys:List YP} {y:YP} {B:List AV}:Zu (XV ys)++(Ap y++B)=Zu (XV (ys++[y]))++B:=by rw [Np,Qn,U1];rfl
theorem Zb9 {ys:List YQ} {y:YQ} {B:List AV}:Zu (V8 ys)++(Aq y++B)=Zu (V8 (ys++[y]))++B:=by rw [Nq,Qn,U1];rfl
theorem Zba {ys:List ZX} {y:ZX} {B:List AV}:Zu (WE ys)++(Ar y++B)=Zu (WE (ys++[y]))++B:=by
 rw [Er,Qn,U1,Ah [y]];rfl
theorem Zb6 {ys:List ZV} {y:ZV} {B:List AV}:Zu (V7 ys)++(JL y++B)=Zu (V7 (ys++[y]))++B:=by
 rw [Nm,Qn,U1,BM [y]];rfl
theorem Da {α β:Type} {f:α->β} {ys:List α} {xs:List β} {k:Nat} {x:β} {y:α} (h:ys.map f=xs.take k) (hx:xs[k]? = some x) (hy:f y=x):(ys++[y]).map f=xs.take (k+1):=by
 rw [List.map_append,h,WU hx,<-hy];rfl
theorem M5 (g:Nat):∀(n k:Nat),k<n->ZA g k (n-k)=(g,k)::ZA g (k+1) (n-(k+1)):=by
 intro n k h
 rw [show n-k=(n-(k+1))+1 by omega,ZA]
theorem AU (g:Nat):∀(n o:Nat),(ZA g o n).length=n
 | 0,_=>rfl
 | n+1,o=>by rw [ZA,XI,AU g n]
theorem LY {cs:List X3} {k:Nat} {c:X3} (h:cs[k]? = some c):WW (cs.drop k)=DX c++WW (cs.drop (k+1)):=by rw [ZH h,WW]
theorem M3 {g:Nat} {cs:List YP} {k:Nat} {c:YP} (h:cs[k]? = some c):Wn g (k*3) (cs.drop k)=AT g (k*3) c++Wn g ((k+1)*3) (cs.drop (k+1)):=by
 rw [ZH h,Wn,show k*3+3=(k+1)*3 by omega]
theorem Me {g:Nat} {cs:List ZX} {k:Nat} {c:ZX} (h:cs[k]? = some c):Yi g (k*5) (cs.drop k)=QF g (k*5) c++Yi g ((k+1)*5) (cs.drop (k+1)):=by
 rw [ZH h,Yi,show k*5+5=(k+1)*5 by omega]
theorem LU {g:Nat} {cs:List ZV} {k:Nat} {c:ZV} (h:cs[k]? = some c):Xj g (k*2) (cs.drop k)=QE g (k*2) c++Xj g ((k+1)*2) (cs.drop (k+1)):=by
 rw [ZH h,Xj,show k*2+2=(k+1)*2 by omega]
theorem Mb {g:Nat} {cs:List YQ} {k:Nat} {c:YQ} (h:cs[k]? = some c):WP g (k*5) (cs.drop k)=Jr g (k*5) c++WP g ((k+1)*5) (cs.drop (k+1)):=by
 rw [ZH h,WP,show k*5+5=(k+1)*5 by omega]
section
variable {N:Yo} {g o:Nat} {z:Int}
theorem Zfm {d:YP}:wr N (AT g o d) z=wr (upd (upd N (g,o) z) (g,o+1) (z+1)) (WW d.cons) (z+1+1):=by rw [AT,wr,wr]
theorem Zfp {s:ZX}:wr N (QF g o s) z=wr (wr (upd (upd (upd N (g,o) z) (g,o+1) (z+1)) (g,o+2) (z+1+1)) (ZA (Z3 s.av) 0 s.args.length) (z+1+1+1)) (Xj (Z3 s.kv) 0 s.kids) (z+1+1+1+(ZA (Z3 s.av) 0 s.args.length).length):=by
 rw [Gi,wr,wr,wr,AL]
theorem Zfl {b:ZV}:wr N (QE g o b) z=upd (wr N (Yi (Z3 b.sv) 0 b.steps) z) (g,o+1) (z+(Yi (Z3 b.sv) 0 b.steps).length):=by
 rw [Ga,AL,wr,wr]
theorem Zfo {r:YQ}:wr N (Jr g o r) z=upd (wr (upd (wr (wr N (ZA (Z3 r.pv) 0 r.params.length) z) (ZA (Z3 r.lv) 0 r.lent.length) (z+(ZA (Z3 r.pv) 0 r.params.length).length)) (g,o+2) (z+(ZA (Z3 r.pv) 0 r.params.length).length+(ZA (Z3 r.lv) 0 r.lent.length).length))
  (Yi (Z3 r.body.sv) 0 r.body.steps) (z+(ZA (Z3 r.pv) 0 r.params.length).length+(ZA (Z3 r.lv) 0 r.lent.length).length+1)) (g,o+4) (z+(ZA (Z3 r.pv) 0 r.params.length).length+(ZA (Z3 r.lv) 0 r.lent.length).length+1+(Yi (Z3 r.body.sv) 0 r.body.steps).length):=by
 rw [Jr,AL,AL,wr,AL,wr,wr]
theorem F4 {d:YP}:(AT g o d).length=(WW d.cons).length+2:=by simp [AT]
theorem I2 {s:ZX}:(QF g o s).length=(ZA (Z3 s.av) 0 s.args.length).length+(Xj (Z3 s.kv) 0 s.kids).length+3:=by rw [Gi];simp
theorem I0 {b:ZV}:(QE g o b).length=(Yi (Z3 b.sv) 0 b.steps).length+1:=by rw [Ga];simp
theorem F5 {r:YQ}:(Jr g o r).length=(ZA (Z3 r.pv) 0 r.params.length).length+(ZA (Z3 r.lv) 0 r.lent.length).length+(Yi (Z3 r.body.sv) 0 r.body.steps).length+2:=by rw [Jr];simp;omega
theorem Z5k {d:YP} (h:X9 N (AT g o d) z):N g o=some (.int .i64 z)/\N g (o+1)=some (.int .i64 (z+1))/\X9 N (WW d.cons) (z+1+1):=h
theorem Z5m {s:ZX} (h:X9 N (QF g o s) z):N g o=some (.int .i64 z)/\N g (o+1)=some (.int .i64 (z+1))/\N g (o+2)=some (.int .i64 (z+1+1))/\X9 N (ZA (Z3 s.av) 0 s.args.length) (z+1+1+1) /\
  X9 N (Xj (Z3 s.kv) 0 s.kids) (z+1+1+1+(ZA (Z3 s.av) 0 s.args.length).length):=by
 rw [Gi] at h
 obtain ⟨h1,h2,h3,h4⟩:=h
 obtain ⟨h5,h6⟩:=(Kd _ _ _ _).1 h4
 exact ⟨h1,h2,h3,h5,h6⟩
theorem Z5j {b:ZV} (h:X9 N (QE g o b) z):X9 N (Yi (Z3 b.sv) 0 b.steps) z/\N g (o+1)=some (.int .i64 (z+(Yi (Z3 b.sv) 0 b.steps).length)):=by
 rw [Ga] at h
 obtain ⟨h5,h6⟩:=(Kd _ _ _ _).1 h
 exact ⟨h5,h6.1⟩
theorem Z5l {r:YQ} (h:X9 N (Jr g o r) z):X9 N (ZA (Z3 r.pv) 0 r.params.length) z/\X9 N (ZA (Z3 r.lv) 0 r.lent.length) (z+(ZA (Z3 r.pv) 0 r.params.length).length) /\
  N g (o+2)=some (.int .i64 (z+(ZA (Z3 r.pv) 0 r.params.length).length+(ZA (Z3 r.lv) 0 r.lent.length).length)) /\
  X9 N (Yi (Z3 r.body.sv) 0 r.body.steps) (z+(ZA (Z3 r.pv) 0 r.params.length).length+(ZA (Z3 r.lv) 0 r.lent.length).length+1) /\
  N g (o+4)=some (.int .i64 (z+(ZA (Z3 r.pv) 0 r.params.length).length+(ZA (Z3 r.lv) 0 r.lent.length).length+1+(Yi (Z3 r.body.sv) 0 r.body.steps).length)):=by
 rw [Jr] at h
 obtain ⟨h1,h2⟩:=(Kd _ _ _ _).1 h
 obtain ⟨h3,h4,h5⟩:=(Kd _ _ _ _).1 h2
 obtain ⟨h6,h7⟩:=(Kd _ _ _ _).1 h5
 exact ⟨h1,h3,h4,h6,h7.1⟩
end
theorem O4 {xs:List ZX} {k:Nat} {x:ZX} (h:xs[k]? = some x):SizeOf.sizeOf x.kids<SizeOf.sizeOf xs:=by
 have h1:=List.sizeOf_lt_of_mem (YF h)
 cases x
 simp only [ZX.mk.sizeOf_spec,ZX.kids] at h1 ⊢
 omega
theorem O5 {xs:List ZV} {k:Nat} {x:ZV} (h:xs[k]? = some x):SizeOf.sizeOf x.steps<SizeOf.sizeOf xs:=by
 have h1:=List.sizeOf_lt_of_mem (YF h)
 cases x
 simp only [ZV.mk.sizeOf_spec,ZV.steps] at h1 ⊢
 omega
theorem Gf {g:Nat}:∀{o:Nat} {ds:List YP},ds.length<=(Wn g o ds).length
 | _,[]=>X1 _
 | o,d::r=>by
  have:=Gf (g:=g) (o:=o+3) (ds:=r)
  have h2:=F4 (g:=g) (o:=o) (d:=d)
  rw [Wn,YE,XI]
  omega
theorem Gk {g:Nat}:∀{o:Nat} {xs:List ZX},xs.length<=(Yi g o xs).length
 | _,[]=>TT _
 | o,d::r=>by
  have:=Gk (g:=g) (o:=o+5) (xs:=r)
  have h2:=I2 (g:=g) (o:=o) (s:=d)
  rw [Yi,YE,XI]
  omega
theorem Gc {g:Nat}:∀{o:Nat} {xs:List ZV},xs.length<=(Xj g o xs).length
 | _,[]=>TT _
 | o,d::r=>by
  have:=Gc (g:=g) (o:=o+2) (xs:=r)
  have h2:=I0 (g:=g) (o:=o) (b:=d)
  rw [Xj,YE,XI]
  omega
theorem Gh {g:Nat}:∀{o:Nat} {xs:List YQ},xs.length<=(WP g o xs).length
 | _,[]=>X1 _
 | o,d::r=>by
  have:=Gh (g:=g) (o:=o+5) (xs:=r)
  have h2:=F5 (g:=g) (o:=o) (r:=d)
  rw [WP,YE,XI]
  omega
theorem DI {N N':Yo} {W:Yo} {A B C:List V6} {z z':Int} (h:wr N A z=W) (hd:A=B++C) (hw:wr N B z=N') (hz:z'=z+(B.length:Nat)):wr N' C z'=W:=by
 subst hd hw hz
 rw [<-h,AL]
theorem D4 {N:Yo} {C:List V6} {z z':Int} (h:X9 N C z') (hz:z=z'):X9 N C z:=hz▸h
theorem I1 {y:X7}:(W8 y).length=(Wn (Z3 y.dv) 0 y.decls).length+(WP (Z3 y.rv) 0 y.routines).length:=by rw [W8,YE]
theorem Zfn {M:Yo} {y:X7} {q:Int}:wr (wr M (Wn (Z3 y.dv) 0 y.decls) q) (WP (Z3 y.rv) 0 y.routines) (q+((Wn (Z3 y.dv) 0 y.decls).length:Nat))=wr M (W8 y) q:=by rw [W8,AL]
mutual
theorem Z7.sz_cst:∀s:Z7,s.sz=s.cst+1
 | .mk _ _ _ args kids=>by rw [Z7.sz,Z7.cst,MA kids];omega
theorem Zf.sz_cst:∀b:Zf,b.sz=b.cst+1
 | .mk steps _=>by rw [Zf.sz,Zf.cst,S5 steps];omega
theorem S5:∀xs:List Z7,Y9 xs=xs.length+UL xs
 | []=>by rw [Y9,UL];rfl
 | s::r=>by rw [Y9,UL,S5 r,s.sz_cst,XI];omega
theorem MA:∀xs:List Zf,Xn xs=xs.length+UG xs
 | []=>by rw [Xn,UG];rfl
 | s::r=>by rw [Xn,UG,MA r,s.sz_cst,XI];omega
end
theorem Z2u {cs:List Xs} {c:Xs} (h:c∈cs):T7 c<=Tq cs:=let ⟨_,hk⟩:=DM h;Ec hk
theorem H3 {cs:List Zg} {c:Zg} (h:c∈cs):U5 c<=Q1 cs:=let ⟨_,hk⟩:=DM h;Ek hk
theorem IH {cs:List Yy} {c:Yy} (h:c∈cs):VF c<=Td cs:=let ⟨_,hk⟩:=DM h;Fp hk
theorem Pu {n:Zj} (h:Wo n<=4194304):WM n:=by
 unfold Wo VA VY at h
 refine ⟨⟨by omega,fun d hd=>?_,fun d hd c hc=>?_⟩,by omega,fun r hr=>?_,fun r hr=>?_,fun r hr=>?_⟩
 ·have:=H3 hd;unfold U5 Uq at this;omega
 ·have:=H3 hd;have h2:=Z2u hc;unfold U5 Uq at this;unfold T7 at h2;omega
 ·have:=IH hr;unfold VF at this;omega
 ·have:=IH hr;unfold VF at this;omega
 ·have:=IH hr;unfold VF at this;have:=r.body.sz_cst;omega
theorem LX:∀cs:List X3,(WW cs).length=Tq (cs.map X3.er)
 | []=>rfl
 | c::r=>by
  rw [WW,YE,LX r,WC,Tq]
  show (ZA (Z3 c.fv) 0 c.fields.length).length+_=c.fields.length+_
  rw [AU]
theorem M0 {g:Nat}:∀(o:Nat) (ds:List YP),(Wn g o ds).length<=3*VA (ds.map YP.er)
 | _,[]=>TT _
 | o,d::r=>by
  have h1:=M0 (g:=g) (o+3) r
  have h2:=F4 (g:=g) (o:=o) (d:=d)
  rw [Wn,YE,h2,LX]
  unfold VA at h1 ⊢
  rw [WC,Q1,XI]
  have h3:U5 d.er=d.cons.length+Tq (d.cons.map X3.er):=by unfold U5 Uq YP.er;simp
  omega
mutual
theorem Z0h {g o:Nat}:∀s:ZX,(QF g o s).length<=3*s.er.sz
 | .mk op num into args av kids kv=>by
  have h1:=LT (g:=Z3 kv) (o:=0) kids
  rw [QF,ZX.er,Z7.sz]
  simp only [XI,YE,AU]
  omega
theorem Z0c {g o:Nat}:∀s:ZV,(QE g o s).length<=3*s.er.sz
 | .mk steps sv result=>by
  have h1:=Gj (g:=Z3 sv) (o:=0) steps
  rw [QE,ZV.er,Zf.sz]
  simp only [XI,YE,Vy]
  omega
theorem Gj {g o:Nat}:∀xs:List ZX,(Yi g o xs).length<=3*Y9 (WF xs)
 | []=>by rw [Yi];exact TT _
 | s::r=>by
  have h1:=Z0h (g:=g) (o:=o) s
  have h2:=Gj (g:=g) (o:=o+5) r
  rw [Yi,WF,Y9,YE]
  omega
theorem LT {g o:Nat}:∀xs:List ZV,(Xj g o xs).length<=3*Xn (TG xs)
 | []=>by rw [Xj];exact TT _
 | s::r=>by
  have h1:=Z0c (g:=g) (o:=o) s
  have h2:=LT (g:=g) (o:=o+2) r
  rw [Xj,TG,Xn,YE]
  omega
end
theorem Ma {g:Nat}:∀(o:Nat) (rs:List YQ),(WP g o rs).length<=3*VY (rs.map YQ.er)
 | _,[]=>TT _
 | o,r::rs=>by
  have h1:=Ma (g:=g) (o+5) rs
  have h2:=F5 (g:=g) (o:=o) (r:=r)
  have h3:=Gj (g:=Z3 r.body.sv) (o:=0) r.body.steps
  have h4:r.body.er.sz=1+Y9 (WF r.body.steps):=by cases hb:r.body;rw [ZV.er,Zf.sz];rfl
  rw [Zf.sz_cst] at h4
  rw [WP,YE,h2,AU,AU]
  unfold VY at h1 ⊢
  rw [WC,Td,XI]
  have h5:VF r.er=r.params.length+(r.lent.length+r.body.er.cst):=rfl
  omega
theorem M8 (y:X7):(W8 y).length<=3*Wo y.er:=by
 have h1:=M0 (g:=Z3 y.dv) 0 y.decls
 have h2:=Ma (g:=Z3 y.rv) 0 y.routines
 rw [I1]
 have:Wo y.er=VA (y.decls.map YP.er)+VY (y.routines.map YQ.er):=rfl
 omega
theorem N8 {y:X7}:∀d∈y.decls,d.cons.length<=Wo y.er:=by
 intro d hd
 have h1:=H3 (List.mem_map_of_mem (f:=YP.er) hd)
 have h2:U5 d.er=d.cons.length+Tq (d.cons.map X3.er):=by unfold U5 Uq YP.er;simp
 have:Wo y.er=y.decls.length+Q1 (y.decls.map YP.er)+VY (y.routines.map YQ.er):=by show VA (y.decls.map YP.er)+VY (y.routines.map YQ.er)=_;unfold VA;simp
 omega
end Go.Abs
section
namespace Go.Abs
open Go.Proofs Go.Proofs.YtlcniflebhfdpaaGreat
section
variable {H:Type} {enc:TypeId × Value->H} {w:World}
def GA (w:World):ZE:=fun b _=>b<w.heap.size
abbrev Tr (enc:TypeId × Value->H) (w:World) (n:Nat) (t:TypeId) (cs:List Value) (x:DataW H × List MemPlace):Prop:=DataW.trod enc Tryz.prog w 0 (fun _=>true) true n t cs=some x
theorem P8 {w:World} {a:Addr} {v:Value} (h:w.cell? a=some v):a.block<w.heap.size/\a.spot=none:=by
 unfold World.cell? at h
 split at h
 ·rename_i c e fr hb
  split at h
  ·cases h
  ·rename_i hs
   exact ⟨(VG.1 hb).1,by simpa using hs⟩
 ·cases h
theorem ME {α:Type} {c:α->Nat}:∀{xs:List α} {ds:List (DataW H)},xs.length=ds.length->(∀(i:Nat) a d,xs[i]? = some a->ds[i]? = some d->c a+1<=Rows.uptoBulk d)->(xs.map fun a=>c a+1).sum<=Rows.uptoBulkAll ds
 | [],[],_,_=>X1 _
 | a::r,d::ds,hl,h=>by
  have h0:=h 0 a d rfl rfl
  have h1:=ME (c:=c) (xs:=r) (ds:=ds) (by simpa using hl) fun i a d ha hd=>h (i+1) a d (by simpa using ha) (by simpa using hd)
  rw [WC,AN,Rows.uptoBulkAll]
  omega
theorem R4 {α:Type} {f:α->AV} {G:ZE} {k b:Nat} (hf:∀x,(f x).leaves.length=k):∀{xs:List α} {o:Nat},(∀(i:Nat) a,xs[i]? = some a->Xl w G b (o+i*k) (f a).leaves)->XR w G k b o (xs.map f)
 | [],_,_=>.nil
 | x::r,o,h=>by
  refine .cons (hf x) (by have:=h 0 x rfl;simpa using this) (R4 hf fun i a ha=>?_)
  have:=h (i+1) a (by simpa using ha)
  rw [show o+(i+1)*k=o+k+i*k by rw [QB];omega] at this
  exact this
theorem C7 {α:Type} [Inhabited α] {t e k:Nat} (ht:Tryz.prog.underlying t=some (.slice e)) (hk:Tryz.prog.cellsOf e=k) (h0:0<k) (f:α->AV) (hf:∀x,(f x).leaves.length=k) (c:α->Nat) (Q:α->Prop) {n:Nat} {cs:List Value} {x:DataW H × List MemPlace}
  (h:Tr enc w n t cs x) (el:∀m cs y,m<n->Tr enc w m e cs y->∃a:α,Yc w (GA w) (f a).leaves cs/\c a+1<=Rows.uptoBulk y.1/\Q a) :
  ∃(v:Value) (xs:List α),cs=[v]/\RV w (GA w) (.sl (xs.map f) none) v/\(xs.map fun a=>c a+1).sum+1<=Rows.uptoBulk x.1/\∀a∈xs,Q a:=by
 rcases DataW.trod_slice ht h with ⟨rfl,rfl⟩|⟨a,len,cap,elems,rest,m,rfl,rfl,rfl,_,hlc,_,hlen,hel,_,_⟩
 ·exact ⟨_,[],rfl,.nil (by simp),by simp [Rows.uptoBulk],by simp⟩
 ·rw [hk] at hel
  have hone:∀i,i<len->∃z:α,∃cs' y,w.cells? 0 (a.add (i*k)) k=some cs'/\elems[i]? = some y/\Yc w (GA w) (f z).leaves cs'/\c z+1<=Rows.uptoBulk y.1/\Q z:=by
   intro i hi
   have h1:=hel i hi
   rw [Qz om] at h1
   obtain ⟨cs',h2,h3⟩:=Option.bind_eq_some_iff.1 h1
   obtain ⟨z,hz1,hz2,hz3⟩:=el m cs' _ om h3
   exact ⟨z,cs',_,h2,Qz om,hz1,hz2,hz3⟩
  obtain ⟨V,hV⟩:=Go.Deep.choose_lt hone
  refine ⟨_,(List.range len).map V,rfl,?_,?_,?_⟩
  ·cases hl0:len with
   | zero=>exact .nil (by simp)
   | succ q=>
    have hsp:a.spot=none:=by
     obtain ⟨cs',y,g1,_⟩:=hV 0 om
     obtain ⟨_,g2,g3⟩:=World.cells?_some g1
     have g4:=g3 0 h0
     rw [Qz om] at g4
     have g5:=(P8 g4).2
     simpa [Addr.add] using g5
    obtain ⟨b,o,sp⟩:=a
    simp only at hsp
    subst hsp
    rw [<-hl0]
    have hll:(((List.range len).map V).map f).length=len:=by simp
    have:=RV.sl (w:=w) (G:=GA w) (es:=((List.range len).map V).map f) (hv:=none) (b:=b) (o:=o) (k:=k) (cap:=cap) (by simp) (by rw [hll];exact hlc) (R4 hf fun i z hz=>by
     have hi:i<len:=by have:=(W5.1 hz).1;simpa using this
     have hz':V i=z:=by simpa [hi] using hz
     obtain ⟨cs',y,g1,_,g2,_⟩:=hV i hi
     rw [hz'] at g2
     obtain ⟨_,g3,g4⟩:=World.cells?_some g1
     refine Xl.of_cells g2 fun j u hj=>?_
     have hjl:j<k:=by have:=(W5.1 hj).1;omega
     have g5:=(g4 j hjl).trans hj
     rw [Addr.add_lit,Addr.add_lit] at g5
     exact ⟨g5,(P8 g5).1⟩)
    rw [hll] at this
    exact this
  ·have:=ME (c:=c) (xs:=(List.range len).map V) (ds:=elems.map (·.1)) (by simp [hlen]) fun i z d hz hd=>by
    have hi:i<len:=by have:=(W5.1 hz).1;simpa using this
    have hz':V i=z:=by simpa [hi] using hz
    obtain ⟨cs',y,_,g1,_,g2,_⟩:=hV i hi
    rw [Tm,g1] at hd
    simp only [Cs,Xr] at hd
    rw [<-hd,<-hz']
    exact g2
   simp only [Rows.uptoBulk]
   omega
  ·intro z hz
   obtain ⟨i,hi,rfl⟩:=Xe.1 hz
   obtain ⟨_,_,_,_,_,_,g⟩:=hV i (List.mem_range.1 hi)
   exact g
theorem Az {n:Nat} {cs:List Value} {x:DataW H × List MemPlace} (h:Tr enc w n 3 cs x):∃z:Int,cs=[.int .i64 z]/\Rows.uptoBulk x.1=1/\-9223372036854775808<=z/\z<=9223372036854775807:=by
 obtain ⟨z,rfl,rfl,hw⟩:=DataW.trod_int Tryz.underlying3 h
 refine ⟨z,rfl,rfl,?_⟩
 simpa [Lit.wf,IntKind.min,IntKind.max,IntKind.signed,IntKind.bits] using hw
theorem Sq:∀xs:LI,(xs.map fun _=>0+1).sum=xs.length
 | []=>rfl
 | _::r=>by rw [WC,AN,Sq r,XI];omega
theorem Fm {n:Nat} {cs:List Value} {x:DataW H × List MemPlace} (h:Tr enc w n 23 cs x):∃(v:Value) (xs:LI),cs=[v]/\RV w (GA w) (Ze xs) v/\xs.length+1<=Rows.uptoBulk x.1:=by
 obtain ⟨v,xs,h1,h2,h3,_⟩:=C7 Tryz.underlying23 (k:=1) kr om (fun z:Int=>AV.i z) (fun _=>rfl) (fun _=>0) (fun _=>True) h fun m cs y _ hy=>by
  obtain ⟨z,rfl,hb,_⟩:=Az hy
  exact ⟨z,.cons .val .nil,Nat.le_of_eq hb.symm,trivial⟩
 have hs:=Sq xs
 exact ⟨v,xs,h1,h2,by omega⟩
theorem PC {β:Type} {v:List β} (h:v.length=1):∃a,v=[a]:=by cases v with|nil=>simp at h|cons a r=>cases r with|nil=>exact ⟨a,rfl⟩|cons _ _=>simp at h
instance:Inhabited Xs:=⟨⟨[]⟩⟩
instance:Inhabited Zg:=⟨⟨0,0,[]⟩⟩
instance:Inhabited Z7:=⟨.mk 0 0 0 [] []⟩
instance:Inhabited Zf:=⟨.mk [] 0⟩
instance:Inhabited Yy:=⟨⟨[],[],0,.mk [] 0⟩⟩
theorem Tt {n:Nat} {cs:List Value} {fs:Array Field} {xs:List (DataW H × List MemPlace)} (hf:∀(i:Nat) (f:Field),fs[i]? = some f->DataW.trod enc Tryz.prog w 0 (fun _=>true) true n f.type ((cs.drop f.offset).take (Tryz.prog.cellsOf f.type))=xs[i]?)
  (i:Nat) (f:Field) (hi:fs[i]? = some f) {y:DataW H × List MemPlace} (hy:xs[i]? = some y) (k:Nat) (hk:Tryz.prog.cellsOf f.type=k):Tr enc w n f.type ((cs.drop f.offset).take k) y:=by
 subst hk
 exact (hf i f hi).trans hy
theorem E4:Tryz.prog.cellsOf 23=1:=by kernel_rfl
theorem c3:Tryz.prog.cellsOf 3=1:=by kernel_rfl
theorem Zap {n:Nat} {cs:List Value} {x:DataW H × List MemPlace} (h:Tr enc w n 228 cs x):∃a:Xs,Yc w (GA w) (KP a) cs/\T7 a+1<=Rows.uptoBulk x.1:=by
 obtain ⟨ys,m,rfl,rfl,hl,hyl,hf⟩:=DataW.trod_struct Tryz.underlying228 h
 have hl:cs.length=1:=hl.trans kr
 obtain ⟨v,rfl⟩:=PC hl
 obtain ⟨y0,rfl⟩:∃y0,ys=[y0]:=PC hyl
 have h0:Tr enc w m 23 [v] y0:=Tt hf 0 _ rfl rfl 1 E4
 obtain ⟨v',xs,e,h2,h3⟩:=Fm h0
 cases e
 refine ⟨⟨xs⟩,.cons h2 .nil,?_⟩
 simp only [Rows.uptoBulk,Rows.uptoBulkAll,WC,QV]
 show xs.length+1<=_
 omega
theorem c66:Tryz.prog.cellsOf 134=1:=by kernel_rfl
theorem c70:Tryz.prog.cellsOf 138=1:=by kernel_rfl
theorem Z1p:Tryz.prog.cellsOf 264=1:=by kernel_rfl
theorem GG:Tryz.prog.cellsOf 140=2:=by kernel_rfl
theorem c22:Tryz.prog.cellsOf 37=1:=by kernel_rfl
theorem c23:Tryz.prog.cellsOf 38=1:=by kernel_rfl
theorem F8 {β:Type} {v:List β} (h:v.length=2):∃a b,v=[a,b]:=by
 match v,h with
 | [a,b],_=>exact ⟨a,b,rfl⟩
theorem P5 {β:Type} {v:List β} (h:v.length=3):∃a b c,v=[a,b,c]:=by
 match v,h with
 | [a,b,c],_=>exact ⟨a,b,c,rfl⟩
theorem Z8x {β:Type} {v:List β} (h:v.length=4):∃a b c d,v=[a,b,c,d]:=by
 match v,h with
 | [a,b,c,d],_=>exact ⟨a,b,c,d,rfl⟩
theorem I6 {β:Type} {v:List β} (h:v.length=5):∃a b c d e,v=[a,b,c,d,e]:=by
 match v,h with
 | [a,b,c,d,e],_=>exact ⟨a,b,c,d,e,rfl⟩
theorem sum_cons:∀cs:List Xs,(cs.map fun a=>T7 a+1).sum=Uq cs
 | []=>rfl
 | c::r=>by rw [WC,AN,sum_cons r];unfold Uq;rw [Tq,XI];omega
theorem Sp:∀cs:List Zg,(cs.map fun a=>U5 a+1).sum=VA cs
 | []=>rfl
 | c::r=>by rw [WC,AN,Sp r];unfold VA;rw [Q1,XI];omega
theorem Ss:∀cs:List Z7,(cs.map fun a=>a.cst+1).sum=UA cs
 | []=>by unfold UA;rw [UL];rfl
 | c::r=>by rw [WC,AN,Ss r];unfold UA;rw [UL,XI];omega
theorem So:∀cs:List Zf,(cs.map fun a=>a.cst+1).sum=U3 cs
 | []=>by unfold U3;rw [UG];rfl
 | c::r=>by rw [WC,AN,So r];unfold U3;rw [UG,XI];omega
theorem Sr:∀cs:List Yy,(cs.map fun a=>VF a+1).sum=VY cs
 | []=>rfl
 | c::r=>by rw [WC,AN,Sr r];unfold VY;rw [Td,XI];omega
theorem Zaq {n:Nat} {cs:List Value} {x:DataW H × List MemPlace} (h:Tr enc w n 134 cs x):∃(v:Value) (xs:List Xs),cs=[v]/\RV w (GA w) (JQ xs) v/\Uq xs+1<=Rows.uptoBulk x.1:=by
 obtain ⟨v,xs,h1,h2,h3,_⟩:=C7 Tryz.underlying134 (k:=1) kr om J1 (fun _=>rfl) T7 (fun _=>True) h fun m cs y _ hy=>by
  obtain ⟨a,h1,h2⟩:=Zap hy
  exact ⟨a,h1,h2,trivial⟩
 rw [sum_cons] at h3
 exact ⟨v,xs,h1,h2,h3⟩
theorem Zar {n:Nat} {cs:List Value} {x:DataW H × List MemPlace} (h:Tr enc w n 136 cs x):∃a:Zg,Yc w (GA w) (Uh a) cs/\U5 a+1<=Rows.uptoBulk x.1:=by
 obtain ⟨ys,m,rfl,rfl,hl,hyl,hf⟩:=DataW.trod_struct Tryz.underlying136 h
 have hl:cs.length=3:=hl.trans kr
 obtain ⟨v0,v1,v2,rfl⟩:=P5 hl
 obtain ⟨y0,y1,y2,rfl⟩:∃a b c,ys=[a,b,c]:=P5 hyl
 obtain ⟨z0,e0,b0,_⟩:=Az (show Tr enc w m 3 [v0] y0 from Tt hf 0 _ rfl rfl 1 c3)
 obtain ⟨z1,e1,b1,_⟩:=Az (show Tr enc w m 3 [v1] y1 from Tt hf 1 _ rfl rfl 1 c3)
 obtain ⟨u2,xs,e2,h2,b2⟩:=Zaq (show Tr enc w m 134 [v2] y2 from Tt hf 2 _ rfl rfl 1 c66)
 cases e0;cases e1;cases e2
 refine ⟨⟨z0,z1,xs⟩,.cons .val (.cons .val (.cons h2 .nil)),?_⟩
 simp only [Rows.uptoBulk,Rows.uptoBulkAll,WC,QV]
 show Uq xs+1<=_
 omega
theorem Zas {n:Nat} {cs:List Value} {x:DataW H × List MemPlace} (h:Tr enc w n 37 cs x):∃(v:Value) (xs:List Zg),cs=[v]/\RV w (GA w) (ZI xs) v/\VA xs+1<=Rows.uptoBulk x.1:=by
 obtain ⟨v,xs,h1,h2,h3,_⟩:=C7 Tryz.underlying37 (k:=3) kr om QY (fun _=>rfl) U5 (fun _=>True) h fun m cs y _ hy=>by
  obtain ⟨a,h1,h2⟩:=Zar hy
  exact ⟨a,h1,h2,trivial⟩
 rw [Sp] at h3
 exact ⟨v,xs,h1,h2,h3⟩
theorem S3:∀{xs:List Z7},(∀a∈xs,a.rng)->U0 xs
 | [],_=>by rw [U0];trivial
 | x::r,h=>by rw [U0];exact ⟨h x (YY ..),S3 fun a ha=>h a (Xy _ ha)⟩
theorem Mz:∀{xs:List Zf},(∀a∈xs,a.rng)->QJ xs
 | [],_=>by rw [QJ];trivial
 | x::r,h=>by rw [QJ];exact ⟨h x (YY ..),Mz fun a ha=>h a (Xy _ ha)⟩
theorem Zao:∀(n:Nat),(∀{cs:List Value} {x:DataW H × List MemPlace},Tr enc w n 266 cs x->∃a:Z7,Yc w (GA w) (WT a) cs/\a.cst+1<=Rows.uptoBulk x.1/\a.rng) /\
  (∀{cs:List Value} {x:DataW H × List MemPlace},Tr enc w n 140 cs x->∃a:Zf,Yc w (GA w) (VE a) cs/\a.cst+1<=Rows.uptoBulk x.1/\a.rng):=by
 intro n
 induction n using Nat.strongRecOn with
 | ind n ih=>
  refine ⟨fun {cs x} h=>?_,fun {cs x} h=>?_⟩
  ·obtain ⟨ys,m,rfl,rfl,hl,hyl,hf⟩:=DataW.trod_struct Tryz.underlying266 h
   have hl:cs.length=5:=hl.trans kr
   obtain ⟨v0,v1,v2,v3,v4,rfl⟩:=I6 hl
   obtain ⟨y0,y1,y2,y3,y4,rfl⟩:∃a b c d e,ys=[a,b,c,d,e]:=I6 hyl
   obtain ⟨z0,e0,b0,_⟩:=Az (show Tr enc w m 3 [v0] y0 from Tt hf 0 _ rfl rfl 1 c3)
   obtain ⟨z1,e1,b1,r1⟩:=Az (show Tr enc w m 3 [v1] y1 from Tt hf 1 _ rfl rfl 1 c3)
   obtain ⟨z2,e2,b2,_⟩:=Az (show Tr enc w m 3 [v2] y2 from Tt hf 2 _ rfl rfl 1 c3)
   obtain ⟨u3,xs,e3,h3,b3⟩:=Fm (show Tr enc w m 23 [v3] y3 from Tt hf 3 _ rfl rfl 1 E4)
   obtain ⟨u4,bs,e4,h4,b4,q4⟩:=C7 Tryz.underlying264 (k:=2) GG om YG (fun _=>rfl) Zf.cst Zf.rng (show Tr enc w m 264 [v4] y4 from Tt hf 4 _ rfl rfl 1 Z1p) fun m' cs y hm hy=>(ih m' om).2 hy
   cases e0;cases e1;cases e2;cases e3;cases e4
   rw [So] at b4
   refine ⟨.mk z0 z1 z2 xs bs,.cons .val (.cons .val (.cons .val (.cons h3 (.cons (by rw [<-Ag] at h4;exact h4) .nil)))),?_,?_⟩
   ·simp only [Rows.uptoBulk,Rows.uptoBulkAll,WC,QV]
    rw [Z7.cst]
    unfold U3 at b4
    omega
   ·rw [Z7.rng]
    exact ⟨r1,Mz q4⟩
  ·obtain ⟨ys,m,rfl,rfl,hl,hyl,hf⟩:=DataW.trod_struct Tryz.underlying140 h
   have hl:cs.length=2:=hl.trans GG
   obtain ⟨v0,v1,rfl⟩:=F8 hl
   obtain ⟨y0,y1,rfl⟩:∃a b,ys=[a,b]:=F8 hyl
   obtain ⟨u0,xs,e0,h0,b0,q0⟩:=C7 Tryz.underlying138 (k:=5) kr om XS (fun _=>rfl) Z7.cst Z7.rng (show Tr enc w m 138 [v0] y0 from Tt hf 0 _ rfl rfl 1 c70) fun m' cs y hm hy=>(ih m' om).1 hy
   obtain ⟨z1,e1,b1,_⟩:=Az (show Tr enc w m 3 [v1] y1 from Tt hf 1 _ rfl rfl 1 c3)
   cases e0;cases e1
   rw [Ss] at b0
   refine ⟨.mk xs z1,.cons (by rw [<-J8] at h0;exact h0) (.cons .val .nil),?_,?_⟩
   ·simp only [Rows.uptoBulk,Rows.uptoBulkAll,WC,QV]
    rw [Zf.cst]
    unfold UA at b0
    omega
   ·rw [Zf.rng]
    exact S3 q0
theorem Zat {n:Nat} {cs:List Value} {x:DataW H × List MemPlace} (h:Tr enc w n 142 cs x):∃a:Yy,Yc w (GA w) (TM a) cs/\VF a+1<=Rows.uptoBulk x.1/\a.body.rng:=by
 obtain ⟨ys,m,rfl,rfl,hl,hyl,hf⟩:=DataW.trod_struct Tryz.underlying142 h
 have hl:cs.length=5:=hl.trans kr
 obtain ⟨v0,v1,v2,v3,v4,rfl⟩:=I6 hl
 obtain ⟨y0,y1,y2,y3,rfl⟩:∃a b c d,ys=[a,b,c,d]:=Z8x hyl
 obtain ⟨u0,ps,e0,h0,b0⟩:=Fm (show Tr enc w m 23 [v0] y0 from Tt hf 0 _ rfl rfl 1 E4)
 obtain ⟨u1,ls,e1,h1,b1⟩:=Fm (show Tr enc w m 23 [v1] y1 from Tt hf 1 _ rfl rfl 1 E4)
 obtain ⟨z2,e2,b2,_⟩:=Az (show Tr enc w m 3 [v2] y2 from Tt hf 2 _ rfl rfl 1 c3)
 obtain ⟨b,h3,b3,q3⟩:=(Zao m).2 (show Tr enc w m 140 [v3,v4] y3 from Tt hf 3 _ rfl rfl 2 GG)
 cases e0;cases e1;cases e2
 refine ⟨⟨ps,ls,z2,b⟩,.cons h0 (.cons h1 (.cons .val h3)),?_,q3⟩
 simp only [Rows.uptoBulk,Rows.uptoBulkAll,WC,QV]
 show ps.length+(ls.length+b.cst)+1<=_
 omega
theorem R0 {n:Nat} {cs:List Value} {x:DataW H × List MemPlace} (h:Tr enc w n 40 cs x):∃a:Zj,Yc w (GA w) (Wb a) cs/\Wo a<=Rows.uptoBulk x.1/\∀r∈a.routines,r.body.rng:=by
 obtain ⟨ys,m,rfl,rfl,hl,hyl,hf⟩:=DataW.trod_struct Tryz.underlying40 h
 have hl:cs.length=2:=hl.trans kr
 obtain ⟨v0,v1,rfl⟩:=F8 hl
 obtain ⟨y0,y1,rfl⟩:∃a b,ys=[a,b]:=F8 hyl
 obtain ⟨u0,ds,e0,h0,b0⟩:=Zas (show Tr enc w m 37 [v0] y0 from Tt hf 0 _ rfl rfl 1 c22)
 obtain ⟨u1,rs,e1,h1,b1,q1⟩:=C7 Tryz.underlying38 (k:=5) kr om QZ (fun _=>rfl) VF (fun r=>r.body.rng) (show Tr enc w m 38 [v1] y1 from Tt hf 1 _ rfl rfl 1 c23) fun m' cs y hm hy=>Zat hy
 cases e0;cases e1
 rw [Sr] at b1
 refine ⟨⟨ds,rs⟩,.cons h0 (.cons h1 .nil),?_,q1⟩
 simp only [Rows.uptoBulk,Rows.uptoBulkAll,WC,QV]
 show VA ds+VY rs<=_
 omega
end
end Go.Abs
end
namespace Go.Abs
def GB (B:List Nat):ZE:=fun b _=>b∈B
def HB (B:List Nat) (v:Value):Prop:=∀g,v.ownBlock=some g->g∈B
def XQ (w:World) (B:List Nat) (ts:List (Value × Nat)):Prop:=∀p∈ts,Jq w p.1 p.2/\HB B p.1
theorem XQ.left {w:World} {B:List Nat} {a b:List (Value × Nat)} (h:XQ w B (a++b)):XQ w B a:=fun p hp=>h p (Yz.2 (.inl hp))
theorem XQ.right {w:World} {B:List Nat} {a b:List (Value × Nat)} (h:XQ w B (a++b)):XQ w B b:=fun p hp=>h p (Yz.2 (.inr hp))
theorem XQ.head {w:World} {B:List Nat} {v:Value} {k:Nat} {b:List (Value × Nat)} (h:XQ w B ((v,k)::b)):Jq w v k/\HB B v:=h _ (YY ..)
theorem XQ.tail {w:World} {B:List Nat} {p:Value × Nat} {b:List (Value × Nat)} (h:XQ w B (p::b)):XQ w B b:=fun q hq=>h q (Xy _ hq)
section
variable {w:World} {G:ZE} {B:List Nat}
def A6 (w:World) (G:ZE) (B:List Nat) (x:AV):Prop:=∀u,RV w G x u->RV w (GB B) x u
def To (w:World) (G:ZE) (B:List Nat) (ls:List AV):Prop:=∀x∈ls,A6 w G B x
theorem BY:To w G B []:=fun _ h=>by cases h
theorem Tx {x:AV} {l:List AV} (h:A6 w G B x) (t:To w G B l):To w G B (x::l):=fun y hy=>by
 rcases YA.1 hy with rfl|hy
 ·exact h
 ·exact t y hy
theorem An (z:Int):A6 w G B (.i z):=fun _ h=>by cases h;exact .val
theorem R6 {b:Nat} (hb:b∈B):∀{o:Nat} {ls:List AV},To w G B ls->Xl w G b o ls->Xl w (GB B) b o ls
 | _,_,_,.nil=>.nil
 | _,_,hi,.cons hc _ h t=>.cons hc hb (hi _ (YY ..) _ h) (R6 hb (fun x hx=>hi x (Xy _ hx)) t)
theorem R3 {b k:Nat} (hb:b∈B):∀{o:Nat} {es:List AV},(∀y∈es,To w G B y.leaves)->XR w G k b o es->XR w (GB B) k b o es
 | _,_,_,.nil=>.nil
 | _,_,hi,.cons hl h t=>.cons hl (R6 hb (hi _ (YY ..)) h) (R3 hb (fun x hx=>hi x (Xy _ hx)) t)
theorem BX {es:List AV} {v:Value} (hb:HB B v) (hi:∀y∈es,To w G B y.leaves):A6 w G B (.sl es (some v)):=by
 intro u h
 have e:=h.header
 subst e
 cases h with
 | nil hq=>exact .nil hq
 | sl hq hc hm=>exact .sl hq hc (R3 (hb _ (by rfl)) hi hm)
theorem EO {xs:LI} {v:Value} (hb:HB B v):A6 w G B (ZY xs v):=BX hb fun y hy=>by
 simp only [Zk,Xe] at hy
 obtain ⟨z,_,rfl⟩:=hy
 exact Tx (An z) BY
theorem Z71 {ls:List AV} (hi:To w G B ls):A6 w G B (.agg ls):=by
 intro u h
 cases h with
 | agg hc=>exact .agg (hc.clean (A6 w G B) (fun x v hp hx=>hp v hx) hi)
theorem Z73 {c:X3} (h:XQ w B (Wg c)):To w G B (Ao c):=Tx (EO h.head.2) BY
theorem Z74 {cs:List X3} (h:XQ w B (X8 cs)):∀y∈Ws cs,To w G B y.leaves:=by
 intro y hy
 simp only [Ws,Xe] at hy
 obtain ⟨c,hc,rfl⟩:=hy
 exact Z73 fun p hp=>h p (Co.2 ⟨c,hc,hp⟩)
theorem Z75 {d:YP} (h:XQ w B (Wh d)):To w G B (Ap d):=
 Tx (An _) (Tx (An _) (Tx (BX (XQ.right h).head.2 (Z74 (XQ.left h))) BY))
theorem Z76 {ds:List YP} (h:XQ w B (X2 ds)):∀y∈XV ds,To w G B y.leaves:=by
 intro y hy
 simp only [XV,Xe] at hy
 obtain ⟨c,hc,rfl⟩:=hy
 exact Z75 fun p hp=>h p (Co.2 ⟨c,hc,hp⟩)
mutual
theorem Z79:∀(s:ZX),XQ w B (Xw s)->To w G B (Ar s)
 | .mk op num into args av kids kv,h=>by
  rw [Xw] at h
  exact Tx (An _) (Tx (An _) (Tx (An _) (Tx (EO h.head.2) (Tx (BX h.tail.right.head.2 (Oq kids h.tail.left)) BY))))
theorem Oo:∀(s:ZV),XQ w B (YW s)->To w G B (JL s)
 | .mk steps sv result,h=>by
  rw [YW] at h
  exact Tx (BX h.right.head.2 (Ot steps h.left)) (Tx (An _) BY)
theorem Ot:∀(xs:List ZX),XQ w B (YC xs)->∀y∈WE xs,To w G B y.leaves
 | [],_=>fun y hy=>by rw [WE] at hy;cases hy
 | s::r,h=>fun y hy=>by
  rw [WE] at hy
  rw [YC] at h
  rcases YA.1 hy with rfl|hy
  ·rw [Ep];exact Z79 s h.left
  ·exact Ot r h.right y hy
theorem Oq:∀(xs:List ZV),XQ w B (YS xs)->∀y∈V7 xs,To w G B y.leaves
 | [],_=>fun y hy=>by rw [V7] at hy;cases hy
 | s::r,h=>fun y hy=>by
  rw [V7] at hy
  rw [YS] at h
  rcases YA.1 hy with rfl|hy
  ·rw [En];exact Oo s h.left
  ·exact Oq r h.right y hy
end
theorem Z77 {r:YQ} (h:XQ w B (Wi r)):To w G B (Aq r):=by
 have h2:XQ w B (YW r.body):=h.tail.tail
 have hb:=Oo (G:=G) r.body h2
 exact Tx (EO h.head.2) (Tx (EO h.tail.head.2) (Tx (An _) hb))
theorem Z78 {rs:List YQ} (h:XQ w B (X5 rs)):∀y∈V8 rs,To w G B y.leaves:=by
 intro y hy
 simp only [V8,Xe] at hy
 obtain ⟨c,hc,rfl⟩:=hy
 exact Z77 fun p hp=>h p (Co.2 ⟨c,hc,hp⟩)
theorem Z72 {y:X7} (h:XQ w B (Xh y)):A6 w G B (VJ y):=
 Z71 (Tx (BX h.right.head.2 (Z76 h.left)) (Tx (BX h.right.tail.right.head.2 (Z78 h.right.tail.left)) BY))
end
def UK (w:World):Yo:=fun b o=>w.cell? ⟨b,o,none⟩
section
variable {w:World} {G:ZE} {B:List Nat}
theorem JU {g o:Nat} {z:Int} {xs:List AV} (h:Xl w G g o (.i z::xs)):Vf (UK w) (g,o)/\Xl w G g (o+1) xs:=by
 cases h with
 | cons hc _ hx t=>exact ⟨⟨z,by have:=hx.val_inv;subst this;exact hc⟩,t⟩
theorem L9 {es:List AV} {v u:Value} {k:Nat} (h:RV w G (.sl es (some v)) u) (ht:Jq w v k) (hb:HB B v):Wm B v es.length/\∃kk,XR w G kk (Z3 v) 0 es:=by
 have e:=h.header
 subst e
 rcases ht with rfl|⟨g,len,cap,cur,e,rfl,h1,h2,h3⟩
 ·cases h with
  | nil _=>exact ⟨.inl ⟨rfl,rfl⟩,0,.nil⟩
 ·cases h with
  | nil _=>exact ⟨.inr ⟨g,cap,rfl,hb g rfl⟩,0,.nil⟩
  | sl _ hc hm=>exact ⟨.inr ⟨g,cap,rfl,hb g rfl⟩,_,hm⟩
theorem Dn {g o:Nat} {es:List AV} {v:Value} {k:Nat} {xs:List AV} (h:Xl w G g o (.sl es (some v)::xs)) (ht:Jq w v k) (hb:HB B v) :
  Qa (UK w) B g o v es.length/\(∃kk,XR w G kk (Z3 v) 0 es)/\Xl w G g (o+1) xs:=by
 cases h with
 | cons hc _ hx t=>
  have e:=hx.header
  subst e
  obtain ⟨a,b⟩:=L9 hx ht hb
  exact ⟨⟨hc,a⟩,b,t⟩
theorem Zc5 {g kk:Nat} {xs:LI} (h:XR w G kk g 0 (Zk xs)):TQ (UK w) g xs.length:=by
 intro i hi
 have hx:(Zk xs)[i]? = some (.i xs[i]):=by simp [Zk,hi]
 have hk:kk=1:=(h.len _ (YF hx)).symm
 subst hk
 have:=h.get i _ hx
 rw [Vk,UO] at this
 exact (JU this).1
theorem FB {g o:Nat} {v:Value} {xs:LI} {k:Nat} {ls:List AV} (h:Xl w G g o (ZY xs v::ls)) (ht:Jq w v k/\HB B v) :
  (Qa (UK w) B g o v xs.length/\TQ (UK w) (Z3 v) xs.length)/\Xl w G g (o+1) ls:=by
 obtain ⟨a,⟨kk,b⟩,c⟩:=Dn h ht.1 ht.2
 rw [Yn] at a
 exact ⟨⟨a,Zc5 b⟩,c⟩
theorem Zc3 {g o:Nat} {c:X3} (h:Xl w G g o (Ao c)) (ha:XQ w B (Wg c)):IX (UK w) B g o c:=(FB h ha.head).1
theorem RK {g kk:Nat}:∀{o:Nat} {cs:List X3},XR w G kk g o (Ws cs)->XQ w B (X8 cs)->KS (UK w) B g o cs
 | _,[],_,_=>trivial
 | _,c::r,.cons hl h t,ha=>by
  have ha:XQ w B (Wg c++X8 r):=ha
  have hk:1=kk:=hl
  subst hk
  exact ⟨Zc3 h ha.left,RK t ha.right⟩
theorem Zc4 {g o:Nat} {d:YP} (h:Xl w G g o (Ap d)) (ha:XQ w B (Wh d)):L0 (UK w) B g o d:=by
 obtain ⟨h1,h⟩:=JU h
 obtain ⟨h2,h⟩:=JU h
 obtain ⟨h3,⟨_,h4⟩,_⟩:=Dn h (XQ.right ha).head.1 (XQ.right ha).head.2
 rw [Z3z] at h3
 exact ⟨h1,h2,h3,RK h4 (XQ.left ha)⟩
theorem RL {g kk:Nat}:∀{o:Nat} {cs:List YP},XR w G kk g o (XV cs)->XQ w B (X2 cs)->Jf (UK w) B g o cs
 | _,[],_,_=>trivial
 | _,c::r,.cons hl h t,ha=>by
  have ha:XQ w B (Wh c++X2 r):=ha
  have hk:3=kk:=hl
  subst hk
  exact ⟨Zc4 h ha.left,RL t ha.right⟩
mutual
theorem Zc8 {g o:Nat}:∀{s:ZX},Xl w G g o (Ar s)->XQ w B (Xw s)->QT (UK w) B g o s
 | .mk _ _ _ _ _ _ _,h,ha=>by
  rw [Xw] at ha
  rw [QT]
  obtain ⟨h1,h⟩:=JU h
  obtain ⟨h2,h⟩:=JU h
  obtain ⟨h3,h⟩:=JU h
  obtain ⟨h4,h⟩:=FB h ha.head
  obtain ⟨h5,⟨_,h6⟩,_⟩:=Dn h ha.tail.right.head.1 ha.tail.right.head.2
  rw [Z3y] at h5
  exact ⟨⟨h1,h2,h3⟩,h4,h5,RJ h6 ha.tail.left⟩
theorem Zc2 {g o:Nat}:∀{s:ZV},Xl w G g o (JL s)->XQ w B (YW s)->QS (UK w) B g o s
 | .mk _ _ _,h,ha=>by
  rw [YW] at ha
  rw [QS]
  obtain ⟨h5,⟨_,h6⟩,h⟩:=Dn h ha.right.head.1 ha.right.head.2
  rw [Nr] at h5
  exact ⟨⟨h5,L8 h6 ha.left⟩,(JU h).1⟩
theorem L8 {g kk:Nat}:∀{o:Nat} {xs:List ZX},XR w G kk g o (WE xs)->XQ w B (YC xs)->Vx (UK w) B g o xs
 | _,[],_,_=>by rw [Vx];trivial
 | _,s::r,h,ha=>by
  rw [WE] at h
  rw [YC] at ha
  rw [Vx]
  cases h with
  | cons hl h t=>
   rw [Ep] at hl h
   have hk:5=kk:=hl
   subst hk
   exact ⟨Zc8 h ha.left,L8 t ha.right⟩
theorem RJ {g kk:Nat}:∀{o:Nat} {xs:List ZV},XR w G kk g o (V7 xs)->XQ w B (YS xs)->Ua (UK w) B g o xs
 | _,[],_,_=>by rw [Ua];trivial
 | _,s::r,h,ha=>by
  rw [V7] at h
  rw [YS] at ha
  rw [Ua]
  cases h with
  | cons hl h t=>
   rw [En] at hl h
   have hk:2=kk:=hl
   subst hk
   exact ⟨Zc2 h ha.left,RJ t ha.right⟩
end
theorem Zc7 {g o:Nat} {r:YQ} (h:Xl w G g o (Aq r)) (ha:XQ w B (Wi r)):FA (UK w) B g o r:=by
 have ha2:XQ w B (YW r.body):=ha.tail.tail
 rw [EF] at ha2
 obtain ⟨h1,h⟩:=FB h ha.head
 obtain ⟨h2,h⟩:=FB h ha.tail.head
 obtain ⟨h3,h⟩:=JU h
 obtain ⟨h5,⟨_,h6⟩,h⟩:=Dn h ha2.right.head.1 ha2.right.head.2
 rw [Nr] at h5
 exact ⟨h1,h2,h3,⟨h5,L8 h6 ha2.left⟩,(JU h).1⟩
theorem RM {g kk:Nat}:∀{o:Nat} {cs:List YQ},XR w G kk g o (V8 cs)->XQ w B (X5 cs)->Jg (UK w) B g o cs
 | _,[],_,_=>trivial
 | _,c::r,.cons hl h t,ha=>by
  have ha:XQ w B (Wi c++X5 r):=ha
  have hk:5=kk:=hl
  subst hk
  exact ⟨Zc7 h ha.left,RM t ha.right⟩
def nv (y:X7):Value:=.agg #[y.dv,y.rv]
def KM:Value->Hd
 | .slice a l c=>⟨a,l,c⟩
 | _=>⟨none,0,0⟩
abbrev av (y:X7):AV:=.agg [.h (KM y.dv),.h (KM y.rv)]
def G3 (y:X7):Prop:=(KM y.dv).v=y.dv/\(KM y.rv).v=y.rv
theorem Wm.of {B:List Nat} {v:Value} {n:Nat} (h:Wm B v n):(KM v).v=v:=by
 rcases h with ⟨rfl,_⟩|⟨g,cap,rfl,_⟩<;>rfl
theorem BS {m:Yo} {B:List Nat} {y:X7} (h:Qb m B y):G3 y:=⟨h.1.1.of,h.2.1.of⟩
theorem Cy {y:X7} (h:G3 y):av y=.agg [.val y.dv,.val y.rv]:=by
 show AV.agg [.val (KM y.dv).v,.val (KM y.rv).v]=_
 rw [h.1,h.2]
theorem IM {y:X7} {u:Value} (h:RV w G (VJ y) u):u=nv y:=by
 cases h with
 | agg hc=>cases hc with
  | cons h1 t=>cases t with
   | cons h2 t=>cases t;rw [h1.header,h2.header];rfl
theorem Zc6 {y:X7} {u:Value} (h:RV w G (VJ y) u) (ha:XQ w B (Xh y)):Qb (UK w) B y:=by
 cases h with
 | agg hc=>cases hc with
  | cons h1 t=>cases t with
   | cons h2 t=>
    obtain ⟨a1,_,a2⟩:=L9 h1 ha.right.head.1 ha.right.head.2
    obtain ⟨b1,_,b2⟩:=L9 h2 ha.right.tail.right.head.1 ha.right.tail.right.head.2
    rw [Z40] at a1
    rw [Z41] at b1
    exact ⟨⟨a1,RL a2 ha.left⟩,b1,RM b2 ha.right.tail.left⟩
end
def Cu (B:List Nat) (m:Yo) (x:AV) (u:Value):Prop:=
 ∀w:World,(∀b∈B,∃cs e,w.heap[b]? = some (.cells cs e (0,0))/\∀o,cs[o]? = m b o)->RV w (GB B) x u
def A9 (S:List Nat) (M:Yo) (y:X7):Prop:=Cu S M (VJ y) (nv y)/\G3 y
theorem Z1k {ts:List (Value × Nat)} {p:Value × Nat} (h:p∈ts):HB (Xz ts) p.1:=fun _ hg=>LH.2 ⟨p,h,hg⟩
theorem Z1l {w:World} {ts:List (Value × Nat)} (h:∀p∈ts,Jq w p.1 p.2) (hp:ts.Pairwise (fun p q=>∀b o,Bj p.1 p.2 b o->Bj q.1 q.2 b o->False)):(Xz ts).Nodup:=by
 refine List.pairwise_filterMap.2 (hp.imp_of_mem ?_)
 rintro ⟨v,k⟩ ⟨v',k'⟩ hm hm' hd b hb b' hb' rfl
 rcases h _ hm with e|⟨g,len,cap,cur,el,e,_⟩
 ·simp only at e;subst e;simp [Value.ownBlock] at hb
 rcases h _ hm' with e'|⟨g',len',cap',cur',el',e',_⟩
 ·simp only at e';subst e';simp [Value.ownBlock] at hb'
 simp only at e e'
 subst e;subst e'
 simp only [Value.ownBlock,Xr] at hb hb'
 subst hb;subst hb'
 exact hd g' (len*k+len'*k') ⟨rfl,Nat.le_add_right _ _⟩ ⟨rfl,Nat.le_add_left _ _⟩
theorem thaw {w0 w:World} {G0 G':ZE} {y:X7} {u:Value} (hh0:ZZ w0 G0 []) (hx:Yu w0 G0 [] w G' [.many (Xh y)]) (hh:ZZ w G' [.many (Xh y)]) (hv:RV w G' (VJ y) u) :
  ZZ w G0 [.own (Xz (Xh y)) (UK w)]/\Yu w0 G0 [] w G0 [.own (Xz (Xh y)) (UK w)]/\Qb (UK w) (Xz (Xh y)) y/\(W8 y).Nodup /\
   Cu (Xz (Xh y)) (UK w) (VJ y) (nv y):=by
 obtain ⟨t1,t2⟩:=hh.ok _ (YL.2 rfl)
 have ha:XQ w (Xz (Xh y)) (Xh y):=fun p hp=>⟨t1 p hp,Z1k hp⟩
 have hcells:∀b∈Xz (Xh y),∃cs e,w.heap[b]? = some (.cells cs e (0,0))/\∀o,cs[o]? = UK w b o:=by
  intro b hb
  obtain ⟨p,hp,hpb⟩:=LH.1 hb
  rcases t1 p hp with e|⟨g,len,cap,cur,el,e,h1,_⟩
  ·rw [e] at hpb;simp [Value.ownBlock] at hpb
  ·rw [e] at hpb
   simp only [Value.ownBlock,Xr] at hpb
   subst hpb
   exact ⟨cur,el,h1,fun o=>(cell_of_row w g o cur el (0,0) h1).symm⟩
 have hfresh:∀b∈Xz (Xh y),w0.heap.size<=b:=by
  intro b hb
  obtain ⟨p,hp,hpb⟩:=LH.1 hb
  rcases t1 p hp with e|⟨g,len,cap,cur,el,e,h1,_⟩
  ·rw [e] at hpb;simp [Value.ownBlock] at hpb
  ·have e':=e
   rw [e] at hpb
   simp only [Value.ownBlock,Xr] at hpb
   subst hpb
   refine Nat.le_of_not_lt fun hlt=>?_
   obtain ⟨r,hr,_⟩:=hx.newfp g (len*p.2) hlt ⟨_,YL.2 rfl,p,hp,by rw [e'];exact ⟨rfl,X1 _⟩⟩
   cases hr
 have hsk:=Zc6 hv ha
 have hrv:=Z72 ha _ hv
 rw [IM hv] at hrv
 refine ⟨⟨fun r hr=>?_,Kw _ _,fun r hr b o hf hg=>?_,fun b o hg=>Bv (hh0.lt b o hg) hx.size⟩,
  ⟨hx.os,hx.tape,hx.output,hx.size,fun _ _ h=>h,hx.same,fun _ _ _ h=>.inl h,fun b o hb hf=>?_⟩,hsk,Z0f hsk (Z1l t1 t2),fun w' hw'=>?_⟩
 ·rw [YL.1 hr]
  exact hcells
 ·rw [YL.1 hr] at hf
  have h1:=hfresh b hf
  have h2:=hh0.lt b o hg
  omega
 ·obtain ⟨r,hr,hf⟩:=hf
  rw [YL.1 hr] at hf
  have h1:=hfresh b hf
  omega
 ·refine hrv.mono ⟨fun b o hb=>?_,fun _ _ h=>h⟩
  obtain ⟨cs,e,h1,h2⟩:=hcells b hb
  obtain ⟨cs',e',h1',h2'⟩:=hw' b hb
  rw [cell_of_row w b o cs e (0,0) h1,cell_of_row w' b o cs' e' (0,0) h1',h2,h2']
theorem Wj.thaw {P:Program} {f:FuncId} {args:List AV} {Q:X7->Prop} (H:Wj P f args [] (fun r h=>∃y:X7,r=VJ y/\h=[.many (Xh y)]/\Q y)) :
  Wj P f args [] (fun r h=>∃(y:X7) (S:List Nat) (M:Yo),r=av y/\h=[.own S M]/\(Q y/\Qb M S y/\(W8 y).Nodup/\A9 S M y)):=by
 intro w G vs ha hh
 refine (H w G vs ha hh).mono ?_
 rintro e w' ⟨v,r,h',G',rfl,⟨y,rfl,rfl,hq⟩,hv,hh',hx⟩
 obtain ⟨a1,a2,a3,a4,a5⟩:=Go.Abs.thaw hh hx hh' hv
 rw [IM hv]
 exact ⟨_,_,_,_,rfl,⟨y,_,_,rfl,rfl,hq,a3,a4,a5,BS a3⟩,by rw [Cy (BS a3)];exact .agg (.cons .val (.cons .val .nil)),a1,a2⟩
theorem Wj.thaw2 {P:Program} {f:FuncId} {args:List AV} {c:Bool} {Q:X7->Prop} (H:Wj P f args [] (fun r h=>∃y:X7,r=.tup [VJ y,.b c]/\h=[.many (Xh y)]/\Q y)) :
  Wj P f args [] (fun r h=>∃(y:X7) (S:List Nat) (M:Yo),r=.tup [av y,.b c]/\h=[.own S M]/\(Q y/\Qb M S y/\(W8 y).Nodup/\A9 S M y)):=by
 intro w G vs ha hh
 refine (H w G vs ha hh).mono ?_
 rintro e w' ⟨v,r,h',G',rfl,⟨y,rfl,rfl,hq⟩,hv,hh',hx⟩
 cases hv with
 | tup hc=>cases hc with
  | cons h1 t=>
   obtain ⟨a1,a2,a3,a4,a5⟩:=Go.Abs.thaw hh hx hh' h1
   refine ⟨_,_,_,_,rfl,⟨y,_,_,rfl,rfl,hq,a3,a4,a5,BS a3⟩,.tup (.cons ?_ ?_),a1,a2⟩
   ·rw [IM h1,Cy (BS a3)];exact .agg (.cons .val (.cons .val .nil))
   ·cases t with
    | cons h2 t=>cases t;cases h2;exact .cons .val .nil
inductive Kz (bs:List Res):List AV->List AV->Prop
 | nil:Kz bs [] []
 | same {x as1 xs} (t:Kz bs as1 xs):Kz bs (x::as1) (x::xs)
 | gen {B m x a u as1 xs} (h:Res.own B m∈bs) (hr:Cu B m x u) (ha:∀w G v,RV w G a v->v=u) (t:Kz bs as1 xs):Kz bs (a::as1) (x::xs)
theorem Kz.lent {bs:List Res} {B:List Nat} {m:Nat->Nat->Option Value} {y:X7} {as1 xs:List AV} (h:Res.own B m∈bs) (hr:A9 B m y) (t:Kz bs as1 xs):Kz bs (av y::as1) (VJ y::xs):=
 .gen h hr.1 (fun w G v h=>by
  rw [Cy hr.2] at h
  cases h with
  | agg hc=>cases hc with
   | cons h1 t=>cases t with
    | cons h2 t=>cases t;cases h1;cases h2;rfl) t
theorem Kz.rcs {w:World} {G Gb:ZE} {bs:List Res} (hA:Vz G w w Gb) (hb:∀B m,Res.own B m∈bs->∀x u,Cu B m x u->RV w Gb x u) :
  ∀{as1 xs:List AV} {vs:List Value},Kz bs as1 xs->Yc w G as1 vs->Yc w Gb xs vs
 | _,_,_,.nil,.nil=>.nil
 | _,_,_,.same t,.cons h r=>.cons (h.mono hA) (t.rcs hA hb r)
 | _,_,_,.gen hm hr ha t,.cons (v:=v) h r=>by
  have e:=ha _ _ _ h
  subst e
  exact .cons (hb _ _ hm _ _ hr) (t.rcs hA hb r)
theorem UD.cleanR {w:World} {G G2:ZE} {q:Res} (h0:UD w G q) (hcq:A4 q):UD w G2 q:=by
 cases q with
 | obj b ls=>obtain ⟨cs,el,k1,k2⟩:=h0;exact ⟨cs,el,k1,k2.vals hcq⟩
 | tail v k=>exact h0
 | ge s=>exact h0
 | vec v ls=>
  rcases h0 with ⟨rfl,h0⟩|⟨g,cap,cur,el,rfl,k1,k2,k3,k4⟩
  ·exact .inl ⟨rfl,h0⟩
  ·exact .inr ⟨g,cap,cur,el,rfl,k1,k2,k3,k4.vals hcq⟩
 | many ts=>exact h0
 | own B m=>exact h0
 | row v k ls=>
  rcases h0 with ⟨rfl,h0⟩|⟨g,len,cap,cur,el,rfl,k1,k2,k3,k4,k5⟩
  ·exact .inl ⟨rfl,h0⟩
  ·exact .inr ⟨g,len,cap,cur,el,rfl,k1,k2,k3,k4,k5.vals hcq⟩
 | mp b Q=>exact h0
theorem Wj.lendO {P:Program} {f:FuncId} {as1 xs:List AV} {h1:List Res} (bs:List Res) {R:AV->List Res->Prop} (H:Wj P f xs h1 R) (hargs:Kz bs as1 xs)
  (hb:∀r∈bs,∃B m,r=.own B m) (hclean:∀r h',R r h'->Qc h' r/\∀q∈h',A4 q) :
  Wj P f as1 (h1++bs) (fun r h'=>∃h1',R r h1'/\h'=h1'++bs):=by
 intro w G vs hvs hh
 let Gb:ZE:=fun b o=>G b o∨We bs b o
 have hA:Vz G w w Gb:=⟨fun _ _ _=>rfl,fun _ _ h=>.inl h⟩
 have hbslt:∀b o,We bs b o->b<w.heap.size:=fun b o ⟨q,hq,hf⟩=>(hh.ok q (Yz.2 (.inr hq))).lt b o hf
 have hwhole:∀b o o',We bs b o->We bs b o':=fun b o o' ⟨q,hq,hf⟩=>⟨q,hq,by
  obtain ⟨B,m,rfl⟩:=hb q hq
  exact hf⟩
 have g3:ZZ w Gb h1:=⟨fun r hr=>(hh.ok r (Yz.2 (.inl hr))).same hA,hh.left.apart,fun r hr b o hf hg=>by
   rcases hg with hg|hg
   ·exact hh.prot r (Yz.2 (.inl hr)) b o hf hg
   ·exact hh.cross ⟨r,hr,hf⟩ hg,fun b o hg=>by
   rcases hg with hg|hg
   ·exact hh.lt b o hg
   ·exact hbslt b o hg⟩
 have g4:∀B m,Res.own B m∈bs->∀x u,Cu B m x u->RV w Gb x u:=fun B m hm x u hr=>
  (hr w (hh.ok _ (Yz.2 (.inr hm)))).mono ⟨fun _ _ _=>rfl,fun b o hb=>.inr ⟨_,hm,hb⟩⟩
 refine (H w Gb vs (hargs.rcs hA g4 hvs) g3).mono ?_
 rintro e w' ⟨v,r,h',G',rfl,hR,hv,hh',hx⟩
 obtain ⟨c1,c2⟩:=hclean r h' hR
 let G2:ZE:=fun b o=>G' b o/\¬(We bs b o)
 have hGkeep:∀b o,G b o->G2 b o:=fun b o hg=>⟨hx.sub b o (.inl hg),fun ⟨q,hq,hf⟩=>hh.prot q (Yz.2 (.inr hq)) b o hf hg⟩
 have hnew:∀v k g,Res.tail v k∈h'->v.ownBlock=some g->∀o,G' g o->G2 g o:=by
  intro v k g hm hg o hgo
  refine ⟨hgo,fun hf=>?_⟩
  have hlt:=hbslt _ _ hf
  rcases hh'.ok _ hm with rfl|⟨g',len,cap,cur,el,rfl,t1,t2,t3⟩
  ·simp [Value.ownBlock] at hg
  ·simp only [Value.ownBlock,Xr] at hg
   subst hg
   have hfp:We h' g' (len*k):=⟨_,hm,rfl,X1 _⟩
   exact hh.cross (hx.newfp g' (len*k) hlt hfp) (hwhole _ _ _ hf)
 have e1:Yu w G h1 w' G2 h':=⟨hx.os,hx.tape,hx.output,hx.size,hGkeep,hx.same,fun b o hb' hg=>by
  rcases hx.newG b o hb' hg.1 with h|h
  ·rcases h with h|h
   ·exact .inl h
   ·exact absurd h hg.2
  ·exact .inr h,hx.newfp⟩
 have e2:ZZ w' G2 h':=⟨fun q hq=>(hh'.ok q hq).cleanR (c2 q hq),hh'.apart,fun q hq b o hf hg=>hh'.prot q hq b o hf hg.1,fun b o hg=>hh'.lt b o hg.1⟩
 obtain ⟨f1,f2⟩:=hh.frame e1 e2
 exact ⟨v,r,h'++bs,G2,rfl,⟨h',hR,rfl⟩,RV.clean hnew c1 hv,f1,f2⟩
section
variable {P:Program} {n:Nat} {ops:Array Oper} {B:Fr->List Res->Prop} {k:Nat} {F:Fr} {h:List Res}
def My (P:Program) (ops:Array Oper) (F:Fr) (k:Nat):Option (Bool × Bool):=
 match (Zl ops k).op with
 | .binOp .neq t x y _=>match P.underlying t with
  | some .bool=>match F.ev x,F.ev y with
   | .val (.bool a),.val (.bool b)=>some (a,b)
   | _,_=>none
  | _=>none
 | _=>none
theorem HT (a b:Bool) (hb:My P ops F k=some (a,b):=by kernel_rfl):Xb P (Zl ops k) F h [] (.b (a != b)):=by
 unfold My at hb
 generalize hoo:Zl ops k=o at hb
 obtain ⟨dst,op,type,pos,after,guard⟩:=o
 cases op<;>simp only at hb<;>try (cases hb)
 rename_i bop t x y yt
 cases bop<;>simp only at hb<;>try (cases hb)
 split at hb
 ·rename_i ht
  split at hb
  ·rename_i a' b' h1 h2
   cases hb
   intro n w G ac hF hh
   have v1:=hF.ev x
   have v2:=hF.ev y
   rw [h1] at v1
   rw [h2] at v2
   have v1:=v1.val_inv
   have v2:=v2.val_inv
   refine ⟨_,.val,fun w' _ _=>?_⟩
   simp only [execOp,v1,v2]
   have he:(Op.equalIn (9999+1) t (.bool a) (.bool b)).run P w'=.ok (a==b) w':=by
    rw [Op.equalIn]
    simp [Sem.run_bind,Vw ht]
   refine Vi ?_
   simp only [eqGuard,binOp,Op.equal,Op.maxDepth]
   have he2:(Op.equalIn 10000 t (.bool a) (.bool b)).run P w'=.ok (a==b) w':=he
   simp [Sem.run_bind,he2,bne]
  ·cases hb
 ·cases hb
end
open Go.Proofs
abbrev Za:=@Wj Tryz.prog
theorem Z9m {xs:LI} {k:Nat} {n x:Int} (h:n∉xs.take k) (hx:xs[k]? = some x) (hn:¬x=n):n∉xs.take (k+1):=by
 rw [List.take_add_one,hx]
 simp only [Option.toList_some,Yz,YL]
 exact fun q=>q.elim h fun q=>hn q.symm
theorem Z9e {xs:LI} {k:Nat} {n x:Int} (hx:xs[k]? = some x) (hn:x=n):n∈xs:=hn▸YF hx
theorem Tl (n:Int) (low:Int) (high:Int) :Za 126 [.i n,.i low,.i high] [] (fun r h=>r=.b (decide (low<=n/\n<=high))/\h=[]):=by
 refine Zx 15 Tryz.func126 (Zh (ar (XC 8 [] [(14,.b ((decide (low<=n))&&(decide (n<=high))))] (fun gz=>gz) ?_ (fun hj1=>?_))))
 ·exact Z8 (Zp (.b ((decide (low<=n))&&(decide (n<=high)))) (lb (by rw [Wp];simp)))
 refine Z1 4 (ib (b:=(decide (low<=n))) 10 (fun Zc=>?_) (fun Zc=>?_))
 ·have Yd:low<=n:=(dq).1 Zc
  exact Z1 4 (Ye (wk [] (Zq (decide (n<=high)) Zc fl)) hj1)
 have YX:¬(low<=n):=Y3 dq Zc
 exact Z1 4 (Ye (wk [] (Zq false Zc fl)) hj1)
theorem Lf (xs:LI) (n:Int) (hlen:xs.length<=4294967296:=by exact ob):Za 198 [Ze xs,.i n] [] (ZQ (.b (decide (n∈xs)))):=by
 refine Zx 18 Tryz.func198 (Zh (Ym (ab 0 (ZU (fun fz gz m F h=>∃(k:Nat),(k<=xs.length)/\(n∉xs.take k)/\F=sF [0,1] fz [(5,.i k)]/\h=gz/\m=xs.length-k) _ _ _ ⟨0,ob,ob,rfl,rfl,rfl⟩ (wk [] (ZW fl)) ?_))))
 rintro m F h ⟨k,Y0,Z9,rfl,rfl,rfl⟩
 refine Yb 2 (iw (Yn xs) (ZO ((k:Int)<(xs.length:Int)) (fun Z5=>?_) (fun Z5=>?_)))
 ·refine ak (aq (ab 1 (ZM 2 ?_)))
  obtain ⟨x1,Z2⟩:=Zv xs k om
  refine Zi (Zr none (k:Int) 1 (Yf Z2)) (Yw (x1==n) Zs (fun Zd=>?_) (fun Zd=>?_))
  ·exact ar (Z8 (Zp (.b true) (lb (by rw [eq_comm,dq];exact Z9e Z2 Zd))))
  exact ak (az (Z1 1 (ZK k (Z0 (ZJ ⟨k+1,ob,(Z9m Z9 Z2 Zd),rfl,rfl,rfl⟩ (wk [] (ZL k fl)))))))
 refine ax 0 (Zh ?_)
 have hke:k=xs.length:=by omega
 exact ZG (Zp (.b false) (lb (by rw [eq_comm,decide_eq_false_iff_not];rw [hke,Kx] at Z9;exact Z9)))
theorem AF (xs:LI) (hlen:xs.length<=4294967296:=by exact ob):Za 115 [Ze xs] [] (fun r h=>∃(v:Value),r=ZY xs v/\h=[.tail v 1]):=by
 exact Zx 6 Tryz.func115 (Zh (ar (iL (Zk []) 0 1 fun v1=>Z1 1 (ip 0 (Zk xs) (Zk []) (Zk xs) v1 none 1 (Wv _) (Wv _) (Q3 _) (by simp<;>omega) (by simp [Zk]) fun v2=>Z8 (r1 [0] ⟨v2,rfl,rfl⟩)))))
theorem Le (ds:List Zg) (n:Nat) (hd:Wk ds:=by exact ob) (hn:n<=ds.length:=by exact ob):Za 220 [ZI ds,.i n] [] (ZQ (.i ((Yk (ds.take n):Nat):Int))):=by
 refine Zx 21 Tryz.func220 (Zh (Zh (Ym (ab 0 (ZU (fun fz gz m F h=>∃(k:Nat),(k<=n)/\F=sF [0,1] fz [(5,.i ((Yk (ds.take k):Nat):Int)),(6,.i k)]/\h=gz/\m=n-k) _ _ _ ⟨0,ob,rfl,rfl,rfl⟩ (wk [] (ZW (ZW fl))) ?_)))))
 rintro m F h ⟨k,Y0,rfl,rfl,rfl⟩
 refine Yt (ZO ((k:Int)<(n:Int)) (fun Z5=>?_) (fun Z5=>?_))
 ·refine ak (aq (ab 1 (az (Z1 3 ?_))))
  obtain ⟨x1,Z2⟩:=Zv ds k om
  refine Zi (Zr none (k:Int) 3 (Vm Z2)) (Z1 2 (iw (Vl x1.cons) (ia ((((Yk (ds.take k))+x1.cons.length:Nat):Int)) ((((Yk (ds.take k):Nat):Int))+((x1.cons.length:Int))) (hb:=(by have h1:=hd.cons_at Z2;have h2:=(hd.take k).sum;omega)) (Z0 (az (Z1 1 (ZK k (hb:=(by have:=hd.len;omega)) (Z0 ?_))))))))
  have hsn:Yk (ds.take (k+1))=Yk (ds.take k)+x1.cons.length:=by rw [WU Z2,CF];simp [Yk]
  exact ZJ ⟨k+1,ob,rfl,rfl,rfl⟩ (wk [] (fc (x:=.i (((Yk (ds.take k))+x1.cons.length:Nat):Int)) li (ZL k fl)))
 refine ax 0 (Zh ?_)
 have hke:k=n:=by omega
 subst hke
 exact ZG (Zp (.i ((Yk (ds.take k):Nat):Int)) li)
theorem Ld (ds:List Zg) (c:Int) (hd:Wk ds:=by exact ob):Za 188 [ZI ds,.i c] [] (ZQ (.i (XN ds c))):=by
 refine Zx 30 Tryz.func188 (Zh (Ym (ab 0 (ZU (fun fz gz m F h=>∃(k:Nat),(k<=ds.length)/\((US c (ds.drop k) k (Yk (ds.take k))).1=XN ds c)/\F=sF [0,1] fz [(5,.i k)]/\h=gz/\m=ds.length-k) _ _ _ ⟨0,ob,(by rfl),rfl,rfl,rfl⟩ (wk [] (ZW fl)) ?_))))
 rintro m F h ⟨k,Y0,Z9,rfl,rfl,rfl⟩
 refine Yb 2 (iw (VB ds) (ZO ((k:Int)<(ds.length:Int)) (fun Z5=>?_) (fun Z5=>?_)))
 ·refine ak (aq (ab 1 (ZM 2 (ZC [] (Le ds k) (Z0 (ZM 5 ?_))))))
  obtain ⟨x1,Z2⟩:=Zv ds k om
  refine Zi (Zr none (k:Int) 3 (Vm Z2)) (Z1 2 (iw (Vl x1.cons) (ia ((((Yk (ds.take k))+x1.cons.length:Nat):Int)) ((((Yk (ds.take k):Nat):Int))+((x1.cons.length:Int))) (hb:=(by have h1:=hd.cons_at Z2;have h2:=(hd.take k).sum;omega)) (ia (((((Yk (ds.take k))+x1.cons.length:Nat):Int)-1)) (((((Yk (ds.take k))+x1.cons.length:Nat):Int))-(1)) (hb:=(by have h1:=hd.cons_at Z2;have h2:=(hd.take k).sum;omega)) (ZC [] (Tl c ((Yk (ds.take k):Nat):Int) ((((Yk (ds.take k))+x1.cons.length:Nat):Int)-1)) (ie (Xi (((Yk (ds.take k):Nat):Int)<=c/\c<=((((Yk (ds.take k))+x1.cons.length:Nat):Int)-1)) (fun Zd=>?_) (fun Zd=>?_))))))))
  ·exact ZM 1 (ZK k (hb:=(by have h2:=hd.len;omega)) (Z8 (Zp (.i (k+1:Nat)) (li (by rw [<-Z9,ZH Z2,US,Z6 Zd];rfl)))))
  refine ak (az (Z1 1 (ZK k (hb:=(by have h2:=hd.len;omega)) (Z0 ?_))))
  have hdr:=ZH Z2
  exact ZJ ⟨k+1,ob,(by rw [hdr] at Z9;rw [<-Z9,US,Z4 Zd,WU Z2,CF];rfl),rfl,rfl,rfl⟩ (wk [] (ZL k fl))
 exact ax 0 (ar (Z8 (Zp (.i (-1)) (li (by rw [<-Z9,YV om];rfl)))))
theorem FC (ds:List Zg) (c:Int) (hd:Wk ds:=by exact ob):Za 172 [ZI ds,.i c] [] (ZQ (Ze (Y1 ds c))):=by
 refine Zx 27 Tryz.func172 (Zh (ZM 2 (ZC [] (Ld ds c) (Z0 (Yt (ZO ((XN ds c)<1) (fun Z5=>?_) (fun Z5=>?_)))))))
 ·exact ar (iL (Zk []) 0 1 fun v1=>Z8 (Zp (ZY [] v1) (Zm.sl _ (Ys Zk (by rw [(Ed Z5).1])))))
 obtain ⟨k,d,x,hk1,hk2,hk3,hk4,hk5⟩:=GV Z5
 have hkl:=(W5.1 hk1).1
 have hxl:=(W5.1 hk3).1
 have hsm:=(hd.take k).sum
 have hdl:=hd.cons_at hk1
 have hdn:=hd.len
 refine ak (aD 16 (Zo 14 16 [0,1] (da 2 ((k:Int)) ((XN ds c)-(1)) (hb:=(by have:=hd.len;omega)) ?_)))
 obtain ⟨x1,Z2⟩:=Zv ds k om
 have hxe:x1=d:=by rw [hk1] at Z2;exact (Tn Z2).symm
 subst hxe
 refine dx 3 (Zr none (k:Int) 3 (Vm Z2)) (Zo 7 12 [4,5,6,7,8] (da 9 ((k:Int)) ((XN ds c)-(1)) (hb:=(by have:=hd.len;omega)) (ZF 10 (W4 10 [] [] [] (Le ds k) (da 11 ((c-((Yk (ds.take k):Nat):Int))) ((c)-(((Yk (ds.take k):Nat):Int))) ?_)))))
 obtain ⟨x2,Zt⟩:=Zv x1.cons ((c-((Yk (ds.take k):Nat):Int)).toNat) om
 have hxe:x2=x:=by rw [show (c - ↑(Yk (ds.take k))).toNat=(c-Yk (ds.take k)).toNat from rfl,hk3] at Zt;exact (Tn Zt).symm
 subst hxe
 exact dx 12 (Zr none (c-((Yk (ds.take k):Nat):Int)) 1 (KF Zt)) (Zo 0 3 [13,14,15] (de (ZG (Zp (Ze x2.fields) (Zm.sl _ (Ys Zk hk5.symm))))))
theorem RR (ds:List Zg) (t:Int) (hd:Wk ds:=by exact ob):Za 190 [ZI ds,.i t] [] (fun r h=>∃(v:Value),r=ZY (YB ds t) v/\h=[.tail v 1]):=by
 have hdn:=hd.len
 refine Zx 35 Tryz.func190 (Zh (ar (iL (Zk []) 0 1 fun v1=>Z0 (Yb 2 (iw (VB ds) (ZC [] (Tl t 1 (ds.length:Int)) (Yw (!(decide (1<=t/\t<=(ds.length:Int)))) (p:=¬(1<=t/\t<=(ds.length:Int))) (Yl dq) (fun Z5=>?_) (fun Z5=>?_))))))))
 ·exact ar (Z8 (r2 [0] [ZY [] v1] ⟨v1,rfl,rfl⟩ (Zm.slh _ (Ys Zk (by simp [YB];omega)))))
 have Z5:1<=t/\t<=ds.length:=by simpa using Z5
 obtain ⟨d,hd1⟩:=Zv ds ((t-1).toNat) om
 have hdc:=hd.cons_at hd1
 have hsm:=(hd.take (t-1).toNat).sum
 refine ak (Ym (ab 0 (ZU (fun fz gz m F h=>∃(k:Nat) (v:Value),(k<=d.cons.length)/\F=sF [0,1] fz [(5,ZY (Vh (Yk (ds.take (t-1).toNat)) k) v),(6,.i k)]/\h=[.tail v 1]/\m=d.cons.length-k) _ _ _ ⟨0,v1,(by first|omega|rfl|(simp<;>omega)|grind [YB,Vh]),rfl,rfl,rfl⟩ (wk [0] (fc (x:=ZY [] v1) (Zm.slh _ (Ys Zk (by first|omega|rfl|(simp<;>omega)|grind [YB,Vh]))) (fc (x:=.i 0) (li (by first|omega|rfl|(simp<;>omega)|grind [YB,Vh])) fl))) ?_)))
 rintro m F h ⟨k,v,Y0,rfl,rfl,rfl⟩
 refine Yb 3 (ia ((((t-1).toNat:Nat):Int)) ((t)-(1)) (Zi (Zr none (((t-1).toNat:Nat):Int) 3 (Vm hd1)) (Z1 2 (iw (Vl d.cons) (ZO ((k:Int)<(d.cons.length:Int)) (fun Zd=>?_) (fun Zd=>?_))))))
 ·exact ak (aq (ab 1 (az (Z1 3 (ia ((((t-1).toNat:Nat):Int)) ((t)-(1)) (ZC [] (Le ds ((t-1).toNat) (hd:=(by first|omega|rfl|(simp<;>omega)|grind [YB,Vh])) (hn:=(by first|omega|rfl|(simp<;>omega)|grind [YB,Vh]))) (Z1 1 (ia ((((Yk (ds.take ((t-1).toNat)))+k:Nat):Int)) ((((Yk (ds.take ((t-1).toNat)):Nat):Int))+((k:Int))) (iL (Zk [(((Yk (ds.take ((t-1).toNat)))+k:Nat):Int)]) 1 1 fun v2=>W2 0 [(32,Ze [(((Yk (ds.take ((t-1).toNat)))+k:Nat):Int)])] (ip 1 (Zk (Vh (Yk (ds.take (t-1).toNat)) k++[(((Yk (ds.take ((t-1).toNat)))+k:Nat):Int)])) (Zk (Vh (Yk (ds.take (t-1).toNat)) k)) (Zk [(((Yk (ds.take ((t-1).toNat)))+k:Nat):Int)]) v none 1 (Wv _) (Wv _) (Q3 _) (by simp<;>omega) (by simp [Q2,Zk]) fun v3=>Z0 (az (Z1 1 (ZK k (Z0 (⟨_,_,_,(by first|omega|rfl|(simp<;>omega)|grind [YB,Vh]),⟨k+1,v3,(by first|omega|rfl|(simp<;>omega)|grind [YB,Vh]),rfl,rfl,rfl⟩,(wk [0] (fc (x:=ZY (Vh (Yk (ds.take (t-1).toNat)) k++[(((Yk (ds.take ((t-1).toNat)))+k:Nat):Int)]) v3) (Zm.slh _ (Ys Zk (Pw _ _).symm)) (fc (x:=.i (k+1:Nat)) (li (by first|omega|rfl|(simp<;>omega)|grind [YB,Vh])) fl)))⟩)))))))))))))))
 exact ax 0 (ar (Z8 (r2 [0] [ZY (Vh (Yk (ds.take (t-1).toNat)) k) v] ⟨v,rfl,rfl⟩ (Zm.slh _ (Ys Zk (by rw [YB,Z6 Z5,hd1,show k=d.cons.length by omega];rfl))))))
theorem Zci (ds:List Zg) (frm:Int) (to_:Int) (hl_ds:ds.length<=4294967296:=by exact ob):Za 281 [ZI ds,.i frm,.i to_] [] (ZQ (.i (Tf ds frm to_))):=by
 refine Zx 41 Tryz.func281 (Zh (Ym (ab 0 (ZU (fun fz gz m F h=>∃(k:Nat),(k<=ds.length)/\(QH frm to_ (ds.drop k) k=Tf ds frm to_)/\F=sF [0,1,2] fz [(7,.i k)]/\h=gz/\m=ds.length-k) _ _ _ ⟨0,ob,ob,rfl,rfl,rfl⟩ (wk [] (ZW fl)) ?_))))
 rintro m F h ⟨k,Y0,Z9,rfl,rfl,rfl⟩
 refine Yb 2 (iw (VB ds) (ZO ((k:Int)<(ds.length:Int)) (fun Z5=>?_) (fun Z5=>?_)))
 ·refine ak (aq (ab 1 (ZM 2 ?_)))
  obtain ⟨x1,Z2⟩:=Zv ds k om
  refine Zi (Zr none (k:Int) 3 (Vm Z2)) (Z1 2 (iw (Vl x1.cons) (XC 16 [0,1,2,7] [(29,.b (((x1.cons.length:Int)==0)&&(x1.frm==frm)))] (fun gz=>gz) ?_ (fun hj1=>?_))))
  ·refine Wa [0,1,2,7] [(38,.b ((((x1.cons.length:Int)==0)&&(x1.frm==frm))&&(x1.to_==to_)))] (fun gz=>gz) ?_ ?_
   ·refine Z1 1 (ib (b:=(((x1.cons.length:Int)==0)&&(x1.frm==frm))) 30 (fun Zc=>?_) (fun Zc=>?_))
    ·have Yd:((x1.cons.length:Int)=0)/\(x1.frm=frm):=((YD Zs Zs)).1 Zc
     exact Z1 2 (Zi (Zr none (k:Int) 3 (Vm Z2)) (Z0 (wk [] (Zq (x1.to_==to_) Zc fl))))
    have YX:¬(((x1.cons.length:Int)=0)/\(x1.frm=frm)):=Y3 (YD Zs Zs) Zc
    exact Z0 (wk [] (Zq false Zc fl))
   refine ac ((((x1.cons.length:Int)==0)&&(x1.frm==frm))&&(x1.to_==to_)) (p:=(((x1.cons.length:Int)=0)/\(x1.frm=frm))/\(x1.to_=to_)) (YD (YD Zs Zs) Zs) (fun Zd=>?_) (fun Zd=>?_)
   ·refine ZM 1 (ZK k (Z0 ?_))
    rw [ZH Z2] at Z9
    exact ZG (Zp (.i (k+1:Nat)) (li (by clear Z2;first|rfl|omega|grind [QH])))
   refine ak (az (Z1 1 (ZK k (Z0 ?_))))
   have hdr:=ZH Z2
   exact ZJ ⟨k+1,ob,(by rw [hdr] at Z9;clear hdr Z2;grind [QH]),rfl,rfl,rfl⟩ (wk [] (ZL k fl))
  refine Z1 2 (ib (b:=((x1.cons.length:Int)==0)) 21 (fun ZD=>?_) (fun ZD=>?_))
  ·have XB:(x1.cons.length:Int)=0:=(Zs).1 ZD
   exact Z1 2 (Zi (Zr none (k:Int) 3 (Vm Z2)) (Z1 5 (Ye (wk [] (Zq (x1.frm==frm) ZD fl)) hj1)))
  have XH:¬((x1.cons.length:Int)=0):=Y3 Zs ZD
  exact Z1 8 (Ye (wk [] (Zq false ZD fl)) hj1)
 refine ax 0 (Zh ?_)
 try rw [YV (xs:=ds) (k:=k) om] at Z9
 exact ZG (Zp (.i (-1)) (li (by first|rfl|omega|grind [QH])))
theorem RU (ds:List Zg) (t:Int) (hd:Wk ds:=by exact ob):Za 235 [ZI ds,.i t] [] (ZQ (.b (XO ds t))):=by
 have hdn:=hd.len
 refine Zx 19 Tryz.func235 (Zh (ZM 2 (iw (VB ds) (ZC [] (Tl t 1 (ds.length:Int)) (Z1 1 (ib (b:=(decide (1<=t/\t<=(ds.length:Int)))) 9 (fun Zc=>?_) (fun Zc=>?_)))))))
 ·have Yd:1<=t/\t<=(ds.length:Int):=(dq).1 Zc
  refine Z1 2 (ia ((t-1)) ((t)-(1)) ?_)
  obtain ⟨x1,Z2⟩:=Zv ds ((t-1).toNat) om
  exact Zi (Zr none (t-1) 3 (Vm Z2)) (Z1 2 (iw (Vl x1.cons) (Z8 (Zp (.b ((x1.cons.length:Int)==0)) (lb (by first|omega|rfl|(rw [ET Yd Z2])|exact HP YX))))))
 have YX:¬(1<=t/\t<=(ds.length:Int)):=Y3 dq Zc
 exact Z8 (Zp (.b false) (lb (by first|omega|rfl|(rw [ET Yd Z2])|exact HP YX)))
theorem Zct (xs:LI) (ys:LI) (hl:xs.length+ys.length<=4294967296:=by exact ob):Za 170 [Ze xs,Ze ys] [] (fun r h=>∃(v:Value),r=ZY (xs++ys) v/\h=[.tail v 1]):=by
 refine Zx 9 Tryz.func170 (Zh (ZM 1 (ic [] (AF xs) ?_)))
 rintro _ _ ⟨v1,rfl,rfl⟩
 exact Z1 1 (ip 0 (Zk (xs++ys)) (Zk xs) (Zk ys) v1 none 1 (Wv _) (Wv _) (Q3 _) (by simp<;>omega) (by simp [Q2,Zk]) fun v2=>Z8 (r1 [0] ⟨v2,rfl,rfl⟩))
theorem RO (ds:List Zg) (xs:LI) (hl_ds:ds.length<=4294967296:=by exact ob) (hl_xs:xs.length<=4294967296:=by exact ob):Za 127 [ZI ds,Ze xs] [] (ZQ (.b (XT ds.length xs))):=by
 refine Zx 20 Tryz.func127 (Zh (Ym (ab 0 (ZU (fun fz gz m F h=>∃(k:Nat),(k<=xs.length)/\(XT ds.length (xs.drop k)=XT ds.length xs)/\F=sF [0,1] fz [(5,.i k)]/\h=gz/\m=xs.length-k) _ _ _ ⟨0,ob,ob,rfl,rfl,rfl⟩ (wk [] (ZW fl)) ?_))))
 rintro m F h ⟨k,Y0,Z9,rfl,rfl,rfl⟩
 refine Yb 2 (iw (Yn xs) (ZO ((k:Int)<(xs.length:Int)) (fun Z5=>?_) (fun Z5=>?_)))
 ·refine ak (aq (ab 1 (ZM 2 ?_)))
  obtain ⟨x1,Z2⟩:=Zv xs k om
  refine Zi (Zr none (k:Int) 1 (Yf Z2)) (Z1 2 (iw (VB ds) (ZC [] (Tl x1 0 (ds.length:Int)) (Yw (!(decide (0<=x1/\x1<=(ds.length:Int)))) (p:=¬(0<=x1/\x1<=(ds.length:Int))) (Yl dq) (fun Zd=>?_) (fun Zd=>?_)))))
  ·refine Zh ?_
   rw [ZH Z2] at Z9
   exact ZG (Zp (.b false) (lb (by clear Z2;first|rfl|omega|grind [XT])))
  refine ak (az (Z1 1 (ZK k (Z0 ?_))))
  have hdr:=ZH Z2
  exact ZJ ⟨k+1,ob,(by rw [hdr] at Z9;clear hdr Z2;grind [XT]),rfl,rfl,rfl⟩ (wk [] (ZL k fl))
 refine ax 0 (Zh ?_)
 try rw [YV (xs:=xs) (k:=k) om] at Z9
 exact ZG (Zp (.b true) (lb (by first|rfl|omega|grind [XT])))
end Go.Abs
