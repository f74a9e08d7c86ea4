/-
  A part of the proof of FnOwnedAfterStepUptoSaid (see the last file): no condition.
-/
import Derived.Test.YtjmahledcmocoaaGreatOasA
import Derived.Test.YtjmahledcmocoaaGreatRows
import Derived.Deep.Slices
import Derived.ChangeArms
set_option linter.all false
set_option linter.unusedVariables false
set_option linter.unusedSimpArgs false
set_option linter.unusedSectionVars false
set_option maxRecDepth 10000
set_option maxHeartbeats 4000000
namespace Go.Abs
theorem Jo.mono {w:World} {G G':Y9} {v:Value} {k:Nat} {ls:List AV} (hA:VR G w w G') (h:Jo w G v k ls):Jo w G' v k ls:=by
 rcases h with ⟨rfl,h0⟩|⟨g,len,cap,cur,el,rfl,h1,h2,h3,h4,h5⟩
 ·exact .inl ⟨rfl,h0⟩
 ·exact .inr ⟨g,len,cap,cur,el,rfl,h1,h2,h3,h4,h5.mono hA⟩
theorem TY.same {w:World} {G G':Y9} {r:Res} (hA:VR G w w G') (h:TY w G r):TY w G' r:=by
 cases r with
 | obj b ls=>obtain ⟨cs,e,h1,h2⟩:=h;exact ⟨cs,e,h1,h2.mono hA⟩
 | tail v k=>exact h
 | ge s=>exact h
 | vec v ls=>
  rcases h with ⟨rfl,h0⟩|⟨g,cap,cur,el,rfl,h1,h2,h3,h4⟩
  ·exact .inl ⟨rfl,h0⟩
  ·exact .inr ⟨g,cap,cur,el,rfl,h1,h2,h3,h4.mono hA⟩
 | many ts=>exact h
 | own B m=>exact h
 | row v k ls=>exact h.mono hA
theorem Yt.alloc_rrow {w:World} {G:Y9} {h:List Res} (hh:Yt w G h) (cs:Array Value) (t:TypeId) {ls:List AV} {len cap k:Nat} (hcap:len<=cap) (Xm:cs.size=cap*k) (hl:ls.length=len*k)
  (hls:YQ w G ls (cs.toList.take (len*k))) :
  Yt (w.alloc (.cells cs t)) G (.row (.slice (some ⟨w.heap.size,0,none⟩) len cap) k ls::h)/\YV w G h (w.alloc (.cells cs t)) G (.row (.slice (some ⟨w.heap.size,0,none⟩) len cap) k ls::h):=by
 have hA:VR G w (w.alloc (.cells cs t)) G:=⟨fun b j hg=>Du w _ (hh.lt b j hg),fun _ _ h=>h⟩
 refine hh.alloc (.cells cs t) (h':=[.row (.slice (some ⟨w.heap.size,0,none⟩) len cap) k ls]) (fun _ _ h=>h) (fun _ _ h=>.inl h) ?_ ?_ (Bq _ _) ?_
 ·intro r hr
  rw [XC.1 hr]
  exact .inr ⟨_,len,cap,cs,t,rfl,CG w _,hcap,Xm,hl,hls.mono hA⟩
 ·intro r hr b j hf
  rw [XC.1 hr] at hf
  exact hf
 ·intro r hr b j hf hg
  rw [XC.1 hr] at hf
  have:=hh.lt b j hg
  have:b=w.heap.size:=hf
  omega
theorem Yt.rwrite {w:World} {G:Y9} {h2:List Res} {g len cap k:Nat} {ls ls':List AV} (hh:Yt w G (.row (.slice (some ⟨g,0,none⟩) len cap) k ls::h2)) {cs cs':Array Value} {e:TypeId}
  (hb:w.heap[g]? = some (.cells cs e (0,0))) (Xm:cs'.size=cs.size) (hle:len<=cap) (hcap:cs.size=cap*k) (hl:ls'.length=len*k) (hls:YQ w G ls' (cs'.toList.take (len*k))) :
  Yt (w.setRow g cs') G (.row (.slice (some ⟨g,0,none⟩) len cap) k ls'::h2) /\
   YV w G (.row (.slice (some ⟨g,0,none⟩) len cap) k ls::h2) (w.setRow g cs') G (.row (.slice (some ⟨g,0,none⟩) len cap) k ls'::h2):=by
 have hmem:Res.row (.slice (some ⟨g,0,none⟩) len cap) k ls∈Res.row (.slice (some ⟨g,0,none⟩) len cap) k ls::h2:=Xh ..
 have hA:VR G w (w.setRow g cs') G:=⟨fun c j hg=>by
  have hne:c≠g:=fun he=>hh.prot _ hmem c j he hg
  simp [World.cell?,VP w g c cs' hne],fun _ _ h=>h⟩
 have hpw:=WQ.1 hh.apart
 have hother:∀r∈h2,∀c j,r.fp c j->c≠g:=fun r hr c j hf hc=>hpw.1 r hr c j hc hf
 have e1:YV w G [.row (.slice (some ⟨g,0,none⟩) len cap) k ls] (w.setRow g cs') G [.row (.slice (some ⟨g,0,none⟩) len cap) k ls']:=by
  refine ⟨rfl,rfl,rfl,by simp [World.setRow],fun _ _ h=>h,?_,fun _ _ _ h=>.inl h,?_⟩
  ·intro c hc
   by_cases hcb:c=g
   ·subst hcb
    exact .inr ⟨cs,cs',e,(0,0),hb,setRow_heap w c cs cs' e (0,0) hb,Xm,fun j hj=>absurd ⟨_,Xh ..,rfl⟩ hj⟩
   ·exact .inl (VP w g c cs' hcb)
  ·rintro c j _ ⟨r,hr,hf⟩
   rw [XC.1 hr] at hf
   exact ⟨_,Xh ..,hf⟩
 have e2:Yt (w.setRow g cs') G [.row (.slice (some ⟨g,0,none⟩) len cap) k ls']:=by
  refine ⟨fun r hr=>?_,Bq _ _,fun r hr c j hf hg=>?_,fun c j hg=>?_⟩
  ·rw [XC.1 hr]
   exact .inr ⟨g,len,cap,cs',e,rfl,setRow_heap w g cs cs' e (0,0) hb,hle,Xm.trans hcap,hl,hls.mono hA⟩
  ·rw [XC.1 hr] at hf
   exact hh.prot _ hmem c j hf hg
  ·have:=hh.lt c j hg
   simpa [World.setRow] using this
 exact Yt.frame (h:=[.row (.slice (some ⟨g,0,none⟩) len cap) k ls]) (k:=h2) hh e1 e2
theorem Zb4 {w:World} {G:Y9} {h:List Res} {k:Nat} (hh:Yt w G h):Yt w G (.row (.slice none 0 0) k []::h)/\YV w G h w G (.row (.slice none 0 0) k []::h):=
 ⟨⟨fun r hr=>by
   rcases YD.1 hr with rfl|hr
   ·exact .inl ⟨rfl,rfl⟩
   ·exact hh.ok r hr,WQ.2 ⟨fun _ _ _ _ hf=>hf.elim,hh.apart⟩,fun r hr b o hf hg=>by
   rcases YD.1 hr with rfl|hr
   ·exact hf.elim
   ·exact hh.prot r hr b o hf hg,hh.lt⟩,
  ⟨rfl,rfl,rfl,X5 _,fun _ _ h=>h,fun _ _=>.inl rfl,fun _ _ _ h=>.inl h,fun b o _ ⟨r,hr,hf⟩=>by
   rcases YD.1 hr with rfl|hr
   ·exact hf.elim
   ·exact ⟨r,hr,hf⟩⟩⟩
theorem Jo.form {w:World} {G:Y9} {v:Value} {k:Nat} {ls:List AV} (h:Jo w G v k ls):∃a len cap,v=.slice a len cap/\ls.length=len*k:=by
 rcases h with ⟨rfl,rfl⟩|⟨g,len,cap,cur,e,rfl,_,_,_,h4,_⟩
 ·exact ⟨none,0,0,rfl,by simp⟩
 ·exact ⟨_,len,cap,rfl,h4⟩
theorem C4 {w:World} {G:Y9} {v:Value} {k:Nat} {es:List AV} {h2:List Res} (hh:Yt w G (.row v k (Zo es)::h2)) (hes:∀y∈es,y.leaves.length=k) (hk:0<k) :
  ∃G',Yt w G' (.tail v k::h2)/\YV w G (.row v k (Zo es)::h2) w G' (.tail v k::h2)/\RV w G' (.sl es (some v)) v:=by
 have hpw:=WQ.1 hh.apart
 have hfl:=TD es hes
 rcases hh.ok _ (Xh ..) with ⟨rfl,h0⟩|⟨g,len,cap,cur,e,rfl,h1,h3,h4,h5,h6⟩
 ·have hes0:es=[]:=by
   cases es with
   | nil=>rfl
   | cons y r=>
    have h7:0<(r.length+1)*k:=Nat.mul_pos om hk
    rw [h0,YR] at hfl
    rw [<-hfl] at h7
    simp at h7
  subst hes0
  obtain ⟨k1,k2⟩:=LO (sz:=k) (hh.sub (Br _ _))
  refine ⟨G,k1,⟨rfl,rfl,rfl,X5 _,fun _ _ h=>h,fun _ _=>.inl rfl,fun _ _ _ h=>.inl h,?_⟩,.nil (by simp)⟩
  rintro b o _ ⟨r,hr,hf⟩
  rcases YD.1 hr with rfl|hr
  ·exact hf.elim
  ·exact ⟨r,XB _ hr,hf⟩
 ·have hlen:len=es.length:=GY hk (h5.symm.trans hfl)
  subst hlen
  let G':Y9:=fun b o=>G b o∨(b=g/\o<es.length*k)
  have hA:VR G w w G':=⟨fun _ _ _=>rfl,fun _ _ h=>.inl h⟩
  have hmem:Res.row (.slice (some ⟨g,0,none⟩) es.length cap) k (Zo es)∈Res.row (.slice (some ⟨g,0,none⟩) es.length cap) k (Zo es)::h2:=Xh ..
  refine ⟨G',⟨fun r hr=>?_,WQ.2 ⟨fun r hr b o f1 f2=>hpw.1 r hr b o f1.1 f2,hpw.2⟩,fun r hr b o hf hg=>?_,fun b o hg=>?_⟩,
   ⟨rfl,rfl,rfl,X5 _,fun _ _ h=>.inl h,fun _ _=>.inl rfl,fun b o _ hg=>hg.imp id fun ⟨e1,_⟩=>⟨_,hmem,e1⟩,?_⟩,?_⟩
  ·rcases YD.1 hr with rfl|hr
   ·exact .inr ⟨g,es.length,cap,cur,e,rfl,h1,h3,h4⟩
   ·exact (hh.ok r (XB _ hr)).same hA
  ·rcases YD.1 hr with rfl|hr2
   ·obtain ⟨hbg,hf2⟩:=hf
    rcases hg with hg|⟨_,hg⟩
    ·exact hh.prot _ hmem b o hbg hg
    ·omega
   ·rcases hg with hg|⟨hbg,_⟩
    ·exact hh.prot r (XB _ hr2) b o hf hg
    ·exact hpw.1 r hr2 b o hbg hf
  ·rcases hg with hg|⟨rfl,_⟩
   ·exact hh.lt b o hg
   ·exact (UM.1 h1).1
  ·rintro b o _ ⟨r,hr,hf⟩
   rcases YD.1 hr with rfl|hr
   ·exact ⟨_,hmem,hf.1⟩
   ·exact ⟨r,XB _ hr,hf⟩
  ·refine .sl (k:=k) (fun x hx=>by cases hx;rfl) h3 (Vd.of_flat es hes (Wr.of_cells (h6.mono hA) fun j u hj=>?_))
   have hjl:j<es.length*k:=by
    have:=(Xp.1 hj).1
    have h7:=h6.length
    omega
   rw [TI,Ze hjl] at hj
   refine ⟨?_,.inr ⟨rfl,by omega⟩⟩
   rw [Vc,cell_of_row w g j cur e (0,0) h1]
   simpa using hj
section
variable {P:Program} {n:Nat} {ops:Array Oper} {B:Fr->List Res->Prop} {k:Nat} {F:Fr} {h h2:List Res}
theorem S4 {k:Nat}:Tm h (.row (.slice none 0 0) k []::h):=fun _ _ hh=>let ⟨a,b⟩:=Zb4 hh;⟨_,a,b⟩
theorem Zdt (j:Nat) {v:Value} {kk m:Nat} {ls:List AV} (hl:CQ P ops F k=some (.val v)) (hj:h[j]? = some (.row v kk ls)) (hm:ls.length=m*kk) (hk:0<kk):Xw P (ZB ops k) F h [] (.val (.int .i64 m)):=by
 unfold CQ at hl
 generalize hoo:ZB ops k=o at hl
 obtain ⟨dst,op,type,pos,after,guard⟩:=o
 cases op<;>simp only at hl<;>try (cases hl)
 rename_i c
 obtain ⟨callee,args,tys⟩:=c
 simp only at hl
 split at hl
 ·rename_i x t hargs htys
  split at hl
  ·rename_i el hu
   simp only [Wg] at hl
   intro n w G a hF hh
   have hv:=hF.ev x
   rw [hl] at hv
   have hv:=hv.val_inv
   obtain ⟨ad,len,cap,rfl,hlen⟩:=Jo.form (hh.ok _ (Y2 hj))
   have:len=m:=GY hk (hlen.symm.trans hm)
   subst this
   have e1:args=#[x]:=by rw [<-U3 (xs:=args),hargs]
   have e2:tys=#[t]:=by rw [<-U3 (xs:=tys),htys]
   subst e1;subst e2
   exact ⟨_,.val,fun w' _ _=>by simp [execOp,resolve,invoke,builtin,hv,Builtin.len_,VJ hu,goInt]⟩
  ·cases hl
 ·cases hl
def II (ops:Array Oper) (F:Fr) (k:Nat):Option (TypeId × AV):=
 match (ZB ops k).op with
 | .load t x=>some (t,F.ev x)
 | _=>none
theorem Zdu (j:Nat) {g len cap kk o:Nat} {ls zs:List AV} {t:TypeId} {y:AV} (hl:II ops F k=some (t,.val (.pointer (some ⟨g,o,none⟩)))) (hj:h[j]? = some (.row (.slice (some ⟨g,0,none⟩) len cap) kk ls))
  (hz:(ls.drop o).take zs.length=zs) (hy:Ah P t zs=some y):Xw P (ZB ops k) F h [g] y:=by
 unfold II at hl
 generalize hoo:ZB ops k=q at hl
 obtain ⟨dst,op,type,pos,after,guard⟩:=q
 cases op<;>simp only at hl<;>try (cases hl)
 rename_i t' x
 intro n w G a hF hh
 simp only [Wg,Prod.mk.injEq] at hl
 obtain ⟨rfl,hl⟩:=hl
 have hv:=hF.ev x
 rw [hl] at hv
 have hv:=hv.val_inv
 rcases hh.ok _ (Y2 hj) with ⟨h0,_⟩|⟨g',len',cap',cur,e,h0,h1,h2,h3,h4,h5⟩
 ·cases h0
 ·cases h0
  have hc:=(h5.drop o).take zs.length
  rw [hz] at hc
  obtain ⟨v,j1,j2⟩:=Gl (P:=P) (b:=g) (o:=o) hy hc
  refine ⟨v,j1,fun w' _ hw=>?_⟩
  have hrow:=hw g (by simp)
  rw [h1] at hrow
  simp only [execOp,hv]
  refine Vf ?_
  simp only [Instr.loadAt,Instr.sureAddr,Sem.run_bind,Sem.run_pure,Result.andThen_ok]
  refine j2 w' fun j u hj=>?_
  rw [cell_of_row w' g (o+j) cur e (0,0) hrow]
  rw [TI] at hj
  split at hj
  ·rw [Bm,TI] at hj
   split at hj
   ·simpa using hj
   ·cases hj
  ·cases hj
theorem Pq {K:Fr->List Res->Prop} {g len cap kk:Nat} {ls xs:List AV} {i:Nat} (hs:storeAt P ops F k=some (g,i,xs)) (hlt:i+xs.length<=ls.length)
  (hK:K F (.row (.slice (some ⟨g,0,none⟩) len cap) kk (ls.take i++xs++ls.drop (i+xs.length))::h2)):Wx P n (ZB ops k) F (.row (.slice (some ⟨g,0,none⟩) len cap) kk ls::h2) K:=by
 unfold storeAt at hs
 generalize hoo:ZB ops k=q at hs
 obtain ⟨dst,op,type,pos,after,guard⟩:=q
 cases op<;>simp only at hs<;>try (cases hs)
 rename_i t x z
 split at hs
 ·rename_i b' o' inf hx hi
  split at hs
  ·rename_i hc
   simp only [W7] at hc
   simp only [Wg,Prod.mk.injEq] at hs
   obtain ⟨rfl,rfl,hz⟩:=hs
   intro Q w G a hF hh
   have hvx:=hF.ev x
   rw [hx] at hvx
   have hvx:=hvx.val_inv
   have hvy:=hF.ev z
   have hcs:=hvy.cells hc.2.1
   rw [hz] at hcs hc
   have hone:=hcs.one_cells hc.2.2
   have Xm:inf.size=xs.length:=Uy hc.1
   have hlen:(a.eval z).cells.size=xs.length:=by have:=hcs.length;simpa using this
   rcases hh.ok (.row (.slice (some ⟨b',0,none⟩) len cap) kk ls) (Xh ..) with ⟨h0,_⟩|⟨g',len',cap',cur,e,h0,h1,h2',h3,h4,h5⟩
   ·cases h0
   ·cases h0
    have hlc:len*kk<=cap*kk:=Qu _ h2'
    have hst:=run_storeCells_at P b' o' e (a.eval z).cells.toList 0 cur w h1 (by simp [hlen];omega) hone
    simp only [Cd,Km] at hst
    have hr:(execOp a.eval { dst:=none,op:=.store t x z,type:=type,pos:=pos,after:=after,guard:=guard }).run P w =
      .ok .skip (w.setRow b' (cur.toList.take o'++(a.eval z).cells.toList++cur.toList.drop (o'+(a.eval z).cells.size)).toArray):=by
     simp only [execOp,hvx]
     simp [Instr.storeAt,Instr.sureAddr,storeVar,Qc hi,hlen,Xm,hst]
    unfold Oper.wp
    rw [hr]
    have hcl:(a.eval z).cells.toList.length=xs.length:=by simpa using hlen
    obtain ⟨j1,j2⟩:=hh.rwrite (ls':=ls.take o'++xs++ls.drop (o'+xs.length)) (cs':=(cur.toList.take o'++(a.eval z).cells.toList++cur.toList.drop (o'+(a.eval z).cells.size)).toArray) h1
     (by simp [hlen];omega) h2' h3 (by simp;omega) (by
      rw [Dj,hlen]
      have e1:(cur.toList.take o'++(a.eval z).cells.toList++cur.toList.drop (o'+xs.length)).take (len*kk) =
        (cur.toList.take (len*kk)).take o'++(a.eval z).cells.toList++(cur.toList.take (len*kk)).drop (o'+xs.length):=by
       have q1:(cur.toList.take o'++(a.eval z).cells.toList).length=o'+xs.length:=by simp [hlen];omega
       rw [List.take_append,q1,Vq om,List.take_take,VB om,List.drop_take]
      rw [e1]
      exact ((h5.take o').append hcs).append (h5.drop _))
    refine ⟨F,_,G,hK,?_,j1,j2⟩
    have:=hF.mono (j2.agree hh)
    simpa [Act.put] using this
  ·cases hs
 ·cases hs
theorem Za1 {K:Fr->List Res->Prop} {sz:Nat} (hd:Vt n (ZB ops k)=true) (ha:Tw P ops F k=some ([],0,sz))
  (hK:∀g,K (F.put (ZB ops k).dst (.val (.slice (some ⟨g,0,none⟩) 0 0))) (.row (.slice (some ⟨g,0,none⟩) 0 0) sz []::h)):Wx P n (ZB ops k) F h K:=by
 unfold Tw at ha
 generalize hoo:ZB ops k=q at ha hd hK
 obtain ⟨dst,op,type,pos,after,guard⟩:=q
 cases op<;>simp only at ha<;>try (cases ha)
 rename_i t ln parts
 split at ha
 case h_2=>cases ha
 rename_i e ht
 split at ha
 case h_2=>cases ha
 rename_i i hi
 split at ha
 case h_2=>cases ha
 rename_i hc
 simp only [W7] at hc
 split at ha
 case h_2=>cases ha
 rename_i ls' hf
 simp only [Wg,Prod.mk.injEq] at ha
 obtain ⟨rfl,rfl,Xm⟩:=ha
 intro Q w G a hF hh
 obtain ⟨cs,h1,h2⟩:=Gk hF parts ht hi rfl hc.1 hc.2 hf
 have hr:(execOp a.eval { dst:=dst,op:=.buildSlice t 0 parts,type:=type,pos:=pos,after:=after,guard:=guard }).run P w =
   .ok (.value (.slice (some ⟨w.heap.size,0,none⟩) 0 0)) (w.alloc (.cells cs e)):=by
  simp only [execOp]
  exact Vf h2
 unfold Oper.wp
 rw [hr]
 have hlc:=h1.length
 simp only [Km] at hlc
 obtain ⟨j1,j2⟩:=hh.alloc_rrow cs e (ls:=[]) (len:=0) (cap:=0) (k:=sz) (X5 _) (by simpa using hlc) (by simp) (by simpa using YQ.nil)
 exact ⟨_,_,G,hK _,(hF.mono (j2.agree hh)).put (UQ hd) .val,j1,j2⟩
theorem Z9z {K:Fr->List Res->Prop} {g sz:Nat} {xs:List AV} {hx:Option Value} (hd:Vt n (ZB ops k)=true) (ha:UA P ops F k=some (.val (.slice (some ⟨g,0,none⟩) 0 0),.sl xs hx,sz))
  (hxs:∀y∈xs,y.leaves.length=sz) (hbound:xs.length<=4294967296)
  (hK:∀v:Hd,K (F.put (ZB ops k).dst (.val v.v)) (.row v.v sz (Zo xs)::h2)):Wx P n (ZB ops k) F (.row (.slice (some ⟨g,0,none⟩) 0 0) sz []::h2) K:=by
 unfold UA at ha
 generalize hoo:ZB ops k=o at ha hd hK
 obtain ⟨dst,op,type,pos,after,guard⟩:=o
 cases op<;>simp only at ha<;>try (cases ha)
 rename_i c
 obtain ⟨callee,args,tys⟩:=c
 simp only at ha
 split at ha
 case h_2=>cases ha
 rename_i s x t t' hargs htys
 split at ha
 case h_2=>cases ha
 rename_i e htt ht
 have:=Uy htt
 subst this
 split at ha
 case h_2=>cases ha
 rename_i i hinfo
 split at ha
 case h_2=>cases ha
 rename_i z hz
 split at ha
 case h_2=>cases ha
 rename_i hb
 simp only [W7] at hb
 simp only [Wg,Prod.mk.injEq] at ha
 obtain ⟨h3,h4,hk1⟩:=ha
 have e1:args=#[s,x]:=by rw [<-U3 (xs:=args),hargs]
 have e2:tys=#[t,t]:=by rw [<-U3 (xs:=tys),htys]
 subst e1;subst e2
 have hzs:z.cells.size=sz:=by rw [Uy hb.1,hk1]
 have hby:=V8 hb.2
 intro Q w G a hF hh
 have v1:=hF.ev s
 have v2:=hF.ev x
 rw [h3] at v1
 rw [h4] at v2
 have v1:=v1.val_inv
 have v2:=v2.forget
 have finish:∀(v':Hd) w',(Builtin.append_ #[t,t] type #[.slice (some ⟨g,0,none⟩) 0 0,a.eval x]).run P w=.ok v'.v w'->Yt w' G (.row v'.v sz (Zo xs)::h2) ->
   YV w G (.row (.slice (some ⟨g,0,none⟩) 0 0) sz []::h2) w' G (.row v'.v sz (Zo xs)::h2) ->
   ({ dst:=dst,op:=.call { callee:=.builtin .append,args:=#[s,x],argTypes:=#[t,t] },type:=type,pos:=pos,after:=after,guard:=guard }:Oper).wp P a w
    (fun a' w'=>∃F' h' G',K F' h'/\FR w' G' n F' a'/\Yt w' G' h'/\YV w G (.row (.slice (some ⟨g,0,none⟩) 0 0) sz []::h2) w' G' h') Q:=by
  intro v' w' hr j1 j2
  have hrun:(execOp a.eval { dst:=dst,op:=.call { callee:=.builtin .append,args:=#[s,x],argTypes:=#[t,t] },type:=type,pos:=pos,after:=after,guard:=guard }).run P w=.ok (.value v'.v) w':=by
   simp only [execOp,resolve,invoke,builtin,Sem.run_bind,Sem.run_pure,Result.andThen_ok,Bp,Um,Bo,v1,hr]
  unfold Oper.wp
  rw [hrun]
  exact ⟨_,_,G,hK v',(hF.mono (j2.agree hh)).put (UQ hd) .val,j1,j2⟩
 by_cases hxe:xs=[]
 ·subst hxe
  cases v2q:a.eval x with
  | slice ad' l' c'=>
   rw [v2q] at v2
   cases v2<;>exact finish ⟨some ⟨g,0,none⟩,0,0⟩ _ (by rw [v2q];exact CZ ht hinfo (X5 _) w) hh (YV.refl w G _)
  | _=>rw [v2q] at v2;cases v2
 ·generalize hax:a.eval x=ax at v2 finish
  cases v2 with
  | nil _=>exact absurd rfl hxe
  | sl hq hcc hm=>
   rename_i b o' k' c
   have hpos:0<xs.length:=GW.2 hxe
   have hfm:=hm.flat_mem
   obtain ⟨news,hn,hnc⟩:=hfm.cells
   have hfl:=TD xs hxs
   have hnl:news.length=xs.length*i.size:=by rw [hn.length,hfl,hk1]
   have hnews:∀j u,news[j]? = some u->w.cell? ((⟨b,o',none⟩:Addr).add j)=some u:=fun j u hj=>by rw [Ku];exact (hnc j u hj).1
   have hbb:(0+xs.length)*i.bytes<=140737488355328:=by
    have:=Nat.mul_le_mul hbound hby
    rw [Vc]
    omega
   have hr:=run_append_grow (P:=P) w t type e i z ht hinfo hz ⟨g,0,none⟩ 0 0 [] (by simp) (fun j u hj=>by simp at hj) ⟨b,o',none⟩ xs.length c news hnl hnews om om (growslice_fits om hbb)
   simp only [Vc] at hr
   have Xg:=grownCap_ge w xs.length 0 e
   obtain ⟨j1,j2⟩:=hh.drew.alloc_rrow ([].toArray++news.toArray++Builtin.zeroCells z.cells (grownCap w xs.length 0 e-xs.length)) e
    (ls:=Zo xs) (len:=xs.length) (cap:=grownCap w xs.length 0 e) (k:=sz) Xg
    (by
     have q2:(grownCap w xs.length 0 e-xs.length)*sz=grownCap w xs.length 0 e*sz-xs.length*sz:=Nat.sub_mul ..
     have q3:xs.length*sz<=grownCap w xs.length 0 e*sz:=Qu _ Xg
     simp only [Array.size_append,Di,size_zeroCells,hzs,Xu,Vc,hnl,hk1]
     omega) hfl
    (by
     have q1:([].toArray++news.toArray++Builtin.zeroCells z.cells (grownCap w xs.length 0 e-xs.length)).toList.take (xs.length*sz)=news:=by
      simp only [Df,Cc]
      rw [<-hk1,<-hnl]
      exact JN
     rw [q1]
     exact hn.mono (AF w G))
   have hs:List.Sublist (.row (.slice (some ⟨w.drew.heap.size,0,none⟩) xs.length (grownCap w xs.length 0 e)) sz (Zo xs)::h2)
     (.row (.slice (some ⟨w.drew.heap.size,0,none⟩) xs.length (grownCap w xs.length 0 e)) sz (Zo xs)::.row (.slice (some ⟨g,0,none⟩) 0 0) sz []::h2):=List.Sublist.cons_cons _ (Br _ _)
   exact finish ⟨some ⟨w.heap.size,0,none⟩,xs.length,grownCap w xs.length 0 e⟩ _ hr (j1.sub hs) ((YV.drew w G _).trans (j2.sub' hs))
theorem PM {w:World} {G:Y9} {v:Hd} {kk m:Nat} {ls:List AV} (h:Jo w G v.v kk ls) (hm:ls.length=m*kk) (hk:0<kk) (h0:0<m):∃g c,v=⟨some ⟨g,0,none⟩,m,c⟩:=by
 obtain ⟨a,l,c⟩:=v
 rcases h with ⟨h1,h2⟩|⟨g,len,cap,cur,e,h1,h2,h3,h4,h5,h6⟩
 ·subst h2
  have:=Nat.mul_pos h0 hk
  rw [Xu] at hm
  omega
 ·cases h1
  have:l=m:=GY hk (h5.symm.trans hm)
  subst this
  exact ⟨g,c,rfl⟩
theorem SJ (t j:Nat) {v:Hd} {kk:Nat} {es:List AV} {c:Code} {A:V1} (hF':F.get t=.h v) (hp:Wm [j] h=some [.row v.v kk (Zo es)]) (hes:∀y∈es,y.leaves.length=kk) (hk:0<kk)
  (H:Yz P n c A ((t,.sl es (some v.v))::F) (.tail v.v kk::XF [j] h)):Yz P n c A F h:=by
 intro w G a hF hh
 have hp':=Ua (Vn hp)
 obtain ⟨G',h1,h2',h3⟩:=C4 (hh.perm hp') hes hk
 have e:=h2'.perm hp'.symm (Qd _)
 have hF2:=hF.mono (e.agree hh)
 have hv:=hF2.get t
 rw [hF'] at hv
 have hv:=hv.val_inv
 refine wp_mono (H w G' a ⟨hF2.defers,hF2.size,fun s=>?_⟩ h1) fun e' a' w' hc=>hc.trans e
 show RV w G' (match Nat.beq t s with|true=>_|false=>Fr.get F s) _
 cases hb:Nat.beq t s with
 | true=>
  have:=Uy hb
  subst this
  rw [hv]
  exact h3
 | false=>exact hF2.get s
theorem Zei (j i p:Nat) {u v:Value} {kk kv:Nat} {es ls:List AV} (hp:Wm [j,i] h=some [.row u kk (Zo es),.row v kv ls]) (hes:∀y∈es,y.leaves.length=kk) (hk:0<kk) (hl:ls[p]? = some (.val u)) :
  Tm h (.row v kv (ls.set p (.sl es (some u)))::.tail u kk::XF [j,i] h):=by
 intro w G hh
 have hp':=Ua (Vn hp)
 have hh':=hh.perm hp'
 obtain ⟨G',h1,h2',h3⟩:=C4 (h2:=.row v kv ls::XF [j,i] h) hh' hes hk
 have e:=h2'.perm hp'.symm (Qd _)
 have h1:Yt w G' (.tail u kk::.row v kv ls::XF [j,i] h):=h1
 have perm:(Res.tail u kk::.row v kv ls::XF [j,i] h).Perm (.row v kv ls::.tail u kk::XF [j,i] h):=List.Perm.swap ..
 have h4:=h1.perm perm
 have e4:=e.perm (Qd _) perm
 have hset:∀{w:World} {G:Y9},RV w G (.sl es (some u)) u->Jo w G v kv ls->Jo w G v kv (ls.set p (.sl es (some u))):=by
  intro w G hu hr
  rcases hr with ⟨rfl,h0⟩|⟨g,len,cap,cur,el,rfl,k1,k2,k3,k4,k5⟩
  ·exact .inl ⟨rfl,by rw [h0];rfl⟩
  ·refine .inr ⟨g,len,cap,cur,el,rfl,k1,k2,k3,by rw [Uw];exact k4,?_⟩
   obtain ⟨c,c1,c2⟩:=k5.get p _ hl
   have:=c2.val_inv
   subst this
   have h6:=k5.set p hu
   rwa [show (cur.toList.take (len*kv)).set p c=cur.toList.take (len*kv) from by
    apply List.ext_getElem?
    intro q
    rw [List.getElem?_set]
    split
    ·rename_i hq;subst hq;split
     ·exact c1.symm
     ·rename_i hq2;rw [Et om]
    ·rfl] at h6
 refine ⟨G',⟨fun r hr=>?_,?_,fun r hr=>?_,h4.lt⟩,⟨e4.os,e4.tape,e4.output,e4.size,e4.sub,e4.same,e4.newG,fun b o hb ⟨r,hr,hf⟩=>e4.newfp b o hb ?_⟩⟩
 ·rcases YD.1 hr with rfl|hr
  ·exact hset h3 (h4.ok _ (Xh ..))
  ·exact h4.ok r (XB _ hr)
 ·have:=WQ.1 h4.apart
  refine WQ.2 ⟨fun r hr b o f1 f2=>this.1 r hr b o ?_ f2,this.2⟩
  cases v with
  | slice a _ _=>cases a with
   | none=>exact f1.elim
   | some a=>exact f1
  | _=>exact f1.elim
 ·rcases YD.1 hr with rfl|hr
  ·intro b o f1 hg
   refine h4.prot (.row v kv ls) (Xh ..) b o ?_ hg
   cases v with
   | slice a _ _=>cases a with
    | none=>exact f1.elim
    | some a=>exact f1
   | _=>exact f1.elim
  ·exact h4.prot r (XB _ hr)
 ·rcases YD.1 hr with rfl|hr
  ·refine ⟨.row v kv ls,Xh ..,?_⟩
   cases v with
   | slice a _ _=>cases a with
    | none=>exact hf.elim
    | some a=>exact hf
   | _=>exact hf.elim
  ·exact ⟨r,XB _ hr,hf⟩
def Qz:List Res->Option (List (Value × Nat))
 | []=>some []
 | .tail v k::r=>(Qz r).map ((v,k)::·)
 | .many ts::r=>(Qz r).map (ts++·)
 | _=>none
theorem BF {b o:Nat}:∀{hs:List Res} {L:List (Value × Nat)},Qz hs=some L->((∃p∈L,Ej p.1 p.2 b o)↔V3 hs b o)
 | [],L,h=>by cases h;simp [V3]
 | .tail v k::r,L,h=>by
  rw [Qz] at h
  cases hr:Qz r with
  | none=>rw [hr] at h;cases h
  | some L'=>
   rw [hr] at h
   cases h
   have ih:=BF (b:=b) (o:=o) hr
   have ht:Res.fp (.tail v k) b o↔Ej v k b o:=by
    cases v with
    | slice a _ _=>cases a<;>exact Iff.rfl
    | _=>exact Iff.rfl
   simp only [V3,YD,exists_eq_or_imp] at ih ⊢
   rw [ht,ih]
 | .many ts::r,L,h=>by
  rw [Qz] at h
  cases hr:Qz r with
  | none=>rw [hr] at h;cases h
  | some L'=>
   rw [hr] at h
   cases h
   have ih:=BF (b:=b) (o:=o) hr
   simp only [V3,YD,exists_eq_or_imp] at ih ⊢
   rw [<-ih]
   simp only [Xa,Res.fp]
   constructor
   ·rintro ⟨p,hp|hp,hf⟩
    ·exact .inl ⟨p,hp,hf⟩
    ·exact .inr ⟨p,hp,hf⟩
   ·rintro (⟨p,hp,hf⟩|⟨p,hp,hf⟩)
    ·exact ⟨p,.inl hp,hf⟩
    ·exact ⟨p,.inr hp,hf⟩
 | .obj _ _::_,_,h=>by cases h
 | .ge _::_,_,h=>by cases h
 | .vec _ _::_,_,h=>by cases h
 | .own _ _::_,_,h=>by cases h
 | .row _ _ _::_,_,h=>by cases h
theorem Ho {w:World} {G:Y9}:∀{hs:List Res} {L:List (Value × Nat)},Qz hs=some L->(∀r∈hs,TY w G r)->hs.Pairwise JS->TY w G (.many L)
 | [],L,h,_,_=>by cases h;exact ⟨by simp,.nil⟩
 | .tail v k::r,L,h,h1,h2=>by
  rw [Qz] at h
  cases hr:Qz r with
  | none=>rw [hr] at h;cases h
  | some L'=>
   rw [hr] at h
   cases h
   have hpw:=WQ.1 h2
   obtain ⟨i1,i2⟩:=Ho (w:=w) (G:=G) hr (fun q hq=>h1 q (XB _ hq)) hpw.2
   refine ⟨fun p hp=>?_,WQ.2 ⟨fun p hp b o f1 f2=>?_,i2⟩⟩
   ·rcases YD.1 hp with rfl|hp
    ·exact h1 (.tail v k) (Xh ..)
    ·exact i1 p hp
   ·obtain ⟨q,hq,hf⟩:=(BF hr).1 ⟨p,hp,f2⟩
    refine hpw.1 q hq b o ?_ hf
    cases v with
    | slice a _ _=>cases a<;>exact f1
    | _=>exact f1
 | .many ts::r,L,h,h1,h2=>by
  rw [Qz] at h
  cases hr:Qz r with
  | none=>rw [hr] at h;cases h
  | some L'=>
   rw [hr] at h
   cases h
   have hpw:=WQ.1 h2
   obtain ⟨i1,i2⟩:=Ho (w:=w) (G:=G) hr (fun q hq=>h1 q (XB _ hq)) hpw.2
   obtain ⟨t1,t2⟩:=h1 (.many ts) (Xh ..)
   refine ⟨fun p hp=>?_,Jn.2 ⟨t2,i2,fun p hp q hq b o f1 f2=>?_⟩⟩
   ·rcases Xa.1 hp with hp|hp
    ·exact t1 p hp
    ·exact i1 p hp
   ·obtain ⟨s,hs,hf⟩:=(BF hr).1 ⟨q,hq,f2⟩
    exact hpw.1 s hs b o ⟨p,hp,f1⟩ hf
 | .obj _ _::_,_,h,_,_=>by cases h
 | .ge _::_,_,h,_,_=>by cases h
 | .vec _ _::_,_,h,_,_=>by cases h
 | .own _ _::_,_,h,_,_=>by cases h
 | .row _ _ _::_,_,h,_,_=>by cases h
theorem Zeg (is:List Nat) {L:List (Value × Nat)} {hs:List Res} (hp:Wm is h=some hs) (hb:Qz hs=some L):Tm h (.many L::XF is h):=by
 intro w G hh
 have hp':=Ua (Vn hp)
 have hh':=hh.perm hp'
 have hpw:=Jn.1 hh'.apart
 have hmany:=Ho (w:=w) (G:=G) hb (fun r hr=>hh'.ok r (Xa.2 (.inl hr))) hpw.1
 refine ⟨G,⟨fun r hr=>?_,WQ.2 ⟨fun r hr b o f1 f2=>?_,hpw.2.1⟩,fun r hr b o hf hg=>?_,hh'.lt⟩,
  ⟨rfl,rfl,rfl,X5 _,fun _ _ h=>h,fun _ _=>.inl rfl,fun _ _ _ h=>.inl h,fun b o _ ⟨r,hr,hf⟩=>?_⟩⟩
 ·rcases YD.1 hr with rfl|hr
  ·exact hmany
  ·exact hh'.ok r (Xa.2 (.inr hr))
 ·exact hh'.cross ((BF hb).1 f1) ⟨r,hr,f2⟩
 ·rcases YD.1 hr with rfl|hr
  ·obtain ⟨q,hq,hf⟩:=(BF hb).1 hf
   exact hh'.prot q (Xa.2 (.inl hq)) b o hf hg
  ·exact hh'.prot r (Xa.2 (.inr hr)) b o hf hg
 ·refine (AP hp').2 ?_
  rcases YD.1 hr with rfl|hr
  ·exact JC.2 (.inl ((BF hb).1 hf))
  ·exact JC.2 (.inr ⟨r,hr,hf⟩)
end
end Go.Abs
section
namespace Go.Abs
structure St where
 fields:LI
 fv:Value
structure Su where
 frm:Int
 to_:Int
 cons:List St
 cv:Value
mutual
inductive H3 where
 | mk (op num into:Int) (args:LI) (av:Value) (kids:List Ew) (kv:Value)
inductive Ew where
 | mk (steps:List H3) (sv:Value) (result:Int)
end
namespace H3
end H3
namespace Ew
end Ew
structure Sw where
 params:LI
 pv:Value
 lent:LI
 lv:Value
 result:Int
 body:Ew
structure Sv where
 decls:List Su
 dv:Value
 routines:List Sw
 rv:Value
inductive H1:List AV->List AV->Prop
 | nil:H1 [] []
 | cons {x y:AV} {xs ys:List AV} (hl:x.leaves.length=y.leaves.length) (h:VU x.leaves y.leaves) (t:H1 xs ys):H1 (x::xs) (y::ys)
theorem Qk {es:List AV} {k:Nat} (h:es.all (fun y=>Nat.beq y.leaves.length k)=true):∀y∈es,y.leaves.length=k:=fun y hy=>Uy (Jm.1 h y hy)
abbrev rK (g:Hd) (k:Nat) (ls:List AV):Res:=.row g.v k ls
section
variable {P:Program} {n:Nat} {c:Code} {A:V1} {F:Fr} {h:List Res} {ops:Array Oper} {B:Fr->List Res->Prop} {k:Nat}
variable {T:List (Nat × List Nat)} {fuel:Nat} {done:List Nat}
theorem tB (is:List Nat) (hs:List Res) (L' L:List (Value × Nat)) (e:L'=L) (hp:Wm is h=some hs:=by kernel_rfl) (hb:Qz hs=some L':=by kernel_rfl):Tm h (.many L::XF is h):=e▸Zeg is hp hb
theorem rr {v:Value} {q:Nat} {ls ls':List AV} {t t':List Res} (h:ls=ls') (e:t=t'):Res.row v q ls::t=.row v q ls'::t':=h▸e▸rfl
theorem Z89 (j m:Nat) (v:Hd) (kk:Nat) (ls:List AV) (hm:ls.length=m*kk) (hk:0<kk:=by omega) (hl:CQ P ops F k=some (.h v):=by kernel_rfl) (hj:h[j]? = some (rK v kk ls):=by kernel_rfl):Xw P (ZB ops k) F h [] (.i m):=
 Zdt j hl hj hm hk
theorem Wp (b l c' q sz:Nat) (j:Int) (hq:j=(q:Int)/\q<l:=by omega) (hi:AU P ops F k=some (.val (.slice (some ⟨b,0,none⟩) l c'),j,sz):=by kernel_rfl):Xw P (ZB ops k) F h [] (.val (.pointer (some ⟨b,q*sz,none⟩))):=by
 have:=RL (P:=P) (F:=F) (h:=h) hi om om
 rw [hq.1,VT,Vc] at this
 exact this
theorem Vl (j g len cap kk o:Nat) (ls zs:List AV) (t:TypeId) (y:AV) (hz:(ls.drop o).take zs.length=zs) (hl:II ops F k=some (t,.val (.pointer (some ⟨g,o,none⟩))):=by kernel_rfl) (hj:h[j]? = some (.row (.slice (some ⟨g,0,none⟩) len cap) kk ls):=by kernel_rfl)
  (hy:Ah P t zs=some y:=by kernel_rfl):Xw P (ZB ops k) F h [g] y:=Zdu j hl hj hz hy
theorem DQ (j g len cap kk o:Nat) (xs ls:List AV) (ls':List AV) (hlt:o+xs.length<=ls.length) (he:ls.take o++xs++ls.drop (o+xs.length)=ls') (H:SI P n ops B (k+1) F (.row (.slice (some ⟨g,0,none⟩) len cap) kk ls'::XF [j] h)) (hk:X6 n ops F k=true:=by kernel_rfl)
  (hs:storeAt P ops F k=some (g,o,xs):=by kernel_rfl) (hp:Wm [j] h=some [.row (.slice (some ⟨g,0,none⟩) len cap) kk ls]:=by kernel_rfl):SI P n ops B k F h:=
 Tq hk (Wx.perm (Ua (Vn hp)) (Pq hs hlt (by rw [he];exact H)))
theorem BG (i j:Nat) (js bs:List Nat) (g len cap kk o:Nat) (xs ls:List AV) (ls':List AV) (hlt:o+xs.length<=ls.length) (he:ls.take o++xs++ls.drop (o+xs.length)=ls')
  (H:YU P n ops B (T.filter fun t=>!V2 ops i t.1) fuel (done++[i]) F (.row (.slice (some ⟨g,0,none⟩) len cap) kk ls'::XF [j] h)) (hk:X6 n ops F i=true:=by kernel_rfl)
  (hs:storeAt P ops F i=some (g,o,xs):=by kernel_rfl) (hp:Wm [j] h=some [.row (.slice (some ⟨g,0,none⟩) len cap) kk ls]:=by kernel_rfl) (ho:U2 ops i T=bs:=by kernel_rfl)
  (hj:js.map (fun q=>(WG (XF [j] h))[q]?)=bs.map some:=by kernel_rfl):Vr P n ops B T fuel done F h i:=
 Kb [j] js bs hk (Vn hp) ho hj (Pq (h2:=[]) hs hlt (by rw [he];exact H))
theorem DP (sz:Nat) (hK:∀g,SI P n ops B (k+1) (F.put (ZB ops k).dst (.val (.slice (some ⟨g,0,none⟩) 0 0))) (.row (.slice (some ⟨g,0,none⟩) 0 0) sz []::h)) (hk:X6 n ops F k=true:=by kernel_rfl)
  (ha:Tw P ops F k=some ([],0,sz):=by kernel_rfl):SI P n ops B k F h:=Tq hk (Za1 (VI hk).2.1 ha hK)
theorem NZ (j g sz:Nat) (xs:List AV) (hx:Option Value) (hxs:∀y∈xs,y.leaves.length=sz) (hbound:xs.length<=4294967296) (hK:∀v:Hd,SI P n ops B (k+1) (F.put (ZB ops k).dst (.h v)) (rK v sz (Zo xs)::XF [j] h))
  (hk:X6 n ops F k=true:=by kernel_rfl) (ha:UA P ops F k=some (.val (.slice (some ⟨g,0,none⟩) 0 0),.sl xs hx,sz):=by kernel_rfl) (hp:Wm [j] h=some [.row (.slice (some ⟨g,0,none⟩) 0 0) sz []]:=by kernel_rfl):SI P n ops B k F h:=
 Tq hk (Wx.perm (Ua (Vn hp)) (Z9z (VI hk).2.1 ha hxs hbound hK))
theorem Z88 (t j:Nat) {v:Hd} {kk:Nat} (es:List AV) (hes:∀y∈es,y.leaves.length=kk) (H:Yz P n c A ((t,.sl es (some v.v))::F) (.tail v.v kk::XF [j] h)) (hk:0<kk:=by omega) (hF':F.get t=.h v:=by kernel_rfl)
  (hp:Wm [j] h=some [rK v kk (Zo es)]:=by kernel_rfl):Yz P n c A F h:=SJ t j hF' hp hes hk H
theorem Lc {A xs ys B:List AV} {o:Nat} (hA:A.length=o) (hl:xs.length=ys.length):(A++(xs++B)).take o++ys++(A++(xs++B)).drop (o+ys.length)=A++(ys++B):=by
 subst hA
 rw [JN,<-hl,<-List.drop_drop,List.drop_left,List.drop_left,TH]
theorem Zb2 {A xs B:List AV} {o:Nat} (hA:A.length=o):((A++(xs++B)).drop o).take xs.length=xs:=by
 subst hA
 rw [List.drop_left,JN]
theorem Qh (xs ys:List AV):Zo (xs++ys)=Zo xs++Zo ys:=by simp [Zo]
theorem Z46:Zo []=[]:=rfl
theorem LN (j:Nat) (v:Value) (q:Nat) (ls ls':List AV) (e:ls=ls') (hp:Wm [j] h=some [.row v q ls]:=by kernel_rfl):Tm h (.row v q ls'::XF [j] h):=by
 subst e
 intro w G hh
 have hp':=Ua (Vn hp)
 exact ⟨G,hh.perm hp',(YV.refl w G h).perm (Qd _) hp'⟩
end
end Go.Abs
end
section
namespace Go.Abs
theorem Yt.rgrow {w:World} {G:Y9} {h2:List Res} {g len len' cap k:Nat} {ls ls':List AV} (hh:Yt w G (.row (.slice (some ⟨g,0,none⟩) len cap) k ls::h2)) {cs cs':Array Value} {e:TypeId}
  (hb:w.heap[g]? = some (.cells cs e (0,0))) (Xm:cs'.size=cs.size) (hle:len'<=cap) (hcap:cs.size=cap*k) (hl:ls'.length=len'*k) (hls:YQ w G ls' (cs'.toList.take (len'*k))) :
  Yt (w.setRow g cs') G (.row (.slice (some ⟨g,0,none⟩) len' cap) k ls'::h2) /\
   YV w G (.row (.slice (some ⟨g,0,none⟩) len cap) k ls::h2) (w.setRow g cs') G (.row (.slice (some ⟨g,0,none⟩) len' cap) k ls'::h2):=by
 have hmem:Res.row (.slice (some ⟨g,0,none⟩) len cap) k ls∈Res.row (.slice (some ⟨g,0,none⟩) len cap) k ls::h2:=Xh ..
 have hA:VR G w (w.setRow g cs') G:=⟨fun c j hg=>by
  have hne:c≠g:=fun he=>hh.prot _ hmem c j he hg
  simp [World.cell?,VP w g c cs' hne],fun _ _ h=>h⟩
 have e1:YV w G [.row (.slice (some ⟨g,0,none⟩) len cap) k ls] (w.setRow g cs') G [.row (.slice (some ⟨g,0,none⟩) len' cap) k ls']:=by
  refine ⟨rfl,rfl,rfl,by simp [World.setRow],fun _ _ h=>h,?_,fun _ _ _ h=>.inl h,?_⟩
  ·intro c hc
   by_cases hcb:c=g
   ·subst hcb
    exact .inr ⟨cs,cs',e,(0,0),hb,setRow_heap w c cs cs' e (0,0) hb,Xm,fun j hj=>absurd ⟨_,Xh ..,rfl⟩ hj⟩
   ·exact .inl (VP w g c cs' hcb)
  ·rintro c j _ ⟨r,hr,hf⟩
   rw [XC.1 hr] at hf
   exact ⟨_,Xh ..,hf⟩
 have e2:Yt (w.setRow g cs') G [.row (.slice (some ⟨g,0,none⟩) len' cap) k ls']:=by
  refine ⟨fun r hr=>?_,Bq _ _,fun r hr c j hf hg=>?_,fun c j hg=>?_⟩
  ·rw [XC.1 hr]
   exact .inr ⟨g,len',cap,cs',e,rfl,setRow_heap w g cs cs' e (0,0) hb,hle,Xm.trans hcap,hl,hls.mono hA⟩
  ·rw [XC.1 hr] at hf
   exact hh.prot _ hmem c j hf hg
  ·have:=hh.lt c j hg
   simpa [World.setRow] using this
 exact Yt.frame (h:=[.row (.slice (some ⟨g,0,none⟩) len cap) k ls]) (k:=h2) hh e1 e2
section
variable {P:Program} {n:Nat} {ops:Array Oper} {k:Nat} {F:Fr} {h2:List Res}
theorem Po {K:Fr->List Res->Prop} {v:Hd} {sz m:Nat} {ls xs:List AV} {hx:Option Value} (hd:Vt n (ZB ops k)=true) (ha:UA P ops F k=some (.val v.v,.sl xs hx,sz))
  (hxs:∀y∈xs,y.leaves.length=sz) (hone:(Zo xs).all AV.one=true) (hm0:ls.length=m*sz) (hk0:0<sz) (hne:xs≠[]) (hbound:m+xs.length<=4294967296)
  (hK:∀v':Hd,K (F.put (ZB ops k).dst (.val v'.v)) (.row v'.v sz (ls++Zo xs)::h2)):Wx P n (ZB ops k) F (.row v.v sz ls::h2) K:=by
 unfold UA at ha
 generalize hoo:ZB ops k=o at ha hd hK
 obtain ⟨dst,op,type,pos,after,guard⟩:=o
 cases op<;>simp only at ha<;>try (cases ha)
 rename_i c
 obtain ⟨callee,args,tys⟩:=c
 simp only at ha
 split at ha
 case h_2=>cases ha
 rename_i s x t t' hargs htys
 split at ha
 case h_2=>cases ha
 rename_i e htt ht
 have:=Uy htt
 subst this
 split at ha
 case h_2=>cases ha
 rename_i i hinfo
 split at ha
 case h_2=>cases ha
 rename_i z hz
 split at ha
 case h_2=>cases ha
 rename_i hb
 simp only [W7] at hb
 simp only [Wg,Prod.mk.injEq] at ha
 obtain ⟨h3,h4,hk1⟩:=ha
 have e1:args=#[s,x]:=by rw [<-U3 (xs:=args),hargs]
 have e2:tys=#[t,t]:=by rw [<-U3 (xs:=tys),htys]
 subst e1;subst e2
 have hzs:z.cells.size=sz:=by rw [Uy hb.1,hk1]
 have hby:=V8 hb.2
 have hfl:=TD xs hxs
 intro Q w G a hF hh
 have v1:=hF.ev s
 have v2:=hF.ev x
 rw [h3] at v1
 rw [h4] at v2
 have v1:=v1.val_inv
 have v2:=v2.forget
 have finish:∀(v':Hd) w',(Builtin.append_ #[t,t] type #[v.v,a.eval x]).run P w=.ok v'.v w'->Yt w' G (.row v'.v sz (ls++Zo xs)::h2)->YV w G (.row v.v sz ls::h2) w' G (.row v'.v sz (ls++Zo xs)::h2) ->
   ({ dst:=dst,op:=.call { callee:=.builtin .append,args:=#[s,x],argTypes:=#[t,t] },type:=type,pos:=pos,after:=after,guard:=guard }:Oper).wp P a w
    (fun a' w'=>∃F' h' G',K F' h'/\FR w' G' n F' a'/\Yt w' G' h'/\YV w G (.row v.v sz ls::h2) w' G' h') Q:=by
  intro v' w' hr j1 j2
  have hrun:(execOp a.eval { dst:=dst,op:=.call { callee:=.builtin .append,args:=#[s,x],argTypes:=#[t,t] },type:=type,pos:=pos,after:=after,guard:=guard }).run P w=.ok (.value v'.v) w':=by
   simp only [execOp,resolve,invoke,builtin,Sem.run_bind,Sem.run_pure,Result.andThen_ok,Bp,Um,Bo,v1,hr]
  unfold Oper.wp
  rw [hrun]
  exact ⟨_,_,G,hK v',(hF.mono (j2.agree hh)).put (UQ hd) .val,j1,j2⟩
 have hrow0:=hh.ok (.row v.v sz ls) (Xh ..)
 have hsub2:∀r:Res,List.Sublist (r::h2) (r::.row v.v sz ls::h2):=fun r=>List.Sublist.cons_cons _ (Br _ _)
 have grown:∀(olds news:List Value) (old:Nat),YQ w G ls olds->YQ w G (Zo xs) news ->
   Yt (w.drew.alloc (.cells (olds.toArray++news.toArray++Builtin.zeroCells z.cells (grownCap w (m+xs.length) old e-(m+xs.length))) e)) G
    (.row (.slice (some ⟨w.heap.size,0,none⟩) (m+xs.length) (grownCap w (m+xs.length) old e)) sz (ls++Zo xs)::h2) /\
   YV w G (.row v.v sz ls::h2) (w.drew.alloc (.cells (olds.toArray++news.toArray++Builtin.zeroCells z.cells (grownCap w (m+xs.length) old e-(m+xs.length))) e)) G
    (.row (.slice (some ⟨w.heap.size,0,none⟩) (m+xs.length) (grownCap w (m+xs.length) old e)) sz (ls++Zo xs)::h2):=by
  intro olds news old ho hn
  have Xg:=grownCap_ge w (m+xs.length) old e
  have hol:=ho.length
  have hnl:=hn.length
  have hlen:(ls++Zo xs).length=(m+xs.length)*sz:=by rw [Yw,hm0,hfl,Qe]
  obtain ⟨j1,j2⟩:=hh.drew.alloc_rrow (olds.toArray++news.toArray++Builtin.zeroCells z.cells (grownCap w (m+xs.length) old e-(m+xs.length))) e
   (ls:=ls++Zo xs) (len:=m+xs.length) (cap:=grownCap w (m+xs.length) old e) (k:=sz) Xg
   (by
    have q2:(grownCap w (m+xs.length) old e-(m+xs.length))*sz=grownCap w (m+xs.length) old e*sz-(m+xs.length)*sz:=Nat.sub_mul ..
    have q3:(m+xs.length)*sz<=grownCap w (m+xs.length) old e*sz:=Qu _ Xg
    have q4:(m+xs.length)*sz=m*sz+xs.length*sz:=Qe ..
    simp only [Array.size_append,Di,size_zeroCells,hzs,hol,hnl,hm0,hfl]
    omega) hlen
   (by
    have:(olds.toArray++news.toArray++Builtin.zeroCells z.cells (grownCap w (m+xs.length) old e-(m+xs.length))).toList.take ((m+xs.length)*sz)=olds++news:=by
     simp only [Df]
     rw [<-hlen,Yw,<-hol,<-hnl,<-Yw]
     exact JN
    rw [this]
    exact (ho.append hn).mono (AF w G))
  exact ⟨j1.sub (hsub2 _),(YV.drew w G _).trans (j2.sub' (hsub2 _))⟩
 generalize hax:a.eval x=ax at v2 finish
 cases v2 with
 | nil _=>exact absurd rfl hne
 | sl hq hcc hm=>
  rename_i b o' k' c
  have hpos:0<xs.length:=GW.2 hne
  have hfm:=hm.flat_mem
  obtain ⟨news,hn,hnc⟩:=hfm.cells
  have hnl:news.length=xs.length*i.size:=by rw [hn.length,hfl,hk1]
  have hone':=hn.one_cells hone
  have hnews:∀j u,news[j]? = some u->w.cell? ((⟨b,o',none⟩:Addr).add j)=some u:=fun j u hj=>by rw [Ku];exact (hnc j u hj).1
  have hbb:(m+xs.length)*i.bytes<=140737488355328:=by
   have:=Nat.mul_le_mul hbound hby
   omega
  rcases hrow0 with ⟨hv0,hl0⟩|⟨g,len,cap,cur,el,hv0,hrow,hlc,hcur,hll,hcells⟩
  ·subst hl0
   have hm1:m=0:=by
    have:m*sz=0:=by simpa using hm0.symm
    rcases Nat.mul_eq_zero.1 this with h|h
    ·exact h
    ·omega
   subst hm1
   rw [hv0] at finish hh ⊢
   have hr:=run_append_nil (P:=P) w t type e i z ht hinfo hz ⟨b,o',none⟩ xs.length c news hnl hnews hpos om (by simp only [Vc] at hbb;omega)
   obtain ⟨j1,j2⟩:=grown [] news 0 .nil hn
   simp only [Vc,Array.empty_append,Cc] at j1 j2
   rw [hv0] at j2
   exact finish ⟨some ⟨w.heap.size,0,none⟩,xs.length,grownCap w xs.length 0 e⟩ _ hr (by simpa using j1) (by simpa using j2)
  ·have hlm:len=m:=GY hk0 (hll.symm.trans hm0)
   subst hlm
   rw [hv0] at finish hh ⊢
   have q5:len*sz<=cap*sz:=Qu _ hlc
   have h1:(cur.toList.take (len*sz)).length=len*sz:=by rw [WH,Km,hcur,VB q5]
   have hcl:cur.toList.length=cap*sz:=by rw [Km,hcur]
   by_cases hroom:len+xs.length<=cap
   ·have q1:(len+xs.length)*sz<=cap*sz:=Qu _ hroom
    have q2:(len+xs.length)*sz=len*sz+xs.length*sz:=Qe ..
    have hfit:len*i.size+news.length<=cur.size:=by rw [hnl,hcur,hk1];omega
    have hr:=Gj (P:=P) w t type e el i ht hinfo g len cap cur hrow ⟨b,o',none⟩ xs.length c news hnl hnews hone' hroom hfit
    rw [hk1] at hr
    have hnl':news.length=xs.length*sz:=by rw [hnl,hk1]
    obtain ⟨j1,j2⟩:=hh.rgrow (ls':=ls++Zo xs) (len':=len+xs.length) (cs':=(cur.toList.take (len*sz)++news++cur.toList.drop (len*sz+news.length)).toArray) hrow
     (by simp only [Di,Yw,h1,hnl',Bn,hcl,hcur];omega) hroom hcur (by rw [Yw,hll,hfl,q2]) (by
      have:(cur.toList.take (len*sz)++news++cur.toList.drop (len*sz+news.length)).toArray.toList.take ((len+xs.length)*sz)=cur.toList.take (len*sz)++news:=by
       rw [Dj,q2,<-hnl']
       conv=>lhs;arg 1;rw [show len*sz+news.length=(cur.toList.take (len*sz)++news).length from by rw [Yw,h1]]
       exact JN
      rw [this]
      exact hcells.append hn)
    exact finish ⟨some ⟨g,0,none⟩,len+xs.length,cap⟩ _ hr j1 j2
   ·have hr:=run_append_grow (P:=P) w t type e i z ht hinfo hz ⟨g,0,none⟩ len cap (cur.toList.take (len*sz)) (by rw [hk1];exact h1) (fun j u hj=>by
     rw [Ku,cell_of_row w g _ cur el (0,0) hrow]
     rw [TI] at hj
     split at hj
     ·simpa using hj
     ·cases hj) ⟨b,o',none⟩ xs.length c news hnl hnews om om (growslice_fits om hbb)
    obtain ⟨j1,j2⟩:=grown (cur.toList.take (len*sz)) news cap hcells hn
    rw [hv0] at j2
    exact finish ⟨some ⟨w.heap.size,0,none⟩,len+xs.length,grownCap w (len+xs.length) cap e⟩ _ hr j1 j2
end
section
variable {P:Program} {n:Nat} {ops:Array Oper} {B:Fr->List Res->Prop} {k:Nat} {F:Fr} {h:List Res}
theorem FA (j m:Nat) (v:Hd) (sz:Nat) (ls xs:List AV) (hx:Option Value) (hm0:ls.length=m*sz) (hxs:∀y∈xs,y.leaves.length=sz) (hone:(Zo xs).all AV.one=true) (hne:xs≠[]) (hbound:m+xs.length<=4294967296)
  (hK:∀v':Hd,SI P n ops B (k+1) (F.put (ZB ops k).dst (.h v')) (rK v' sz (ls++Zo xs)::XF [j] h)) (hk0:0<sz:=by omega)
  (hk:X6 n ops F k=true:=by kernel_rfl) (ha:UA P ops F k=some (.h v,.sl xs hx,sz):=by kernel_rfl) (hp:Wm [j] h=some [rK v sz ls]:=by kernel_rfl):SI P n ops B k F h:=
 Tq hk (Wx.perm (Ua (Vn hp)) (Po (VI hk).2.1 ha hxs hone hm0 hk0 hne hbound hK))
end
end Go.Abs
namespace Go.Abs
section
variable {P:Program} {n:Nat} {ops:Array Oper} {B:Fr->List Res->Prop} {T:List (Nat × List Nat)} {fuel:Nat} {done:List Nat} {F:Fr} {h:List Res}
theorem Hw (i j m:Nat) (js bs:List Nat) (v:Hd) (sz:Nat) (ls xs:List AV) (hx:Option Value) (hm0:ls.length=m*sz) (hxs:∀y∈xs,y.leaves.length=sz) (hone:(Zo xs).all AV.one=true) (hne:xs≠[]) (hbound:m+xs.length<=4294967296)
  (hK:∀v':Hd,YU P n ops B (T.filter fun t=>!V2 ops i t.1) fuel (done++[i]) (F.put (ZB ops i).dst (.h v')) (rK v' sz (ls++Zo xs)::XF [j] h)) (hk0:0<sz:=by omega) (hk:X6 n ops F i=true:=by kernel_rfl)
  (ha:UA P ops F i=some (.h v,.sl xs hx,sz):=by kernel_rfl) (hp:Wm [j] h=some [rK v sz ls]:=by kernel_rfl) (ho:U2 ops i T=bs:=by kernel_rfl)
  (hj:js.map (fun q=>(WG (XF [j] h))[q]?)=bs.map some:=by kernel_rfl):Vr P n ops B T fuel done F h i:=
 Kb [j] js bs hk (Vn hp) ho hj (Po (h2:=[]) (VI hk).2.1 ha hxs hone hm0 hk0 hne hbound hK)
end
theorem Ww.form {P:Program} {f:FuncId} {as1:List AV} {h0:List Res} {T:Hd->AV} {kk m:Nat} {ls:List AV} {hs:List Res} (H:Ww P f as1 h0 (fun r h=>∃v:Hd,r=T v/\h=rK v kk ls::hs)) (hm:ls.length=m*kk) (hk:0<kk) (h1:0<m) :
  Ww P f as1 h0 (fun r h=>∃(g c:Nat),r=T ⟨some ⟨g,0,none⟩,m,c⟩/\h=rK ⟨some ⟨g,0,none⟩,m,c⟩ kk ls::hs):=by
 intro w G vs hv hh
 refine (H w G vs hv hh).mono ?_
 rintro e w' ⟨u,r,h',G',he,⟨v,rfl,rfl⟩,hr,hh',hx⟩
 obtain ⟨g,c,rfl⟩:=PM (hh'.ok _ (Xh ..)) hm hk h1
 exact ⟨u,_,_,G',he,⟨g,c,rfl,rfl⟩,hr,hh',hx⟩
end Go.Abs
namespace Go.Abs
section
variable {h:List Res}
theorem Zeh (j i p:Nat) {u:Value} {kk b:Nat} {es ls:List AV} (hp:Wm [j,i] h=some [.row u kk (Zo es),.obj b ls]) (hes:∀y∈es,y.leaves.length=kk) (hk:0<kk) (hl:ls[p]? = some (.val u)) :
  Tm h (.obj b (ls.set p (.sl es (some u)))::.tail u kk::XF [j,i] h):=by
 intro w G hh
 have hp':=Ua (Vn hp)
 have hh':=hh.perm hp'
 obtain ⟨G',h1,h2',h3⟩:=C4 (h2:=.obj b ls::XF [j,i] h) hh' hes hk
 have e:=h2'.perm hp'.symm (Qd _)
 have h1:Yt w G' (.tail u kk::.obj b ls::XF [j,i] h):=h1
 have perm:(Res.tail u kk::.obj b ls::XF [j,i] h).Perm (.obj b ls::.tail u kk::XF [j,i] h):=List.Perm.swap ..
 have h4:=h1.perm perm
 have e4:=e.perm (Qd _) perm
 have hset:∀{w:World} {G:Y9},RV w G (.sl es (some u)) u->TY w G (.obj b ls)->TY w G (.obj b (ls.set p (.sl es (some u)))):=by
  intro w G hu hr
  obtain ⟨cs,el,k1,k5⟩:=hr
  refine ⟨cs,el,k1,?_⟩
  obtain ⟨c,c1,c2⟩:=k5.get p _ hl
  have:=c2.val_inv
  subst this
  have h6:=k5.set p hu
  rwa [show cs.toList.set p c=cs.toList from by
   apply List.ext_getElem?
   intro q
   rw [List.getElem?_set]
   split
   ·rename_i hq;subst hq;split
    ·exact c1.symm
    ·rename_i hq2;rw [Et om]
   ·rfl] at h6
 refine ⟨G',⟨fun r hr=>?_,?_,fun r hr=>?_,h4.lt⟩,⟨e4.os,e4.tape,e4.output,e4.size,e4.sub,e4.same,e4.newG,fun b' o hb ⟨r,hr,hf⟩=>e4.newfp b' o hb ?_⟩⟩
 ·rcases YD.1 hr with rfl|hr
  ·exact hset h3 (h4.ok _ (Xh ..))
  ·exact h4.ok r (XB _ hr)
 ·have:=WQ.1 h4.apart
  exact WQ.2 ⟨fun r hr b' o f1 f2=>this.1 r hr b' o f1 f2,this.2⟩
 ·rcases YD.1 hr with rfl|hr
  ·exact fun b' o f1 hg=>h4.prot (.obj b ls) (Xh ..) b' o f1 hg
  ·exact h4.prot r (XB _ hr)
 ·rcases YD.1 hr with rfl|hr
  ·exact ⟨.obj b ls,Xh ..,hf⟩
  ·exact ⟨r,XB _ hr,hf⟩
theorem Tl (j i p:Nat) (u:Value) (kk b:Nat) (es ls:List AV) (hes:∀y∈es,y.leaves.length=kk) (hl:ls[p]? = some (.val u)) (hk:0<kk:=by omega) (hp:Wm [j,i] h=some [.row u kk (Zo es),.obj b ls]:=by kernel_rfl) :
  Tm h (.obj b (ls.set p (.sl es (some u)))::.tail u kk::XF [j,i] h):=Zeh j i p hp hes hk hl
end
end Go.Abs
namespace Go.Abs
section
variable {P:Program} {n:Nat} {ops:Array Oper} {k:Nat} {F:Fr} {h:List Res}
theorem Zdv (j:Nat) {g l c m kk:Nat} {ls:List AV} (hi:D4 P ops F k=some (.val (.slice (some ⟨g,0,none⟩) l c),(m:Int))) (hj:h[j]? = some (.row (.slice (some ⟨g,0,none⟩) l c) kk ls)) (hle:m<=l) :
  Xw P (ZB ops k) F h [] (.val (.slice (some ⟨g,0,none⟩) m c)):=by
 unfold D4 at hi
 generalize hoo:ZB ops k=o at hi
 obtain ⟨dst,op,type,pos,after,guard⟩:=o
 cases op<;>simp only at hi<;>try (cases hi)
 rename_i t x lo hi' mx
 cases lo with
 | some _=>simp at hi
 | none=>
  cases hi' with
  | none=>simp at hi
  | some y=>
   cases mx with
   | some _=>simp at hi
   | none=>
    simp only at hi
    split at hi
    ·rename_i e ht
     split at hi
     ·rename_i inf hinf
      split at hi
      ·rename_i ik m' hm
       simp only [Wg,Prod.mk.injEq] at hi
       obtain ⟨hx,rfl⟩:=hi
       intro n w G a hF hh
       have v1:=hF.ev x
       rw [hx] at v1
       have v1:=v1.val_inv
       have v2:=hF.ev y
       rw [hm] at v2
       have v2:=v2.val_inv
       have hcap:l<=c:=by
        rcases hh.ok _ (Y2 hj) with ⟨h0,_⟩|⟨g',l',c',cur,el,h0,_,hc,_⟩
        ·cases h0
        ·cases h0;exact hc
       refine ⟨_,.val,fun w' _ _=>?_⟩
       simp only [execOp,v1,v2,Bv,Option.map_none]
       refine Vf ?_
       simp only [Instr.sliceAt,Sem.run_bind,VJ ht,Result.andThen_ok,Instr.slice]
       have hmm:(Instr.sliceBounds true l c none (some (.int ik (m:Int))) none).run P w'=.ok (0,m,c) w':=by
        have ZA:=fun q=>D0 (P:=P) (c:=q) (v:=.int ik (m:Int)) (y:=c) rfl om om w'
        simp [Instr.sliceBounds,ZA]
       rw [hmm]
       have hz:∀a:Addr,a.add 0=a:=fun a=>by simp [Addr.add]
       simp only [Result.andThen_ok,Qc hinf,Nat.zero_mul,hz]
       by_cases h0:c=0<;>simp [h0]
      ·cases hi
     ·cases hi
    ·cases hi
theorem Iu (j g l c m kk:Nat) (ls:List AV) (hle:m<=l:=by omega) (hi:D4 P ops F k=some (.val (.slice (some ⟨g,0,none⟩) l c),(m:Int)):=by kernel_rfl) (hj:h[j]? = some (.row (.slice (some ⟨g,0,none⟩) l c) kk ls):=by kernel_rfl) :
  Xw P (ZB ops k) F h [] (.val (.slice (some ⟨g,0,none⟩) m c)):=Zdv j hi hj hle
variable {B:Fr->List Res->Prop}
end
end Go.Abs
end
namespace Go.Abs
theorem Y7 {α:Type} {xs:List α} {k:Nat} {x:α} (h:xs[k]? = some x):xs.drop k=x::xs.drop (k+1):=by
 have hk:=(Xp.1 h).1
 rw [Sr hk]
 congr 1
 rw [Kn hk] at h
 exact Tz h
theorem Xi {α:Type} {xs:List α} {k:Nat} (h:xs.length<=k):xs.drop k=[]:=GU h
theorem V7 {α:Type} {xs:List α} {k:Nat} {x:α} (h:xs[k]? = some x):xs.take (k+1)=xs.take k++[x]:=by
 rw [List.take_add_one,h];rfl
def YO:List Zf->Nat
 | []=>0
 | d::ds=>d.cons.length+YO ds
theorem Dw (xs ys:List Zf):YO (xs++ys)=YO xs+YO ys:=by
 induction xs with
 | nil=>simp [YO]
 | cons d ds ih=>simp [YO,ih];omega
structure WI (ds:List Zf):Prop where
 len:ds.length<=4
 cons:∀d∈ds,d.cons.length<=3
 fields:∀d∈ds,∀c∈d.cons,c.fields.length<=3
theorem Z24 {ds:List Zf} {m:Nat} (h:∀d∈ds,d.cons.length<=m):YO ds<=ds.length*m:=by
 induction ds with
 | nil=>simp [YO]
 | cons d ds ih=>
  have h1:=h d (by simp)
  have h2:=ih (fun x hx=>h x (by simp [hx]))
  simp only [YO,YR,Qe];omega
theorem WI.sum {ds:List Zf} (h:WI ds):YO ds<=12:=by
 have:=Z24 h.cons
 have:=h.len
 have:ds.length*3<=4*3:=Qu 3 h.len
 omega
theorem WI.take {ds:List Zf} (h:WI ds) (k:Nat):WI (ds.take k):=
 ⟨by have:=h.len;simp;omega,fun d hd=>h.cons d (TX hd),fun d hd=>h.fields d (TX hd)⟩
theorem WI.cons_at {ds:List Zf} (h:WI ds) {k:Nat} {d:Zf} (hd:ds[k]? = some d):d.cons.length<=3:=h.cons d (Y2 hd)
theorem WI.fields_at {ds:List Zf} (h:WI ds) {k j:Nat} {d:Zf} {c:Yk} (hd:ds[k]? = some d) (hc:d.cons[j]? = some c):c.fields.length<=3:=
 h.fields d (Y2 hd) c (Y2 hc)
def T8 (c:Int):List Zf->Nat->Nat->Int × LI
 | [],_,_=>(-1,[])
 | d::ds,i,first=>
  if (first:Int)<=c/\c<=((first+d.cons.length:Nat):Int)-1 then ((i:Int)+1,(d.cons[(c-first).toNat]?.map (·.fields)).getD []) else T8 c ds (i+1) (first+d.cons.length)
def Wf (ds:List Zf) (c:Int):Int:=(T8 c ds 0 0).1
def ZV (ds:List Zf) (c:Int):LI:=(T8 c ds 0 0).2
theorem Ht {c:Int}:∀{ds:List Zf} {i first:Nat},(T8 c ds i first=(-1,[]) ∨
  ∃k d x,ds[k]? = some d/\(first+YO (ds.take k):Int)<=c/\c<first+YO (ds.take k)+d.cons.length/\d.cons[(c-(first+YO (ds.take k))).toNat]? = some x/\T8 c ds i first=((i:Int)+k+1,x.fields))
 | [],_,_=>.inl rfl
 | d::ds,i,first=>by
  rw [T8]
  split
  ·rename_i h
   have hlt:(c-first).toNat<d.cons.length:=by omega
   refine .inr ⟨0,d,d.cons[(c-first).toNat],rfl,by simp [YO];omega,by simp [YO];omega,?_,?_⟩
   ·simp [YO]
   ·rw [Kn hlt];simp
  ·rcases Ht (c:=c) (ds:=ds) (i:=i+1) (first:=first+d.cons.length) with h|⟨k,e,x,h1,h2,h3,h4,h5⟩
   ·exact .inl h
   ·refine .inr ⟨k+1,e,x,by simpa using h1,by simp [YO];omega,by simp [YO];omega,?_,?_⟩
    ·rw [<-h4];congr 3;simp [YO];omega
    ·rw [h5];congr 1;omega
theorem Hu {ds:List Zf} {c:Int} (h:¬Wf ds c<1) :
  ∃k d x,ds[k]? = some d/\(YO (ds.take k):Int)<=c/\d.cons[(c-YO (ds.take k)).toNat]? = some x/\Wf ds c=(k:Int)+1/\ZV ds c=x.fields:=by
 rcases Ht (c:=c) (ds:=ds) (i:=0) (first:=0) with h1|⟨k,d,x,h1,h2,_,h4,h5⟩
 ·simp [Wf,h1] at h
 ·exact ⟨k,d,x,h1,by simpa using h2,by simpa using h4,by simp [Wf,h5],by simp [ZV,h5]⟩
theorem ES {ds:List Zf} {c:Int} (h:Wf ds c<1):ZV ds c=[]/\Wf ds c=-1:=by
 rcases Ht (c:=c) (ds:=ds) (i:=0) (first:=0) with h1|⟨k,d,x,h1,h2,_,h4,h5⟩
 ·simp [ZV,Wf,h1]
 ·simp [Wf,h5] at h;omega
def Vw (first:Int):Nat->LI
 | 0=>[]
 | n+1=>first::Vw (first+1) n
theorem Pb (first:Int) (n:Nat):Vw first (n+1)=Vw first n++[first+n]:=by
 induction n generalizing first with
 | zero=>simp [Vw]
 | succ n ih=>rw [Vw,ih (first+1),Vw];simp;omega
@[simp] theorem Z9m (first:Int) (n:Nat):(Vw first n).length=n:=by
 induction n generalizing first with
 | zero=>rfl
 | succ n ih=>simp [Vw,ih]
def ZX (ds:List Zf) (t:Int):LI:=
 if 1<=t/\t<=ds.length then Vw (YO (ds.take (t-1).toNat)) (((ds[(t-1).toNat]?).map (·.cons.length)).getD 0) else []
def K7 (frm to_:Int):List Zf->Nat->Int
 | [],_=>-1
 | d::ds,i=>if d.cons.length=0/\d.frm=frm/\d.to_=to_ then (i:Int)+1 else K7 frm to_ ds (i+1)
def Ud (ds:List Zf) (frm to_:Int):Int:=K7 frm to_ ds 0
def XX (ds:List Zf) (t:Int):Bool:=decide (1<=t/\t<=ds.length)&&((ds[(t-1).toNat]?).map fun d=>decide (d.cons.length=0)).getD false
theorem FH {ds:List Zf} {t:Int} {x:Zf} (h:1<=t/\t<=ds.length) (hx:ds[(t-1).toNat]? = some x):((x.cons.length:Int)==0)=XX ds t:=by
 rw [XX,hx,Xs];simp [h]
theorem Ip {ds:List Zf} {t:Int} (h:¬(1<=t/\t<=ds.length)):false=XX ds t:=by
 rw [XX,Xs];simp only [Bool.false_eq_true,W7,decide_eq_true_eq,h,false_and]
def Wi (m:Nat) (xs:LI):Bool:=xs.all fun t=>decide (0<=t/\t<=m)
end Go.Abs
section
namespace Go.Abs
section
variable {h:List Res}
end
end Go.Abs
namespace Go.Abs
section
variable {P:Program} {ops:Array Oper} {k:Nat} {F:Fr} {h:List Res}
end
end Go.Abs
end
namespace Go.Abs
section
variable {P:Program} {n:Nat} {ops:Array Oper} {B:Fr->List Res->Prop} {k:Nat} {F:Fr} {h:List Res} {T:List (Nat × List Nat)} {fuel:Nat} {done:List Nat}
theorem Pp {K:Fr->List Res->Prop} {ls:List AV} {len sz:Nat} (hd:Vt n (ZB ops k)=true) (ha:Tw P ops F k=some (ls,len,sz)) (hlen:ls.length=len*sz)
  (hK:∀g,K (F.put (ZB ops k).dst (.val (.slice (some ⟨g,0,none⟩) len len))) (.row (.slice (some ⟨g,0,none⟩) len len) sz ls::h)):Wx P n (ZB ops k) F h K:=by
 unfold Tw at ha
 generalize hoo:ZB ops k=q at ha hd hK
 obtain ⟨dst,op,type,pos,after,guard⟩:=q
 cases op<;>simp only at ha<;>try (cases ha)
 rename_i t ln parts
 split at ha
 case h_2=>cases ha
 rename_i e ht
 split at ha
 case h_2=>cases ha
 rename_i i hi
 split at ha
 case h_2=>cases ha
 rename_i hc
 simp only [W7] at hc
 split at ha
 case h_2=>cases ha
 rename_i ls' hf
 simp only [Wg,Prod.mk.injEq] at ha
 obtain ⟨rfl,rfl,Xm⟩:=ha
 intro Q w G a hF hh
 obtain ⟨cs,h1,h2⟩:=Gk hF parts ht hi rfl hc.1 hc.2 hf
 have hr:(execOp a.eval { dst:=dst,op:=.buildSlice t ln parts,type:=type,pos:=pos,after:=after,guard:=guard }).run P w =
   .ok (.value (.slice (some ⟨w.heap.size,0,none⟩) ln ln)) (w.alloc (.cells cs e)):=by
  simp only [execOp]
  exact Vf h2
 unfold Oper.wp
 rw [hr]
 have hlc:=h1.length
 simp only [Km] at hlc
 obtain ⟨j1,j2⟩:=hh.alloc_rrow cs e (ls:=ls') (len:=ln) (cap:=ln) (k:=sz) (X5 _) (by rw [hlc];exact hlen) hlen (by rw [<-hlen,<-hlc];simpa [Vq] using h1)
 exact ⟨_,_,G,hK _,(hF.mono (j2.agree hh)).put (UQ hd) .val,j1,j2⟩
theorem UG (es es':List AV) (he:es=es') (len sz:Nat) (hK:∀v,SI P n ops B (k+1) (F.put (ZB ops k).dst (.sl es' (some v))) (.tail v sz::h)) (hk:X6 n ops F k=true:=by kernel_rfl)
  (ha:Tw P ops F k=some (Zo es,len,sz):=by kernel_rfl) (hlen:es.length=len:=by kernel_rfl) (hall:JV es sz=true:=by kernel_rfl):SI P n ops B k F h:=by
 subst he;exact iL es len sz hK hk ha hlen hall
theorem WC (i:Nat) (js bs:List Nat) (es es':List AV) (he:es=es') (len sz:Nat) (hK:∀v,YU P n ops B (T.filter fun t=>!V2 ops i t.1) fuel (done++[i]) (F.put (ZB ops i).dst (.sl es' (some v))) (.tail v sz::h))
  (hk:X6 n ops F i=true:=by kernel_rfl) (ha:Tw P ops F i=some (Zo es,len,sz):=by kernel_rfl) (hlen:es.length=len:=by kernel_rfl) (hall:JV es sz=true:=by kernel_rfl)
  (ho:U2 ops i T=bs:=by kernel_rfl) (hj:js.map (fun j=>(WG h)[j]?)=bs.map some:=by kernel_rfl):Vr P n ops B T fuel done F h i:=by
 subst he;exact dL i js bs es len sz hK hk ha hlen hall ho hj
theorem iKN (ls:List AV) (len sz:Nat) (hK:∀g,SI P n ops B (k+1) (F.put (ZB ops k).dst (.val (.slice (some ⟨g,0,none⟩) len len))) (.row (.slice (some ⟨g,0,none⟩) len len) sz ls::h)) (hlen:ls.length=len*sz:=by rfl) (hk:X6 n ops F k=true:=by kernel_rfl)
  (ha:Tw P ops F k=some (ls,len,sz):=by kernel_rfl):SI P n ops B k F h:=Tq hk (Pp (VI hk).2.1 ha hlen hK)
theorem dKN (i:Nat) (js bs:List Nat) (ls:List AV) (len sz:Nat) (hK:∀g,YU P n ops B (T.filter fun t=>!V2 ops i t.1) fuel (done++[i]) (F.put (ZB ops i).dst (.val (.slice (some ⟨g,0,none⟩) len len))) (.row (.slice (some ⟨g,0,none⟩) len len) sz ls::h)) (hlen:ls.length=len*sz:=by rfl)
  (hk:X6 n ops F i=true:=by kernel_rfl) (ha:Tw P ops F i=some (ls,len,sz):=by kernel_rfl) (ho:U2 ops i T=bs:=by kernel_rfl) (hj:js.map (fun j=>(WG h)[j]?)=bs.map some:=by kernel_rfl):Vr P n ops B T fuel done F h i:=
 Kb (h1:=[]) (h2:=h) [] js bs hk rfl ho hj (Pp (VI hk).2.1 ha hlen hK)
end
theorem Ww.frz {P:Program} {f:FuncId} {as1:List AV} {h0:List Res} {E:Type} {kk:Nat} {es:E->List AV} {hs:E->List Res} {Q:E->Prop} (H:Ww P f as1 h0 (fun r h=>∃(e:E) (v:Hd),r=.h v/\h=rK v kk (Zo (es e))::hs e/\Q e)) (hes:∀e,∀y∈es e,y.leaves.length=kk) (hk:0<kk) :
  Ww P f as1 h0 (fun r h=>∃(e:E) (v:Value),r=.sl (es e) (some v)/\h=.tail v kk::hs e/\Q e):=by
 intro w G vs hv hh
 refine (H w G vs hv hh).mono ?_
 rintro e w' ⟨u,r,h',G',he,⟨x,v,rfl,rfl,hq⟩,hr,hh',hx⟩
 obtain ⟨G2,h1,h2,h3⟩:=C4 hh' (hes x) hk
 have hrv:=hr.val_inv
 subst hrv
 exact ⟨_,_,_,G2,he,⟨x,v.v,rfl,rfl,hq⟩,h3,h1,hx.trans h2⟩
theorem Fk {es:List AV} {sz k:Nat} {y:AV} (h:∀x∈es,x.leaves.length=sz) (hy:y.leaves.length=sz) (hk:k<es.length):(Zo es).take (k*sz)++y.leaves++(Zo es).drop (k*sz+y.leaves.length)=Zo (es.set k y):=by
 obtain ⟨x,hx⟩:=Kd (xs:=es) (j:=k) hk
 have hxl:=h x (Y2 hx)
 have e1:es=es.take k++(x::es.drop (k+1)):=by rw [<-Y7 hx,Ux]
 have e2:es.set k y=es.take k++(y::es.drop (k+1)):=by rw [Eu,Ze hk]
 have hl:(Zo (es.take k)).length=k*sz:=by rw [TD (k:=sz) _ (fun z hz=>h z (TX hz)),WH,VB om]
 have e3:Zo es=Zo (es.take k)++(x.leaves++Zo (es.drop (k+1))):=by
  conv=>lhs;rw [e1,Qh]
  simp [Zo]
 rw [e2,Qh,e3,Lc hl (by rw [hxl,hy])]
 simp [Zo]
theorem Z3a (ds:List Zf) (k:Nat) (d:Zf):X2 (ds.set k d)=(X2 ds).set k (BC d):=by simp [X2,List.map_set]
theorem BO (xs:List Zf):(Zo (X2 xs)).length=xs.length*3:=by rw [TD (k:=3) _ (Jc xs)];simp
theorem Fg {ds:List Zf} {k:Nat} (d:Zf) (hk:k<ds.length):(Zo (X2 ds)).take (k*3)++QL d++(Zo (X2 ds)).drop (k*3+3)=Zo (X2 (ds.set k d)):=by
 rw [Z3a];exact Fk (y:=BC d) (Jc ds) rfl (by simpa using hk)
theorem HV (xs ys:List Zf):Zo (X2 xs)++Zo (X2 ys)=Zo (X2 (xs++ys)):=by rw [Z39,Qh]
section
variable {P:Program} {n:Nat} {ops:Array Oper} {B:Fr->List Res->Prop} {k:Nat} {F:Fr} {h:List Res}
theorem Fz (j m:Nat) {v:Hd} {kk:Nat} {ls:List AV} (hm:ls.length=m*kk) (h0:0<m) (H:∀g c',v=⟨some ⟨g,0,none⟩,m,c'⟩->SI P n ops B k F h) (hk:0<kk:=by omega) (hj:h[j]? = some (rK v kk ls):=by kernel_rfl):SI P n ops B k F h:=by
 intro Q w G a hF hh hq
 obtain ⟨g,c',e⟩:=PM (hh.ok _ (Y2 hj)) hm hk h0
 exact H g c' e Q w G a hF hh hq
end
section
variable {P:Program} {n:Nat} {ops:Array Oper} {B:Fr->List Res->Prop} {k:Nat} {F:Fr} {h:List Res}
def Hv (P:Program) (ops:Array Oper) (F:Fr) (k:Nat):Option (IntKind × Int):=
 match (ZB ops k).op with
 | .convert s d x=>match P.underlying s,P.underlying d,F.ev x with
  | some (.int _),some (.int q),.val (.int _ z)=>some (q,z)
  | _,_,_=>none
 | _=>none
theorem kCv (q:IntKind) (z z':Int) (e:q.wrap z=z') (hc:Hv P ops F k=some (q,z):=by kernel_rfl):Xw P (ZB ops k) F h [] (.val (.int q z')):=by
 unfold Hv at hc
 generalize hoo:ZB ops k=o at hc
 obtain ⟨dst,op,type,pos,after,guard⟩:=o
 cases op<;>simp only at hc<;>try (cases hc)
 rename_i s d x
 split at hc
 ·rename_i q1 q2 q3 z2 h1 h2 h3
  cases hc
  intro n w G ac hF hh
  have v1:=hF.ev x
  rw [h3] at v1
  have v1:=v1.val_inv
  refine ⟨_,.val,fun w' _ _=>?_⟩
  simp only [execOp,v1]
  refine Vf ?_
  simp [convert,VJ h1,VJ h2,Conv.intToInt,e]
 ·cases hc
theorem LZ {z:Int} (h:0<=z/\z<=9223372036854775807):IntKind.i64.wrap z=z:=IntWalk.i64_in _ om
theorem CO (z:Int) (hz:0<=z/\z<=255) (hc:Hv P ops F k=some (.i64,z):=by kernel_rfl):Xw P (ZB ops k) F h [] (.i z):=kCv .i64 z z (LZ om) hc
def AI (ops:Array Oper) (F:Fr) (k:Nat) (b:BinOp):Option (Int × Int):=
 match (ZB ops k).op with
 | .binOp c _ x y _=>if c==b then match F.ev x,F.ev y with
  | .val (.int .i64 z),.val (.int .i64 u)=>some (z,u)
  | _,_=>none else none
 | _=>none
theorem Iv (a b:Int) (hb:0<b) (ha:0<=a/\a<=9223372036854775807) (hc:AI ops F k .quo=some (a,b):=by kernel_rfl):Xw P (ZB ops k) F h [] (.i (a / b)):=by
 unfold AI at hc
 generalize hoo:ZB ops k=o at hc
 obtain ⟨dst,op,type,pos,after,guard⟩:=o
 cases op<;>simp only at hc<;>try (cases hc)
 rename_i bop t x y yt
 cases bop<;>simp only [Zp,reduceCtorEq,if_false,if_true] at hc<;>try (cases hc)
 split at hc
 ·rename_i z yk h1 h2
  cases hc
  intro n' w G ac hF hh
  have v1:=hF.ev x
  have v2:=hF.ev y
  rw [h1] at v1
  rw [h2] at v2
  have v1:=v1.val_inv
  have v2:=v2.val_inv
  refine ⟨_,.val,fun w' _ _=>?_⟩
  simp only [execOp,v1,v2]
  refine Vf ?_
  have e1:a.tdiv b=a / b:=Int.tdiv_eq_ediv_of_nonneg ha.1
  have e2:IntKind.i64.wrap (a / b)=a / b:=LZ ⟨Int.ediv_nonneg ha.1 om,Int.le_trans (Int.ediv_le_self b ha.1) ha.2⟩
  have e3:b≠0:=by omega
  simp [eqGuard,binOp,Op.intDiv,e1,e2,e3]
 ·cases hc
theorem DS (a b:Int) (hb:0<b) (ha:0<=a) (hc:AI ops F k .rem=some (a,b):=by kernel_rfl):Xw P (ZB ops k) F h [] (.i (a % b)):=by
 unfold AI at hc
 generalize hoo:ZB ops k=o at hc
 obtain ⟨dst,op,type,pos,after,guard⟩:=o
 cases op<;>simp only at hc<;>try (cases hc)
 rename_i bop t x y yt
 cases bop<;>simp only [Zp,reduceCtorEq,if_false,if_true] at hc<;>try (cases hc)
 split at hc
 ·rename_i z yk h1 h2
  cases hc
  intro n' w G ac hF hh
  have v1:=hF.ev x
  have v2:=hF.ev y
  rw [h1] at v1
  rw [h2] at v2
  have v1:=v1.val_inv
  have v2:=v2.val_inv
  refine ⟨_,.val,fun w' _ _=>?_⟩
  simp only [execOp,v1,v2]
  refine Vf ?_
  have e1:a.tmod b=a % b:=Int.tmod_eq_emod_of_nonneg ha
  have e3:b≠0:=by omega
  simp [eqGuard,binOp,Op.intDiv,e1,e3]
 ·cases hc
theorem BW (a b:Nat) (hb:0<b) (ha:a<=9223372036854775807) (hc:AI ops F k .quo=some ((a:Int),(b:Int)):=by kernel_rfl):Xw P (ZB ops k) F h [] (.i (a / b:Nat)):=by
 rw [Int.natCast_ediv];exact Iv a b om om hc
theorem FJ (a b:Nat) (hb:0<b) (_ha:a<=9223372036854775807) (hc:AI ops F k .rem=some ((a:Int),(b:Int)):=by kernel_rfl):Xw P (ZB ops k) F h [] (.i (a % b:Nat)):=by
 rw [Int.natCast_emod];exact DS a b om om hc
def Ar (a b:Int):Int:=IntKind.i64.wrap ((BitVec.ofInt 64 a ^^^ BitVec.ofInt 64 b).toNat:Int)
theorem GQ {a b:Int} (ha:0<=a/\a<4611686018427387904) (hb:0<=b/\b<4611686018427387904):0<=Ar a b/\Ar a b<4611686018427387904:=by
 obtain ⟨x,rfl⟩:=Int.eq_ofNat_of_zero_le ha.1
 obtain ⟨y,rfl⟩:=Int.eq_ofNat_of_zero_le hb.1
 have h1:(BitVec.ofInt 64 (x:Int) ^^^ BitVec.ofInt 64 (y:Int)).toNat=x ^^^ y:=by
  rw [BitVec.toNat_xor,BitVec.toNat_ofInt,BitVec.toNat_ofInt]
  have e1:((x:Int) % ((2 ^ 64:Nat):Int)).toNat=x:=by omega
  have e2:((y:Int) % ((2 ^ 64:Nat):Int)).toNat=y:=by omega
  rw [e1,e2]
 have h2:x ^^^ y<2 ^ 62:=Nat.xor_lt_two_pow om om
 rw [Ar,h1,LZ om]
 omega
theorem Ot (a b:Int) (hc:AI ops F k .xor=some (a,b):=by kernel_rfl):Xw P (ZB ops k) F h [] (.i (Ar a b)):=by
 unfold AI at hc
 generalize hoo:ZB ops k=o at hc
 obtain ⟨dst,op,type,pos,after,guard⟩:=o
 cases op<;>simp only at hc<;>try (cases hc)
 rename_i bop t x y yt
 cases bop<;>simp only [Zp,reduceCtorEq,if_false,if_true] at hc<;>try (cases hc)
 split at hc
 ·rename_i z yk h1 h2
  cases hc
  intro n' w G ac hF hh
  have v1:=hF.ev x
  have v2:=hF.ev y
  rw [h1] at v1
  rw [h2] at v2
  have v1:=v1.val_inv
  have v2:=v2.val_inv
  refine ⟨_,.val,fun w' _ _=>?_⟩
  simp only [execOp,v1,v2]
  refine Vf ?_
  simp [eqGuard,binOp,Op.intBits,IntKind.bits]
  exact Ym (fun z:Nat=>IntKind.i64.wrap (z:Int)) (by rw [BitVec.toNat_xor,BitVec.toNat_ofInt,BitVec.toNat_ofInt];rfl)
 ·cases hc
end
end Go.Abs
section
namespace Go.Abs
inductive Z1 where
 | mk (op num:Int) (kids:List Z1)
namespace Z1
def op:Z1->Int|.mk a _ _=>a
def num:Z1->Int|.mk _ a _=>a
def kids:Z1->List Z1|.mk _ _ a=>a
end Z1
structure Func where
 params:LI
 result:Int
 body:Z1
structure W8 where
 decls:List Zf
 funcs:List Func
instance:Inhabited Z1:=⟨.mk 0 0 []⟩
mutual
def HK:Z1->AV
 | .mk op num kids=>.agg [.i op,.i num,.sl (Ys kids) none]
def Ys:List Z1->List AV
 | []=>[]
 | e::r=>HK e::Ys r
end
abbrev Y3 (e:Z1):AV:=.agg [.i e.op,.i e.num,.sl (Ys e.kids) none]
abbrev YX (e:Z1):List AV:=[.i e.op,.i e.num,.sl (Ys e.kids) none]
abbrev Xy (xs:List Z1):AV:=.sl (Ys xs) none
abbrev Qm (xs:List Z1) (v:Value):AV:=.sl (Ys xs) (some v)
abbrev Dn (f:Func):AV:=.agg [Z4 f.params,.i f.result,.i f.body.op,.i f.body.num,Xy f.body.kids]
abbrev FM (f:Func):List AV:=[Z4 f.params,.i f.result,.i f.body.op,.i f.body.num,Xy f.body.kids]
def Xr (xs:List Func):List AV:=xs.map Dn
abbrev FY (xs:List Func):AV:=.sl (Xr xs) none
abbrev JU (p:W8):AV:=.agg [ZU p.decls,FY p.funcs]
abbrev IA (p:W8):List AV:=[ZU p.decls,FY p.funcs]
abbrev H6 (z:Int):AV:=.val (.int .u8 z)
def TL (xs:LI):List AV:=xs.map H6
abbrev U9 (xs:LI):AV:=.sl (TL xs) none
theorem Z3b (e:Z1):HK e=Y3 e:=by cases e;rw [HK];rfl
theorem XN:∀xs:List Z1,Ys xs=xs.map Y3
 | []=>by rw [Ys];rfl
 | s::ss=>by rw [Ys,XN ss,Z3b];rfl
theorem Cu {xs:List Z1} {j:Nat} {x:Z1} (h:xs[j]? = some x):(Ys xs)[j]? = some (Y3 x):=by simp [XN,h]
theorem F5 {xs:List Func} {j:Nat} {x:Func} (h:xs[j]? = some x):(Xr xs)[j]? = some (Dn x):=by simp [Xr,h]
theorem Cq {xs:LI} {j:Nat} {x:Int} (h:xs[j]? = some x):(TL xs)[j]? = some (H6 x):=by simp [TL,h]
@[simp] theorem HL (xs:List Z1):(Ys xs).length=xs.length:=by simp [XN]
@[simp] theorem Cv (xs:List Func):(Xr xs).length=xs.length:=by simp [Xr]
@[simp] theorem Kz (xs:LI):(TL xs).length=xs.length:=by simp [TL]
theorem JA (xs ys:List Z1):Ys (xs++ys)=Ys xs++Ys ys:=by simp [XN]
theorem Z3c (xs ys:List Func):Xr (xs++ys)=Xr xs++Xr ys:=by simp [Xr]
theorem HG (xs:LI) (n:Nat):(TL xs).take n=TL (xs.take n):=by simp [TL]
theorem HF (xs:LI) (n:Nat):(TL xs).drop n=TL (xs.drop n):=by simp [TL]
theorem Tc (xs:List Z1):∀y∈Ys xs,y.leaves.length=3:=by intro y hy;simp only [XN,Wd] at hy;obtain ⟨x,_,rfl⟩:=hy;rfl
theorem F6 (xs:List Func):∀y∈Xr xs,y.leaves.length=5:=by intro y hy;simp only [Xr,Wd] at hy;obtain ⟨x,_,rfl⟩:=hy;rfl
theorem Z37 (xs:LI):∀y∈TL xs,y.leaves.length=1:=by intro y hy;simp only [TL,Wd] at hy;obtain ⟨x,_,rfl⟩:=hy;rfl
theorem JB (xs:List Z1):(Zo (Ys xs)).all AV.one=true:=Je fun y hy=>by simp only [XN,Wd] at hy;obtain ⟨x,_,rfl⟩:=hy;rfl
end Go.Abs
end
section
namespace Go.Abs
open Go.Proofs Go.Proofs.YtjmahledcmocoaaGreat
section
variable {H:Type} {enc:TypeId × Value->H} {w:World}
def GA (w:World):Y9:=fun b _=>b<w.heap.size
abbrev Tr (enc:TypeId × Value->H) (w:World) (n:Nat) (t:TypeId) (cs:List Value) (x:DataW H × List MemPlace):Prop:=DataW.trod enc Tryz.prog w 0 (fun _=>true) true n t cs=some x
theorem OZ {w:World} {a:Addr} {v:Value} (h:w.cell? a=some v):a.block<w.heap.size/\a.spot=none:=by
 unfold World.cell? at h
 split at h
 ·rename_i c e fr hb
  split at h
  ·cases h
  ·rename_i hs
   exact ⟨(UM.1 hb).1,by simpa using hs⟩
 ·cases h
theorem MD {α:Type} {c:α->Nat}:∀{xs:List α} {ds:List (DataW H)},xs.length=ds.length->(∀(i:Nat) a d,xs[i]? = some a->ds[i]? = some d->c a+1<=Rows.uptoBulk d)->(xs.map fun a=>c a+1).sum<=Rows.uptoBulkAll ds
 | [],[],_,_=>X5 _
 | a::r,d::ds,hl,h=>by
  have h0:=h 0 a d rfl rfl
  have h1:=MD (c:=c) (xs:=r) (ds:=ds) (by simpa using hl) fun i a d ha hd=>h (i+1) a d (by simpa using ha) (by simpa using hd)
  rw [Um,List.sum_cons,Rows.uptoBulkAll]
  omega
theorem PE {α:Type} {f:α->AV} {G:Y9} {k b:Nat} (hf:∀x,(f x).leaves.length=k):∀{xs:List α} {o:Nat},(∀(i:Nat) a,xs[i]? = some a->Wr w G b (o+i*k) (f a).leaves)->Vd w G k b o (xs.map f)
 | [],_,_=>.nil
 | x::r,o,h=>by
  refine .cons (hf x) (by have:=h 0 x rfl;simpa using this) (PE hf fun i a ha=>?_)
  have:=h (i+1) a (by simpa using ha)
  rw [show o+(i+1)*k=o+k+i*k by rw [Qe];omega] at this
  exact this
theorem Zao {α:Type} [Inhabited α] {t e k:Nat} (ht:Tryz.prog.underlying t=some (.slice e)) (hk:Tryz.prog.cellsOf e=k) (h0:0<k) (f:α->AV) (hf:∀x,(f x).leaves.length=k) (c:α->Nat) (Q:α->Prop) {n:Nat} {cs:List Value} {x:DataW H × List MemPlace}
  (h:Tr enc w n t cs x) (el:∀m cs y,m<n->Tr enc w m e cs y->∃a:α,YQ w (GA w) (f a).leaves cs/\c a+1<=Rows.uptoBulk y.1/\Q a) :
  ∃(v:Value) (xs:List α),cs=[v]/\RV w (GA w) (.sl (xs.map f) none) v/\(xs.map fun a=>c a+1).sum+1<=Rows.uptoBulk x.1/\∀a∈xs,Q a:=by
 rcases DataW.trod_slice ht h with ⟨rfl,rfl⟩|⟨a,len,cap,elems,rest,m,rfl,rfl,rfl,_,hlc,_,hlen,hel,_,_⟩
 ·exact ⟨_,[],rfl,.nil (by simp),by simp [Rows.uptoBulk],by simp⟩
 ·rw [hk] at hel
  have hone:∀i,i<len->∃z:α,∃cs' y,w.cells? 0 (a.add (i*k)) k=some cs'/\elems[i]? = some y/\YQ w (GA w) (f z).leaves cs'/\c z+1<=Rows.uptoBulk y.1/\Q z:=by
   intro i hi
   have h1:=hel i hi
   rw [Kn om] at h1
   obtain ⟨cs',h2,h3⟩:=Option.bind_eq_some_iff.1 h1
   obtain ⟨z,hz1,hz2,hz3⟩:=el m cs' _ om h3
   exact ⟨z,cs',_,h2,Kn om,hz1,hz2,hz3⟩
  obtain ⟨V,hV⟩:=Go.Deep.choose_lt hone
  refine ⟨_,(List.range len).map V,rfl,?_,?_,?_⟩
  ·cases hl0:len with
   | zero=>exact .nil (by simp)
   | succ q=>
    have hsp:a.spot=none:=by
     obtain ⟨cs',y,g1,_⟩:=hV 0 om
     obtain ⟨_,g2,g3⟩:=World.cells?_some g1
     have g4:=g3 0 h0
     rw [Kn om] at g4
     have g5:=(OZ g4).2
     simpa [Addr.add] using g5
    obtain ⟨b,o,sp⟩:=a
    simp only at hsp
    subst hsp
    rw [<-hl0]
    have hll:(((List.range len).map V).map f).length=len:=by simp
    have:=RV.sl (w:=w) (G:=GA w) (es:=((List.range len).map V).map f) (hv:=none) (b:=b) (o:=o) (k:=k) (cap:=cap) (by simp) (by rw [hll];exact hlc) (PE hf fun i z hz=>by
     have hi:i<len:=by have:=(Xp.1 hz).1;simpa using this
     have hz':V i=z:=by simpa [hi] using hz
     obtain ⟨cs',y,g1,_,g2,_⟩:=hV i hi
     rw [hz'] at g2
     obtain ⟨_,g3,g4⟩:=World.cells?_some g1
     refine Wr.of_cells g2 fun j u hj=>?_
     have hjl:j<k:=by have:=(Xp.1 hj).1;omega
     have g5:=(g4 j hjl).trans hj
     rw [Addr.add_lit,Addr.add_lit] at g5
     exact ⟨g5,(OZ g5).1⟩)
    rw [hll] at this
    exact this
  ·have:=MD (c:=c) (xs:=(List.range len).map V) (ds:=elems.map (·.1)) (by simp [hlen]) fun i z d hz hd=>by
    have hi:i<len:=by have:=(Xp.1 hz).1;simpa using this
    have hz':V i=z:=by simpa [hi] using hz
    obtain ⟨cs',y,_,g1,_,g2,_⟩:=hV i hi
    rw [T6,g1] at hd
    simp only [Bv,Wg] at hd
    rw [<-hd,<-hz']
    exact g2
   simp only [Rows.uptoBulk]
   omega
  ·intro z hz
   obtain ⟨i,hi,rfl⟩:=Wd.1 hz
   obtain ⟨_,_,_,_,_,_,g⟩:=hV i (List.mem_range.1 hi)
   exact g
theorem Zam {n:Nat} {cs:List Value} {x:DataW H × List MemPlace} (h:Tr enc w n 5 cs x):∃z:Int,cs=[.int .u8 z]/\Rows.uptoBulk x.1=1/\0<=z/\z<=255:=by
 obtain ⟨z,rfl,rfl,hw⟩:=DataW.trod_int Tryz.underlying5 h
 refine ⟨z,rfl,rfl,?_⟩
 simpa [Lit.wf,IntKind.min,IntKind.max,IntKind.signed,IntKind.bits] using hw
theorem Zan {n:Nat} {cs:List Value} {x:DataW H × List MemPlace} (h:Tr enc w n 22 cs x):∃(v:Value) (xs:LI),cs=[v]/\RV w (GA w) (U9 xs) v/\∀z∈xs,0<=z/\z<=255:=by
 obtain ⟨v,xs,h1,h2,h3,h4⟩:=Zao Tryz.underlying22 (k:=1) kr om (fun z:Int=>H6 z) (fun _=>rfl) (fun _=>0) (fun z=>0<=z/\z<=255) h fun m cs y _ hy=>by
  obtain ⟨z,rfl,hb,hz⟩:=Zam hy
  exact ⟨z,.cons .val .nil,Nat.le_of_eq hb.symm,hz⟩
 exact ⟨v,xs,h1,h2,h4⟩
end
end Go.Abs
end
namespace Go.Abs
structure Sg where
 params:LI
 result:Int
abbrev M6 (f:Sg):AV:=.agg [.sl (Z6 f.params) none,.i f.result,.i 0,.i 0,.sl [] none]
def Uf (fs:List Sg):List AV:=fs.map M6
theorem HO {xs:List Sg} {j:Nat} {x:Sg} (h:xs[j]? = some x):(Uf xs)[j]? = some (M6 x):=by simp [Uf,h]
@[simp] theorem N5 (xs:List Sg):(Uf xs).length=xs.length:=by simp [Uf]
theorem N4 (xs:List Sg):∀y∈Uf xs,y.leaves.length=5:=by intro y hy;simp only [Uf,Wd] at hy;obtain ⟨x,_,rfl⟩:=hy;rfl
theorem Z3g (xs:List Sg):(Zo (Uf xs)).all AV.one=true:=Je fun y hy=>by simp only [Uf,Wd] at hy;obtain ⟨x,_,rfl⟩:=hy;rfl
mutual
def Z5.sz:Z5->Nat
 | .mk _ _ _ args kids=>1+args.length+X9 kids
def Z9.sz:Z9->Nat
 | .mk steps _=>1+Y8 steps
def Y8:List Z5->Nat
 | []=>0
 | s::r=>s.sz+Y8 r
def X9:List Z9->Nat
 | []=>0
 | b::r=>b.sz+X9 r
end
theorem Z5.sz_pos (s:Z5):1<=s.sz:=by cases s;rw [Z5.sz];omega
theorem Z9.sz_pos (b:Z9):1<=b.sz:=by cases b;rw [Z9.sz];omega
theorem KV (l:List Z5):l.length<=Y8 l:=by
 induction l with
 | nil=>simp
 | cons s r ih=>have:=s.sz_pos;simp only [YR,Y8];omega
theorem MA (l:List Z9):l.length<=X9 l:=by
 induction l with
 | nil=>simp
 | cons s r ih=>have:=s.sz_pos;simp only [YR,X9];omega
theorem RD {l:List Z5} {k:Nat} {s:Z5} (h:l[k]? = some s):s.sz<=Y8 l:=by
 induction l generalizing k with
 | nil=>simp at h
 | cons t r ih=>
  cases k with
  | zero=>simp at h;subst h;simp only [Y8];omega
  | succ k=>have:=ih (k:=k) (by simpa using h);simp only [Y8];omega
theorem Z11 {l:List Z9} {k:Nat} {s:Z9} (h:l[k]? = some s):s.sz<=X9 l:=by
 induction l generalizing k with
 | nil=>simp at h
 | cons t r ih=>
  cases k with
  | zero=>simp at h;subst h;simp only [X9];omega
  | succ k=>have:=ih (k:=k) (by simpa using h);simp only [X9];omega
theorem Z5.sz_eq (s:Z5):s.sz=1+s.args.length+X9 s.kids:=by cases s;rw [Z5.sz];rfl
theorem Z9.sz_eq (b:Z9):b.sz=1+Y8 b.steps:=by cases b;rw [Z9.sz];rfl
theorem Kl {b:Z9} {k:Nat} {s:Z5} (h:b.steps[k]? = some s):s.sz<b.sz:=by have:=RD h;have:=b.sz_eq;omega
theorem Tt {s:Z5} {k:Nat} {b:Z9} (h:s.kids[k]? = some b):b.sz<s.sz:=by have:=Z11 h;have:=s.sz_eq;omega
theorem Qf (s:Z5):s.args.length<s.sz:=by have:=s.sz_eq;omega
theorem Tv (s:Z5):s.kids.length<s.sz:=by have:=s.sz_eq;have:=MA s.kids;omega
theorem VS (b:Z9):b.steps.length<b.sz:=by have:=b.sz_eq;have:=KV b.steps;omega
structure JR (ds:List Zf):Prop where
 len:ds.length<=4194304
 cons:∀d∈ds,d.cons.length<=4194304
 fields:∀d∈ds,∀c∈d.cons,c.fields.length<=4194304
theorem JR.cons_at {ds:List Zf} (h:JR ds) {k:Nat} {d:Zf} (hd:ds[k]? = some d):d.cons.length<=4194304:=h.cons d (Y2 hd)
def Ja (m:Nat) (c:Yk):Bool:=decide (c.fields.length<=3)&&Wi m c.fields
def QC (d:Zf):List Zf->Bool
 | []=>false
 | e::r=>if e.cons.length=0/\e.frm=d.frm/\e.to_=d.to_ then true else QC d r
def TC (m:Nat):List Yk->Bool
 | []=>true
 | c::r=>if Ja m c=true then TC m r else false
def UC (ds:List Zf) (d:Zf) (i:Nat):Bool:=
 if 0<d.cons.length then (if d.cons.length<=3/\d.frm=0/\d.to_=0 then TC ds.length d.cons else false)
 else if QC d (ds.take i)=true then false else decide (0<=d.frm/\d.frm<=ds.length)&&decide (0<=d.to_/\d.to_<=ds.length)
def BI (ds:List Zf) (i:Nat):Bool:=(ds[i]?.map fun d=>UC ds d i).getD false
theorem Dx {ds:List Zf} {i:Nat} {d:Zf} (h:ds[i]? = some d):BI ds i=UC ds d i:=by rw [BI,h];rfl
def Ta (ds:List Zf):List Zf->Nat->Bool
 | [],_=>true
 | _::r,i=>if BI ds i=true then Ta ds r (i+1) else false
def WT (ds:List Zf):Bool:=decide (ds.length<=4)&&Ta ds ds 0
theorem MT {m:Nat} {cs:List Yk}:TC m cs=true↔∀c∈cs,Ja m c=true:=by
 induction cs with
 | nil=>simp [TC]
 | cons c r ih=>
  rw [TC]
  split
  ·rename_i h;simp [ih,h]
  ·rename_i h;simp [h]
theorem Hy {ds:List Zf}:∀{l:List Zf} {i:Nat},Ta ds l i=true↔∀j<l.length,BI ds (i+j)=true
 | [],i=>by simp [Ta]
 | d::r,i=>by
  rw [Ta]
  split
  ·rename_i h
   rw [Hy (l:=r)]
   constructor
   ·intro hq j hj
    cases j with
    | zero=>exact h
    | succ j=>have:=hq j (by simpa using hj);rwa [show i+(j+1)=i+1+j by omega]
   ·intro hq j hj
    have:=hq (j+1) (by simpa using hj)
    rwa [show i+(j+1)=i+1+j by omega] at this
  ·rename_i h
   simp only [Bool.false_eq_true,false_iff]
   intro hq
   exact h (hq 0 (by simp))
theorem Zeu {ds:List Zf} (h:WT ds=true):WI ds:=by
 simp only [WT,W7,decide_eq_true_eq] at h
 obtain ⟨h1,h2⟩:=h
 rw [Hy] at h2
 have key:∀d∈ds,∃i,UC ds d i=true:=fun d hd=>by
  obtain ⟨i,hi⟩:=List.mem_iff_getElem?.1 hd
  have:=h2 i (Xp.1 hi).1
  rw [Vc,Dx hi] at this
  exact ⟨i,this⟩
 have hc:∀d∈ds,0<d.cons.length->d.cons.length<=3/\TC ds.length d.cons=true:=fun d hd hp=>by
  obtain ⟨i,hi⟩:=key d hd
  rw [UC,Ze hp] at hi
  split at hi
  ·rename_i h;exact ⟨h.1,hi⟩
  ·cases hi
 refine ⟨h1,fun d hd=>?_,fun d hd c hc'=>?_⟩
 ·by_cases hp:0<d.cons.length
  ·exact (hc d hd hp).1
  ·omega
 ·have:=MT.1 (hc d hd (List.length_pos_of_mem hc')).2 c hc'
  simp only [Ja,W7,decide_eq_true_eq] at this
  exact this.1
def KR (m:Nat) (f:Sg):Bool:=decide (f.params.length<=3)&&(Wi m f.params&&decide (0<=f.result/\f.result<=m))
def KS (m:Nat):List Sg->Bool
 | []=>true
 | f::r=>if KR m f=true then KS m r else false
def Ff:List Sg->Bool
 | []=>false
 | f::_=>decide (f.params.length=0)&&decide (f.result=0)
theorem Z3x {fs:List Sg} {x:Sg} (h:fs[0]? = some x):Ff fs=(decide (x.params.length=0)&&decide (x.result=0)):=by
 cases fs with
 | nil=>simp at h
 | cons f r=>simp at h;subst h;rfl
def QZ (ds:List Zf) (fs:List Sg):Bool:=
 WT ds&&(decide (1<=fs.length/\fs.length<=4)&&(KS ds.length fs&&Ff fs))
def Ql (ps:LI):LI->Option Int->Bool
 | [],_=>true
 | v::r,prev=>if (0<=v/\v<=(ps.length:Int)-1)/\ps[v.toNat]?≠some 0/\(∀p,prev=some p->p<v) then Ql ps r (some v) else false
theorem IF {ps r:LI} {v:Int} {prev:Option Int} (h:(0<=v/\v<=(ps.length:Int)-1)/\ps[v.toNat]?≠some 0/\(∀p,prev=some p->p<v)):Ql ps (v::r) prev=Ql ps r (some v):=by
 rw [Ql,Ze h]
theorem FU {ps r:LI} {v:Int} {prev:Option Int} (h:¬((0<=v/\v<=(ps.length:Int)-1)/\ps[v.toNat]?≠some 0/\(∀p,prev=some p->p<v))):Ql ps (v::r) prev=false:=by
 rw [Ql,Z8 h]
def J1 (ps ls:LI):Bool:=Ql ps ls none
def KN:List Yf->Bool
 | []=>true
 | r::rs=>if J1 r.params r.lent=true then KN rs else false
def Uu (r:Yf):Sg:=⟨r.params,r.result⟩
def U1 (n:Zk):Bool:=decide (n.routines.length<=4)&&(QZ n.decls (n.routines.map Uu)&&KN n.routines)
end Go.Abs
section
namespace Go.Abs
def XA {α:Type} (xs:List α) (i:Int):Option α:=if 0<=i/\i<=(xs.length:Int)-1 then xs[i.toNat]? else none
theorem Q0 {α:Type} {xs:List α} {i:Int} {x:α} (h:0<=i/\i<=(xs.length:Int)-1) (hx:xs[i.toNat]? = some x):XA xs i=some x:=by rw [XA,Ze h,hx]
theorem K8 {α:Type} {xs:List α} {i:Int} (h:¬(0<=i/\i<=(xs.length:Int)-1)):XA xs i=none:=by rw [XA,Z8 h]
theorem J6 {α:Type} {xs:List α} {i:Int} {x:α} (h:XA xs i=some x):(0<=i/\i<=(xs.length:Int)-1)/\xs[i.toNat]? = some x:=by
 rw [XA] at h
 split at h
 ·rename_i h1;exact ⟨h1,h⟩
 ·cases h
def T2 (vars:LI):LI->LI->Bool
 | [],[]=>true
 | a::as1,t::ts=>if XA vars a=some t then T2 vars as1 ts else false
 | _,_=>false
def Wc (vars args types:LI):Bool:=T2 vars args types
theorem S6 {vars:LI}:∀{args types:LI},args.length≠types.length->T2 vars args types=false
 | [],[],h=>absurd rfl h
 | [],_::_,_=>rfl
 | _::_,[],_=>rfl
 | a::as1,t::ts,h=>by
  rw [T2]
  split
  ·exact S6 (by simpa using h)
  ·rfl
theorem Zem {vars args types:LI} {k:Nat} {a t:Int} (ha:args[k]? = some a) (ht:types[k]? = some t) (h:XA vars a=some t) :
  T2 vars (args.drop k) (types.drop k)=T2 vars (args.drop (k+1)) (types.drop (k+1)):=by
 rw [Y7 ha,Y7 ht,T2,Ze h]
theorem S5 {vars args types:LI} {k:Nat} {a t:Int} (ha:args[k]? = some a) (ht:types[k]? = some t) (h:XA vars a≠some t) :
  T2 vars (args.drop k) (types.drop k)=false:=by
 rw [Y7 ha,Y7 ht,T2,Z8 h]
theorem Zel {vars args types:LI} {k:Nat} (ha:args.length<=k) (ht:types.length<=k):T2 vars (args.drop k) (types.drop k)=true:=by
 rw [Xi ha,Xi ht];rfl
def VH (op:Int):Bool:=op==0||(op==6||(op==8||(op==9||op==10)))
def XM (op:Int):Bool:=decide (0<=op/\op<=11)
def YC (op:Int):Bool:=decide (14<=op/\op<=17)
def Ul (vars:LI) (op into:Int):Bool:=
 if into=0 then true else if op=6 then ((XA vars (into-1)).map fun t=>decide (0<t)).getD false else false
def Kw (ds:List Zf) (ps:LI) (res:Int):Int:=Ud ds (ps.getLast?.getD 0) res
def Kh (ds:List Zf) (vars:LI) (op:Int) (args:LI) (r:Yf):Int:=
 if op=9 then (if Wc vars args r.params=true then r.result else -1)
 else if r.params.length=0∨0<r.lent.length∨¬Wc vars args (r.params.take (r.params.length-1))=true then -1
 else Kw ds r.params r.result
def Tx (n:Zk) (vars:LI) (op num:Int) (args:LI):Int:=
 match XA n.routines num with
 | none=>-1
 | some r=>Kh n.decls vars op args r
def Qg (ds:List Zf) (vars:LI) (op:Int) (args:LI):Int:=
 match args with
 | [a]=>match XA vars a with
  | some t=>if t=0 then -1 else if (op≠14/\op≠15)/\XX ds t=true then -1 else 0
  | none=>-1
 | _=>-1
def Qx (ds:List Zf) (vars:LI) (args:LI):Int:=
 match args with
 | [a,b]=>match XA vars a with
  | some t=>if XX ds t=true then
    (match ds[(t-1).toNat]? with
     | some d=>if Wc vars [b] [d.frm]=true then d.to_ else -1
     | none=>-1) else -1
  | none=>-1
 | _=>-1
def Xn (ds:List Zf) (op num:Int):List LI:=if op=7 then [[],[]] else (ZX ds num).map (ZV ds)
mutual
def Yc (n:Zk) (vars:LI):Z5->Int
 | .mk op num into args kids=>
  if (num≠0/\¬VH op=true)∨¬Ul vars op into=true∨(0<kids.length/\op≠7/\op≠8) then -1
  else if op=0 then (if args.length=0/\(-999<=num/\num<=999) then 0 else -1)
  else if op=1∨op=2∨op=3∨op=4 then (if Wc vars args [0,0]=true then 0 else -1)
  else if op=5 then (if Wc vars args [0]=true then 0 else -1)
  else if op=6 then (if 0<Wf n.decls num/\Wc vars args (ZV n.decls num)=true then Wf n.decls num else -1)
  else if op=7 then (if Wc vars args [0]=true then (if (Xn n.decls op num).length=0∨kids.length≠(Xn n.decls op num).length then -1 else WY n vars kids (Xn n.decls op num) true 0) else -1)
  else if op=8 then (if Wc vars args [num]=true then (if (Xn n.decls op num).length=0∨kids.length≠(Xn n.decls op num).length then -1 else WY n vars kids (Xn n.decls op num) true 0) else -1)
  else if op=9∨op=10 then Tx n vars op num args
  else if op=11 then Qx n.decls vars args
  else if op=14∨op=15∨op=16∨op=17 then Qg n.decls vars op args
  else -1
def WY (n:Zk) (vars:LI):List Z9->List LI->Bool->Int->Int
 | [],_,_,t=>t
 | b::bs,more,first,t=>
  match more with
  | []=>-1
  | m::ms=>if Xq n (vars++m) b<0∨(first=false/\Xq n (vars++m) b≠t) then -1 else WY n vars bs ms false (Xq n (vars++m) b)
def XH (n:Zk):List Z5->LI->Option LI
 | [],vars=>some vars
 | s::r,vars=>if Yc n vars s<0 then none else XH n r (if XM s.op=true then vars++[Yc n vars s] else vars)
def Xq (n:Zk) (vars:LI):Z9->Int
 | .mk steps result=>match XH n steps vars with
  | none=>-1
  | some vs=>(XA vs result).getD (-1)
end
def Tu (n:Zk) (vars:LI) (op num:Int) (kids:List Z9):Int:=
 if (Xn n.decls op num).length=0∨kids.length≠(Xn n.decls op num).length then -1 else WY n vars kids (Xn n.decls op num) true 0
mutual
def AW:Z5->Int->Int
 | .mk _ _ _ _ kids,left=>Qa kids left
def WM:Z9->Int->Int
 | .mk steps _,left=>TP steps left
def TP:List Z5->Int->Int
 | [],left=>left
 | s::r,left=>if left<1 then -1 else if AW s (left-1)<0 then -1 else TP r (AW s (left-1))
def Qa:List Z9->Int->Int
 | [],left=>left
 | b::r,left=>if WM b left<0 then -1 else Qa r (WM b left)
end
def TG (b:Z9):Int:=if WM b 600<0 then -1 else 600-WM b 600
def QS (n:Zk):List Yf->Bool
 | []=>true
 | r::rs=>if ¬TG r.body<0/\Xq n r.params r.body=r.result then QS n rs else false
def XL (n:Zk):Bool:=U1 n&&QS n n.routines
theorem IE:(∀(s:Z5) (l:Int),0<=l->AW s l<=l)/\(∀(b:Z9) (l:Int),0<=l->WM b l<=l):=by
 have key:∀m:Nat,(∀s:Z5,s.sz<=m->∀l:Int,0<=l->AW s l<=l)/\(∀b:Z9,b.sz<=m->∀l:Int,0<=l->WM b l<=l):=by
  intro m
  induction m with
  | zero=>exact ⟨fun s h=>by have:=s.sz_pos;omega,fun s h=>by have:=s.sz_pos;omega⟩
  | succ m ih=>
   refine ⟨fun s hs l hl=>?_,fun b hb l hl=>?_⟩
   ·cases s with
    | mk op num into args kids=>
     rw [AW]
     have hk:X9 kids<=m:=by rw [Z5.sz] at hs;omega
     clear hs
     induction kids generalizing l with
     | nil=>rw [Qa];exact Int.le_refl _
     | cons b r ihr=>
      rw [X9] at hk
      have:=ih.2 b om l hl
      rw [Qa]
      split
      ·omega
      ·have:=ihr (WM b l) om om;omega
   ·cases b with
    | mk steps res=>
     rw [WM]
     have hk:Y8 steps<=m:=by rw [Z9.sz] at hb;omega
     clear hb
     induction steps generalizing l with
     | nil=>rw [TP];exact Int.le_refl _
     | cons s r ihr=>
      rw [Y8] at hk
      rw [TP]
      split
      ·omega
      ·have:=ih.1 s om (l-1) om
       split
       ·omega
       ·have:=ihr (AW s (l-1)) om om;omega
 exact ⟨fun s l hl=>(key s.sz).1 s (X5 _) l hl,fun b l hl=>(key b.sz).2 b (X5 _) l hl⟩
end Go.Abs
namespace Go.Abs
theorem Zde {l:List Z5} {k:Nat} {s:Z5} (h:l[k]? = some s):k+s.sz<=Y8 l:=by
 induction l generalizing k with
 | nil=>simp at h
 | cons t r ih=>
  cases k with
  | zero=>simp at h;subst h;simp only [Y8];omega
  | succ k=>have:=ih (k:=k) (by simpa using h);have:=t.sz_pos;simp only [Y8];omega
theorem C8 {b:Z9} {k:Nat} {s:Z5} (h:b.steps[k]? = some s):k+s.sz<b.sz:=by have:=Zde h;have:=b.sz_eq;omega
structure X4 (n:Zk):Prop where
 decls:WI n.decls
 len:n.routines.length<=4
 params:∀r∈n.routines,r.params.length<=3
 lent:∀r∈n.routines,r.lent.length<=4194304
theorem X4.params_at {n:Zk} (h:X4 n) {k:Nat} {r:Yf} (hr:n.routines[k]? = some r):r.params.length<=3:=h.params r (Y2 hr)
theorem X4.lent_at {n:Zk} (h:X4 n) {k:Nat} {r:Yf} (hr:n.routines[k]? = some r):r.lent.length<=4194304:=h.lent r (Y2 hr)
theorem Z0e {ds:List Zf} {num:Int} {k:Nat} {x:Int} (h:(ZX ds num)[k]? = some x):(Xn ds 8 num)[k]? = some (ZV ds x):=by
 rw [Xn,Z8 om,T6,h];rfl
end Go.Abs
namespace Go.Abs
theorem IP {ds:List Zf} (hd:WI ds) (t:Int):(ZX ds t).length<=3:=by
 rw [ZX]
 split
 ·rename_i h
  obtain ⟨d,hd1⟩:=Kd (xs:=ds) (j:=(t-1).toNat) om
  rw [hd1,Z9m]
  exact hd.cons_at hd1
 ·simp
theorem U6 {ds:List Zf} (hd:WI ds) (c:Int):(ZV ds c).length<=3:=by
 by_cases h:Wf ds c<1
 ·rw [(ES h).1];simp
 ·obtain ⟨k,d,x,h1,_,h3,_,h5⟩:=Hu h
  rw [h5];exact hd.fields_at h1 h3
theorem EF {ds:List Zf} (hd:WI ds) {op num:Int} {k:Nat} {m:LI} (h:(Xn ds op num)[k]? = some m):m.length<=3:=by
 have hm:=Y2 h
 rw [Xn] at hm
 split at hm
 ·simp at hm;subst hm;simp
 ·obtain ⟨c,_,rfl⟩:=Wd.1 hm;exact U6 hd c
theorem Kv {α:Type} {xs:List α} {x:α} (h:xs.length=1) (hx:xs[0]? = some x):xs=[x]:=by
 cases xs with
 | nil=>simp at h
 | cons a r=>
  cases r with
  | nil=>simp at hx;rw [hx]
  | cons b r=>simp at h
theorem Cl {ds:List Zf} {us args:LI} {op:Int} (h:args.length≠1):Qg ds us op args=-1:=by
 cases args with
 | nil=>rfl
 | cons a r=>
  cases r with
  | nil=>simp at h
  | cons b r=>rfl
theorem Cm {ds:List Zf} {us args:LI} {op a:Int} (h:args=[a]) (hi:¬(0<=a/\a<=(us.length:Int)-1)):Qg ds us op args=-1:=by
 subst h;rw [Qg];simp only [K8 hi]
theorem Ck {ds:List Zf} {us args:LI} {op a t:Int} (h:args=[a]) (hi:0<=a/\a<=(us.length:Int)-1) (ht:us[a.toNat]? = some t) :
  Qg ds us op args=if t=0 then -1 else if (op≠14/\op≠15)/\XX ds t=true then -1 else 0:=by
 subst h;rw [Qg];simp only [Q0 hi ht]
theorem Zb0 {n:Zk} {us args:LI} {op num:Int} {r:Yf} (hi:0<=num/\num<=(n.routines.length:Int)-1) (hr:n.routines[num.toNat]? = some r) :
  Tx n us op num args=Kh n.decls us op args r:=by
 rw [Tx];simp only [Q0 hi hr]
theorem Zb1 {n:Zk} {us args:LI} {op num:Int} (hi:¬(0<=num/\num<=(n.routines.length:Int)-1)):Tx n us op num args=-1:=by
 rw [Tx];simp only [K8 hi]
theorem NQ {xs:LI} {x:Int} (h:xs[xs.length-1]? = some x):xs.getLast?.getD 0=x:=by
 rw [List.getLast?_eq_getElem?,h];rfl
theorem OE {n:Zk} {us:LI} {bs:List Z9} {ms:List LI} {b:Z9} {m:LI} {k:Nat} {t:Int} (hb:bs[k]? = some b) (hm:ms[k]? = some m)
  (h:¬(Xq n (us++m) b<0∨(k:Int)>0/\Xq n (us++m) b≠t)) :
  WY n us (bs.drop k) (ms.drop k) (decide (k=0)) t=WY n us (bs.drop (k+1)) (ms.drop (k+1)) (decide (k+1=0)) (Xq n (us++m) b):=by
 rw [Y7 hb,Y7 hm,WY,Z8]
 ·simp
 ·rintro (q|⟨q1,q2⟩)
  ·exact h (.inl q)
  ·exact h (.inr ⟨by simp at q1;omega,q2⟩)
theorem OC {n:Zk} {us:LI} {bs:List Z9} {ms:List LI} {b:Z9} {m:LI} {k:Nat} {t:Int} (hb:bs[k]? = some b) (hm:ms[k]? = some m)
  (h:Xq n (us++m) b<0∨(k:Int)>0/\Xq n (us++m) b≠t) :
  WY n us (bs.drop k) (ms.drop k) (decide (k=0)) t=-1:=by
 rw [Y7 hb,Y7 hm,WY,Ze]
 rcases h with q|⟨q1,q2⟩
 ·exact .inl q
 ·exact .inr ⟨by simp;omega,q2⟩
theorem OD {n:Zk} {us:LI} {bs:List Z9} {ms:List LI} {k:Nat} {f:Bool} {t:Int} (hb:bs.length<=k):WY n us (bs.drop k) (ms.drop k) f t=t:=by
 rw [Xi hb,WY]
end Go.Abs
end
namespace Go.Abs
theorem An (n:Zk) (us:LI) (s:Z5):Yc n us s =
  if (s.num≠0/\¬VH s.op=true)∨¬Ul us s.op s.into=true∨(0<s.kids.length/\s.op≠7/\s.op≠8) then -1
  else if s.op=0 then (if s.args.length=0/\(-999<=s.num/\s.num<=999) then 0 else -1)
  else if s.op=1∨s.op=2∨s.op=3∨s.op=4 then (if Wc us s.args [0,0]=true then 0 else -1)
  else if s.op=5 then (if Wc us s.args [0]=true then 0 else -1)
  else if s.op=6 then (if 0<Wf n.decls s.num/\Wc us s.args (ZV n.decls s.num)=true then Wf n.decls s.num else -1)
  else if s.op=7 then (if Wc us s.args [0]=true then Tu n us s.op s.num s.kids else -1)
  else if s.op=8 then (if Wc us s.args [s.num]=true then Tu n us s.op s.num s.kids else -1)
  else if s.op=9∨s.op=10 then Tx n us s.op s.num s.args
  else if s.op=11 then Qx n.decls us s.args
  else if s.op=14∨s.op=15∨s.op=16∨s.op=17 then Qg n.decls us s.op s.args
  else -1:=by
 cases s with
 | mk op num into args kids=>rw [Yc];rfl
theorem Ds (n:Zk) (us:LI) (b:Z9):Xq n us b=match XH n b.steps us with
  | none=>-1
  | some vs=>(XA vs b.result).getD (-1):=by
 cases b with
 | mk st r=>rw [Xq];rfl
theorem Mj {α:Type} {xs:List α} {x:α} (h:xs.length=2) (hx:xs[0]? = some x):∃y,xs=[x,y]:=by
 match xs,h with
 | [a,b],_=>simp at hx;subst hx;exact ⟨b,rfl⟩
theorem UN {ds:List Zf} {us args:LI} (h:args.length≠2):Qx ds us args=-1:=by
 match args,h with
 | [],_=>rfl
 | [_],_=>rfl
 | [_,_],h=>simp at h
 | _::_::_::_,_=>rfl
theorem UO {ds:List Zf} {us args:LI} {a:Int} (hl:args.length=2) (h:args[0]? = some a) (hi:¬(0<=a/\a<=(us.length:Int)-1)):Qx ds us args=-1:=by
 obtain ⟨y,rfl⟩:=Mj hl h;rw [Qx];simp only [K8 hi]
theorem UB {ds:List Zf} {us args:LI} {a t:Int} (hl:args.length=2) (h:args[0]? = some a) (hi:0<=a/\a<=(us.length:Int)-1) (ht:us[a.toNat]? = some t) :
  Qx ds us args=if XX ds t=true then
    (match ds[(t-1).toNat]? with
     | some d=>if Wc us (args.drop 1) [d.frm]=true then d.to_ else -1
     | none=>-1) else -1:=by
 obtain ⟨y,rfl⟩:=Mj hl h;rw [Qx];simp only [Q0 hi ht];rfl
theorem Z06 {ds:List Zf} {us args:LI} {a t:Int} {d:Zf} (hl:args.length=2) (h:args[0]? = some a) (hi:0<=a/\a<=(us.length:Int)-1) (ht:us[a.toNat]? = some t)
  (hA:XX ds t=true) (hd:ds[(t-1).toNat]? = some d):Qx ds us args=if Wc us (args.drop 1) [d.frm]=true then d.to_ else -1:=by
 rw [UB hl h hi ht,Ze hA];simp only [hd]
theorem Iq {ds:List Zf} {t:Int} (h:XX ds t=true):1<=t/\t<=ds.length:=by
 simp only [XX,W7,decide_eq_true_eq] at h;exact h.1
theorem OP (b:Z9) (l:Int):WM b l=TP b.steps l:=by cases b;rw [WM];rfl
theorem FT (s:Z5) (l:Int):AW s l=Qa s.kids l:=by cases s;rw [AW];rfl
structure Uc (n:Zk):Prop where
 decls:JR n.decls
 len:n.routines.length<=4194304
 params:∀r∈n.routines,r.params.length<=4194304
 lent:∀r∈n.routines,r.lent.length<=4194304
 body:∀r∈n.routines,r.body.sz<=10000000
theorem Lp {m:Nat} {fs:List Sg} (h:KS m fs=true):∀f∈fs,KR m f=true:=by
 induction fs with
 | nil=>simp
 | cons f r ih=>
  rw [KS] at h
  split at h
  ·rename_i h1
   intro g hg
   rcases YD.1 hg with rfl|hg
   ·exact h1
   ·exact ih h g hg
  ·cases h
theorem IN {n:Zk} (hz:Uc n) (h:U1 n=true):X4 n:=by
 simp only [U1,QZ,W7,decide_eq_true_eq] at h
 obtain ⟨h1,⟨h2,h3,h4,h5⟩,h6⟩:=h
 refine ⟨Zeu h2,h1,fun r hr=>?_,hz.lent⟩
 have:=Lp h4 (Uu r) (Wd.2 ⟨r,hr,rfl⟩)
 simp only [KR,W7,decide_eq_true_eq] at this
 exact this.1
def gI (xs:LI) (i:Int):Int:=xs[i.toNat]?.getD 0
theorem Vh {xs:LI} {i:Int} {x:Int} (h:xs[i.toNat]? = some x):gI xs i=x:=by rw [gI,h];rfl
structure Zs where
 vars:LI
 own:LI
 par:LI
 con:LI
 fst:LI
 tok:LI
def Zs.grow (L:Zs) (t own par:Int):Zs:=⟨L.vars++[t],L.own++[own],L.par++[par],L.con++[-1],L.fst++[-1],L.tok++[-1]⟩
def UK (L:Zs) (v:Int):Option Zs:=if gI L.own v<1 then none else some { L with own:=L.own.set v.toNat (gI L.own v-1) }
def Qw (own par ln:LI):Nat->Int->Bool
 | 0,_=>false
 | k+1,v=>if gI own v<1/\¬v∈ln then (if gI par v<0 then false else Qw own par ln k (gI par v)) else true
def Wh (L:Zs) (ln:LI) (v:Int):Bool:=Qw L.own L.par ln (v.toNat+1) v
def T7:LI->Int->LI->LI
 | own,_,[]=>own
 | own,p,f::r=>T7 (if f≠0 then own.set p.toNat (gI own p+1) else own) (p+1) r
def Qb (ds:List Zf) (L:Zs) (op x:Int):Option Zs:=
 if gI L.con x<0∨(op=17/\0<=gI L.tok x) then none
 else match UK L x with
  | none=>none
  | some L1=>some { L1 with
    own:=T7 L1.own (gI L.fst x) (ZV ds (gI L.con x))
    tok:=if op=17 then L.tok.set x.toNat (ZV ds (gI L.con x)).length else L.tok }
def T9 (op:Int):Bool:=op==6||(op==9||(op==10||op==11))
def Ag (n:Zk) (op num:Int):LI:=if op=9 then ((n.routines[num.toNat]?).map (·.lent)).getD [] else []
def WO (n:Zk) (op num:Int) (i:Nat):Bool:=decide ((i:Int)∈Ag n op num)
def TB (n:Zk) (vars:LI) (op num a:Int) (i:Nat):Bool:=T9 op&&(gI vars a != 0&&!WO n op num i)
def Q5 (n:Zk) (op num:Int):LI->Nat->Zs->Option Zs
 | [],_,L=>some L
 | a::r,i,L=>if TB n L.vars op num a i=true then (match UK L a with
   | none=>none
   | some L1=>Q5 n op num r (i+1) L1) else Q5 n op num r (i+1) L
def KF (n:Zk) (op num:Int) (ln:LI) (L:Zs):LI->Nat->Bool
 | [],_=>true
 | a::r,i=>if WO n op num i=true/\¬Wh L ln a=true then false else KF n op num ln L r (i+1)
def KG (L:Zs) (into:Int) (m:Nat):Option Zs:=
 if 0<into then (if gI L.tok (into-1)≠m then none else some { L with tok:=L.tok.set (into-1).toNat (-1) }) else some L
def UF (n:Zk) (ln:LI) (L:Zs) (op num into:Int) (args:LI):Option Zs:=
 match Q5 n op num args 0 L with
 | none=>none
 | some L1=>if KF n op num ln L1 args 0=true then KG L1 into args.length else none
def T5:LI->LI->Bool
 | o::os,t::ts=>if o≠0∨0<=t then false else T5 os ts
 | _,_=>true
def Zs.take (L:Zs) (m:Nat):Zs:=⟨L.vars.take m,L.own.take m,L.par.take m,L.con.take m,L.fst.take m,L.tok.take m⟩
def Jw (L:Zs) (m:Nat):Option Zs:=if T5 (L.own.drop m) (L.tok.drop m)=true then some (L.take m) else none
def KD (L:Zs) (par:Int):LI->Zs
 | []=>L
 | t::r=>KD (L.grow t 0 par) par r
def Js (ds:List Zf) (L:Zs) (x c:Int):Zs:=
 KD { L with con:=L.con.set x.toNat c,fst:=L.fst.set x.toNat L.vars.length } x (ZV ds c)
def Vv (ds:List Zf) (L:Zs) (op num:Int) (args:LI) (i:Nat):Zs:=
 if op=8 then Js ds L (gI args 0) (gI (ZX ds num) i) else L
def QQ (lent:LI):LI->Nat->Zs->Zs
 | [],_,L=>L
 | t::r,i,L=>QQ lent r (i+1) (L.grow t (if t≠0/\¬(i:Int)∈lent then 1 else 0) (-1))
def U0 (r:Yf):Zs:=QQ r.lent r.params 0 ⟨[],[],[],[],[],[]⟩
def Jz (L:Zs) (ln:LI) (v:Int):Option Zs:=if Wh L ln v=true then some { L with own:=L.own.set v.toNat (gI L.own v+1) } else none
def Qn (n:Zk) (ln:LI) (L:Zs) (op num into:Int) (args:LI) (ch:Option Zs):Option Zs:=
 if op=14 then Jz L ln (gI args 0)
 else if op=15 then UK L (gI args 0)
 else if op=16∨op=17 then Qb n.decls L op (gI args 0)
 else if op=7∨op=8 then (if op=8/\¬Wh L ln (gI args 0)=true then none else ch)
 else UF n ln L op num into args
def Kc (L:Zs) (op t:Int) (r:Option Zs):Option Zs:=
 match r with
 | none=>none
 | some L1=>if XM op=true then some (L1.grow t (if t≠0 then 1 else 0) (-1)) else some L1
def AZ (L:Zs) (first:Option Zs) (rest:Zs->Bool):Option Zs:=
 match first with
 | none=>none
 | some one=>if rest one=true then some { L with own:=one.own,tok:=one.tok } else none
def Gp (one:Zs) (two:Option Zs) (rest:Bool):Bool:=
 match two with
 | none=>false
 | some two=>if one.own=two.own/\one.tok=two.tok then rest else false
def Bl (r:Option Zs) (f:Zs->Option Zs):Option Zs:=match r with|none=>none|some L=>f L
def UD (m:Nat) (res:Int) (L:Zs):Option Zs:=Bl (if gI L.vars res≠0 then UK L res else some L) fun L2=>Jw L2 m
mutual
def Vy (n:Zk) (ln:LI) (L:Zs):Z5->Option Zs
 | .mk op num into args kids=>Kc L op (Yc n L.vars (.mk op num into args kids)) (Qn n ln L op num into args (Q8 n ln L op num args kids))
def Q8 (n:Zk) (ln:LI) (L:Zs) (op num:Int) (args:LI):List Z9->Option Zs
 | []=>none
 | b::bs=>AZ L (VD n ln (Vv n.decls L op num args 0) L.vars.length b) fun one=>Ke n ln L op num args one bs 1
def Ke (n:Zk) (ln:LI) (L:Zs) (op num:Int) (args:LI) (one:Zs):List Z9->Nat->Bool
 | [],_=>true
 | b::bs,i=>Gp one (VD n ln (Vv n.decls L op num args i) L.vars.length b) (Ke n ln L op num args one bs (i+1))
def Wb (n:Zk) (ln:LI) (L:Zs):List Z5->Option Zs
 | []=>some L
 | s::r=>Bl (Vy n ln L s) fun L1=>Wb n ln L1 r
def VD (n:Zk) (ln:LI) (L:Zs) (m:Nat):Z9->Option Zs
 | .mk steps result=>Bl (Wb n ln L steps) (UD m result)
end
theorem LF (n:Zk) (ln:LI) (L:Zs) (s:Z5):Vy n ln L s=Kc L s.op (Yc n L.vars s) (Qn n ln L s.op s.num s.into s.args (Q8 n ln L s.op s.num s.args s.kids)):=by
 cases s with
 | mk op num into args kids=>rw [Vy];rfl
theorem JW (n:Zk) (ln:LI) (L:Zs) (m:Nat) (b:Z9):VD n ln L m b=Bl (Wb n ln L b.steps) (UD m b.result):=by
 cases b with
 | mk st r=>rw [VD];rfl
structure Wt (L:Zs):Prop where
 own:L.own.length=L.vars.length
 par:L.par.length=L.vars.length
 con:L.con.length=L.vars.length
 fst:L.fst.length=L.vars.length
 tok:L.tok.length=L.vars.length
structure X7 (ds:List Zf) (L:Zs) (q:Int):Prop where
 len:Wt L
 down:∀j:Int,0<=j->j<L.vars.length->gI L.par j<j
 arm:∀x:Int,0<=x->x<L.vars.length->0<=gI L.con x->0<=gI L.fst x/\gI L.fst x+(ZV ds (gI L.con x)).length<=L.vars.length
 nn:∀x∈L.own,0<=x
 bd:∀x∈L.own,x<=q
end Go.Abs
section
namespace Go.Abs
end Go.Abs
namespace Go.Abs
theorem Z94 {n:Zk} {op num:Int} {r:Yf} (h:op=9) (hr:n.routines[num.toNat]? = some r):Ag n op num=r.lent:=by
 rw [Ag,Ze h,hr];rfl
end Go.Abs
namespace Go.Abs
theorem SQ {own par ln:LI} {N:Int} (hd:∀j:Int,0<=j->j<N->gI par j<j):∀(k:Nat) (v:Int),0<=v->v<N->v.toNat+1<=k->Qw own par ln k v=Qw own par ln (v.toNat+1) v:=by
 intro k
 induction k using Nat.strongRecOn with
 | ind k ih=>
  intro v h0 hN hk
  cases k with
  | zero=>omega
  | succ k=>
   rw [Qw,Qw]
   split
   ·split
    ·rfl
    ·have hdv:=hd v h0 hN
     rw [ih k om (gI par v) om om om]
     rw [ih v.toNat om (gI par v) om om om]
   ·rfl
theorem Mc {own par ln:LI} {N j x1 x2:Int} {r:Bool} (h1:gI own j=x1) (h2:gI par j=x2) (hj:0<=j/\j<N) (hx:x1<1/\¬j∈ln) (h0:¬x2<0) (hd:∀i:Int,0<=i->i<N->gI par i<i)
  (h:Qw own par ln (j.toNat+1) j=r):Qw own par ln (x2.toNat+1) x2=r:=by
 rw [Qw,h1,h2,Ze hx,Z8 h0] at h
 have hdv:=hd j hj.1 hj.2
 rw [<-h,SQ hd j.toNat x2 om om om]
theorem Mb {own par ln:LI} {j x1 x2:Int} {r:Bool} (h1:gI own j=x1) (h2:gI par j=x2) (hx:x1<1/\¬j∈ln) (h0:x2<0) (h:Qw own par ln (j.toNat+1) j=r):false=r:=by
 rw [Qw,h1,h2,Ze hx,Ze h0] at h;exact h
theorem Md {own par ln:LI} {j x1:Int} {r:Bool} (h1:gI own j=x1) (hx:¬(x1<1/\¬j∈ln)) (h:Qw own par ln (j.toNat+1) j=r):true=r:=by
 rw [Qw,h1,Z8 hx] at h;exact h
end Go.Abs
namespace Go.Abs
theorem QW {L L':Zs} {v:Int} (h:UK L v=some L'):1<=gI L.own v/\L'.vars=L.vars/\L'.par=L.par/\L'.con=L.con/\L'.fst=L.fst/\L'.tok=L.tok/\L'.own=L.own.set v.toNat (gI L.own v-1):=by
 rw [UK] at h
 split at h
 ·cases h
 ·cases h;exact ⟨by omega,rfl,rfl,rfl,rfl,rfl,rfl⟩
theorem I5 {xs:LI} {v:Int} (h:gI xs v≠0):gI xs v∈xs:=by
 rw [gI] at h ⊢
 cases hx:xs[v.toNat]? with
 | none=>rw [hx] at h;exact absurd rfl h
 | some y=>exact Y2 hx
theorem KP {xs:LI} {i:Nat} {a x:Int} (h:x∈xs.set i a):x∈xs∨x=a:=List.mem_or_eq_of_mem_set h
theorem X7.take {ds:List Zf} {L L':Zs} {q v:Int} (hk:X7 ds L q) (h:UK L v=some L'):X7 ds L' q:=by
 obtain ⟨t1,t2,t3,t4,t5,t6,t7⟩:=QW h
 obtain ⟨f1,f2,f3,f4,f5⟩:=hk.len
 have hm:=I5 (xs:=L.own) (v:=v) om
 refine ⟨⟨by rw [t7,t2,Uw];exact f1,by rw [t3,t2];exact f2,by rw [t4,t2];exact f3,by rw [t5,t2];exact f4,by rw [t6,t2];exact f5⟩,?_,?_,?_,?_⟩
 ·rw [t2,t3];exact hk.down
 ·rw [t2,t4,t5];exact hk.arm
 ·rw [t7];intro x hx
  rcases KP hx with hx|rfl
  ·exact hk.nn x hx
  ·omega
 ·rw [t7];intro x hx
  rcases KP hx with hx|rfl
  ·exact hk.bd x hx
  ·have:=hk.bd _ hm;omega
end Go.Abs
end
namespace Go.Abs
theorem LP {us:LI}:∀{args tys:LI},T2 us args tys=true->args.length=tys.length/\∀a∈args,0<=a/\a<us.length
 | [],[],_=>⟨rfl,by simp⟩
 | [],_::_,h=>by cases h
 | _::_,[],h=>by cases h
 | a::as1,t::ts,h=>by
  rw [T2] at h
  split at h
  ·rename_i h1
   obtain ⟨q1,q2⟩:=LP h
   refine ⟨by simp [q1],fun x hx=>?_⟩
   rcases YD.1 hx with rfl|hx
   ·have:=(J6 h1).1;omega
   ·exact q2 x hx
  ·cases h
theorem OB {n:Zk} {us:LI}:∀{bs:List Z9} {ms:List LI} {f:Bool} {t:Int},0<=t->0<=WY n us bs ms f t ->
  ∀(i:Nat) (b:Z9) (m:LI),bs[i]? = some b->ms[i]? = some m->0<=Xq n (us++m) b
 | [],_,_,_,_,_,i,b,m,hb,_=>by simp at hb
 | b::bs,[],_,_,_,h,_,_,_,_,hm=>by simp at hm
 | b::bs,m::ms,f,t,ht,h,i,c,l,hc,hl=>by
  rw [WY] at h
  split at h
  ·omega
  ·rename_i hq
   have h0:0<=Xq n (us++m) b:=by
    rcases Int.lt_or_le (Xq n (us++m) b) 0 with q|q
    ·exact absurd (.inl q) hq
    ·exact q
   cases i with
   | zero=>simp at hc hl;subst hc hl;exact h0
   | succ i=>exact OB h0 h i c l (by simpa using hc) (by simpa using hl)
structure JT (n:Zk) (us:LI) (s:Z5):Prop where
 args:∀a∈s.args,0<=a/\a<us.length
 one:(s.op=7∨s.op=8∨(14<=s.op/\s.op<=17))->∃a,s.args=[a]
 num:s.op=9->0<=s.num/\s.num<n.routines.length
 into:s.into≠0->1<=s.into/\s.into<=us.length
 kids:(s.op=7∨s.op=8)->s.kids.length=(Xn n.decls s.op s.num).length/\(Xn n.decls s.op s.num).length≠0 /\
  ∀(i:Nat) (b:Z9) (m:LI),s.kids[i]? = some b->(Xn n.decls s.op s.num)[i]? = some m->0<=Xq n (us++m) b
theorem Z8j {n:Zk} {us:LI} {op num:Int} {kids:List Z9} (h:0<=Tu n us op num kids) :
  kids.length=(Xn n.decls op num).length/\(Xn n.decls op num).length≠0/\∀(i:Nat) (b:Z9) (m:LI),kids[i]? = some b->(Xn n.decls op num)[i]? = some m->0<=Xq n (us++m) b:=by
 rw [Tu] at h
 split at h
 ·omega
 ·rename_i hq
  exact ⟨by omega,by omega,OB (Int.le_refl 0) h⟩
theorem OY {xs:LI} (h:xs.length=1):∃a,xs=[a]:=by
 match xs,h with
 | [a],_=>exact ⟨a,rfl⟩
theorem D9 {n:Zk} {us:LI} {s:Z5} (h:0<=Yc n us s):JT n us s:=by
 rw [An] at h
 split at h
 ·omega
 rename_i h0
 have hinto:s.into≠0->1<=s.into/\s.into<=us.length:=by
  intro hi
  have hv:Ul us s.op s.into=true:=by
   cases q:Ul us s.op s.into with
   | true=>rfl
   | false=>exact absurd (.inr (.inl (by rw [q];simp))) h0
  rw [Ul,Z8 hi] at hv
  split at hv
  ·cases ha:XA us (s.into-1) with
   | none=>rw [ha] at hv;cases hv
   | some t=>have:=(J6 ha).1;omega
  ·cases hv
 have mk:(∀a∈s.args,0<=a/\a<us.length)->((s.op=7∨s.op=8∨(14<=s.op/\s.op<=17))->∃a,s.args=[a])->(s.op=9->0<=s.num/\s.num<n.routines.length) ->
   ((s.op=7∨s.op=8)->0<=Tu n us s.op s.num s.kids)->JT n us s:=fun a b c d=>⟨a,b,c,hinto,fun q=>Z8j (d q)⟩
 have ty:∀{tys},Wc us s.args tys=true->s.args.length=tys.length/\∀a∈s.args,0<=a/\a<us.length:=fun q=>LP q
 split at h
 ·rename_i h1
  split at h
  ·rename_i h2
   exact mk (by rw [List.eq_nil_of_length_eq_zero h2.1];simp) om om om
  ·omega
 split at h
 ·split at h
  ·rename_i h1 h2;exact mk (ty h2).2 om om om
  ·omega
 split at h
 ·split at h
  ·rename_i h1 h2;exact mk (ty h2).2 om om om
  ·omega
 split at h
 ·split at h
  ·rename_i h1 h2;exact mk (ty h2.2).2 om om om
  ·omega
 split at h
 ·split at h
  ·rename_i h1 h2;exact mk (ty h2).2 (fun _=>OY (by simpa using (ty h2).1)) om (fun _=>h)
  ·omega
 split at h
 ·split at h
  ·rename_i h1 h2;exact mk (ty h2).2 (fun _=>OY (by simpa using (ty h2).1)) om (fun _=>h)
  ·omega
 split at h
 ·rename_i hop
  rw [Tx] at h
  cases hr:XA n.routines s.num with
  | none=>rw [hr] at h;simp at h
  | some r=>
   rw [hr] at h
   simp only at h
   have hn:=(J6 hr).1
   rw [Kh] at h
   split at h
   ·split at h
    ·rename_i h2;exact mk (ty h2).2 om om om
    ·omega
   ·split at h
    ·omega
    ·rename_i h2
     have h3:Wc us s.args (r.params.take (r.params.length-1))=true:=by
      cases q:Wc us s.args (r.params.take (r.params.length-1)) with
      | true=>rfl
      | false=>exact absurd (.inr (.inr (by rw [q];simp))) h2
     exact mk (ty h3).2 om om om
 split at h
 ·rename_i hop
  rcases he:s.args with _|⟨a,_|⟨b,_|⟨c,r⟩⟩⟩
  ·rw [he,show Qx n.decls us []=-1 from rfl] at h;omega
  ·rw [he,show Qx n.decls us [a]=-1 from rfl] at h;omega
  ·rw [he,Qx] at h
   cases ha:XA us a with
   | none=>rw [ha] at h;simp at h
   | some t=>
    rw [ha] at h
    simp only at h
    split at h
    ·cases hd:n.decls[(t-1).toNat]? with
     | none=>rw [hd] at h;simp at h
     | some d=>
      rw [hd] at h
      simp only at h
      split at h
      ·rename_i h3
       have h4:=(LP h3).2 b (by simp)
       have h5:=(J6 ha).1
       refine mk (fun x hx=>?_) om om om
       rw [he] at hx
       rcases YD.1 hx with rfl|hx
       ·omega
       ·rw [XC.1 hx];exact h4
      ·omega
    ·omega
  ·rw [he,show Qx n.decls us (a::b::c::r)=-1 from rfl] at h;omega
 split at h
 ·rename_i hop
  rcases he:s.args with _|⟨a,_|⟨b,r⟩⟩
  ·rw [he,show Qg n.decls us s.op []=-1 from rfl] at h;omega
  ·rw [he,Qg] at h
   cases ha:XA us a with
   | none=>rw [ha] at h;simp at h
   | some t=>
    have h5:=(J6 ha).1
    refine mk (fun x hx=>?_) (fun _=>⟨a,he⟩) om om
    rw [he] at hx
    rw [XC.1 hx];omega
  ·rw [he,show Qg n.decls us s.op (a::b::r)=-1 from rfl] at h;omega
 ·omega
def TU (n:Zk) (us:LI) (s:Z5):LI:=if XM s.op=true then us++[Yc n us s] else us
theorem EZ {L L':Zs} {ln:LI} {v:Int} (h:Jz L ln v=some L'):L'.vars=L.vars/\L'.par=L.par/\L'.con=L.con/\L'.fst=L.fst/\L'.tok=L.tok/\L'.own=L.own.set v.toNat (gI L.own v+1):=by
 rw [Jz] at h
 split at h
 ·cases h;exact ⟨rfl,rfl,rfl,rfl,rfl,rfl⟩
 ·cases h
theorem Ha:∀(fs:LI) (own:LI) (p:Int),(T7 own p fs).length=own.length
 | [],own,p=>rfl
 | f::r,own,p=>by rw [T7,Ha r];split<;>simp
theorem I3 {xs:LI} {q v:Int} (h:∀x∈xs,x<=q) (hq:0<=q):gI xs v<=q:=by
 by_cases h0:gI xs v=0
 ·omega
 ·exact h _ (I5 h0)
theorem I6 {xs:LI} {v:Int} (h:∀x∈xs,0<=x):0<=gI xs v:=by
 by_cases h0:gI xs v=0
 ·omega
 ·exact h _ (I5 h0)
theorem Hb:∀(fs:LI) (own:LI) (p:Int),(∀x∈own,0<=x)->∀x∈T7 own p fs,0<=x
 | [],own,p,h=>h
 | f::r,own,p,h=>by
  rw [T7]
  refine Hb r _ _ fun x hx=>?_
  split at hx
  ·rcases KP hx with hx|rfl
   ·exact h x hx
   ·have:=I6 (v:=p) h;omega
  ·exact h x hx
theorem H9:∀(fs:LI) (own:LI) (p q:Int),0<=q->(∀x∈own,x<=q)->∀x∈T7 own p fs,x<=q+fs.length
 | [],own,p,q,hq,h=>by intro x hx;have:=h x hx;simp;omega
 | f::r,own,p,q,hq,h=>by
  intro x hx
  rw [T7] at hx
  have:=H9 r _ _ (q+1) om (fun y hy=>by
   split at hy
   ·rcases KP hy with hy|rfl
    ·have:=h y hy;omega
    ·have:=I3 (v:=p) h hq;omega
   ·have:=h y hy;omega) x hx
  simp only [YR];omega
theorem IS {ds:List Zf} {L L':Zs} {op v:Int} (h:Qb ds L op v=some L'):L'.vars=L.vars/\L'.par=L.par/\L'.con=L.con/\L'.fst=L.fst/\L'.tok.length=L.tok.length /\
  ∃L1,UK L v=some L1/\L'.own=T7 L1.own (gI L.fst v) (ZV ds (gI L.con v)):=by
 rw [Qb] at h
 split at h
 ·cases h
 ·cases ht:UK L v with
  | none=>rw [ht] at h;cases h
  | some L1=>
   rw [ht] at h
   simp only at h
   obtain ⟨t1,t2,t3,t4,t5,t6,t7⟩:=QW ht
   cases h
   refine ⟨t2,t3,t4,t5,?_,L1,rfl,rfl⟩
   split
   ·rw [Uw]
   ·rfl
theorem Fv {n:Zk} {op num:Int} {ds:List Zf} {q:Int}:∀{as1:LI} {i:Nat} {L L':Zs},X7 ds L q->Q5 n op num as1 i L=some L'->X7 ds L' q/\L'.vars=L.vars/\L'.par=L.par/\L'.con=L.con/\L'.fst=L.fst/\L'.tok=L.tok
 | [],i,L,L',hk,h=>by rw [Q5] at h;cases h;exact ⟨hk,rfl,rfl,rfl,rfl,rfl⟩
 | a::r,i,L,L',hk,h=>by
  rw [Q5] at h
  split at h
  ·cases ht:UK L a with
   | none=>rw [ht] at h;cases h
   | some L1=>
    rw [ht] at h
    obtain ⟨t1,t2,t3,t4,t5,t6,t7⟩:=QW ht
    obtain ⟨k1,k2,k3,k4,k5,k6⟩:=Fv (hk.take ht) h
    exact ⟨k1,k2.trans t2,k3.trans t3,k4.trans t4,k5.trans t5,k6.trans t6⟩
  ·exact Fv hk h
theorem X7.le {ds:List Zf} {L:Zs} {q q':Int} (h:X7 ds L q) (hq:q<=q'):X7 ds L q':=⟨h.len,h.down,h.arm,h.nn,fun x hx=>Int.le_trans (h.bd x hx) hq⟩
theorem X7.turn {ds:List Zf} {L L':Zs} {q q':Int} (hk:X7 ds L q) (h1:L'.vars=L.vars) (h2:L'.par=L.par) (h3:L'.con=L.con) (h4:L'.fst=L.fst) (h5:L'.tok.length=L.tok.length) (h6:L'.own.length=L.own.length)
  (h7:∀x∈L'.own,0<=x) (h8:∀x∈L'.own,x<=q'):X7 ds L' q':=by
 obtain ⟨f1,f2,f3,f4,f5⟩:=hk.len
 refine ⟨⟨by rw [h6,h1];exact f1,by rw [h2,h1];exact f2,by rw [h3,h1];exact f3,by rw [h4,h1];exact f4,by rw [h5,h1];exact f5⟩,?_,?_,h7,h8⟩
 ·rw [h1,h2];exact hk.down
 ·rw [h1,h3,h4];exact hk.arm
theorem AQ {xs ys:LI} {j:Int} (h:j.toNat<xs.length):gI (xs++ys) j=gI xs j:=by
 rw [gI,gI,Dg h]
theorem I4 {xs:LI} {y:Int} {j:Int} (h:j.toNat=xs.length):gI (xs++[y]) j=y:=by
 rw [gI,h];simp
theorem X7.grow {ds:List Zf} {L:Zs} {q t o p:Int} (hk:X7 ds L q) (hp:p<L.vars.length) (ho:0<=o/\o<=q):X7 ds (L.grow t o p) q:=by
 obtain ⟨f1,f2,f3,f4,f5⟩:=hk.len
 refine ⟨⟨by simp [Zs.grow,f1],by simp [Zs.grow,f2],by simp [Zs.grow,f3],by simp [Zs.grow,f4],by simp [Zs.grow,f5]⟩,?_,?_,?_,?_⟩
 ·intro j hj hl
  simp only [Zs.grow,Yw,GX] at hl ⊢
  by_cases hlt:j<L.vars.length
  ·rw [AQ om];exact hk.down j hj hlt
  ·rw [I4 om];omega
 ·intro x hx hl
  simp only [Zs.grow,Yw,GX] at hl ⊢
  by_cases hlt:x<L.vars.length
  ·rw [AQ om,AQ om]
   intro hc
   have:=hk.arm x hx hlt hc
   exact ⟨this.1,by omega⟩
  ·rw [I4 om];omega
 ·intro x hx
  simp only [Zs.grow,Xa,XC] at hx
  rcases hx with hx|rfl
  ·exact hk.nn x hx
  ·exact ho.1
 ·intro x hx
  simp only [Zs.grow,Xa,XC] at hx
  rcases hx with hx|rfl
  ·exact hk.bd x hx
  ·exact ho.2
theorem I7 {xs:LI} {k:Nat} {a:Int} {j:Int} (h:xs.length<=j.toNat/\j.toNat<xs.length+k):gI (xs++List.replicate k a) j=a:=by
 rw [gI,Dh h.1,List.getElem?_replicate,Ze om];rfl
theorem Fm {xs:LI} {x j c:Int} (h:j.toNat=x.toNat) (hl:x.toNat<xs.length):gI (xs.set x.toNat c) j=c:=by
 rw [gI,h,List.getElem?_set_self hl];rfl
theorem Fo {xs:LI} {x j c:Int} (h:j.toNat≠x.toNat):gI (xs.set x.toNat c) j=gI xs j:=by
 rw [gI,gI,List.getElem?_set_ne (fun q=>h q.symm)]
theorem Ie {p:Int}:∀(fs:LI) (L:Zs),KD L p fs=⟨L.vars++fs,L.own++List.replicate fs.length 0,L.par++List.replicate fs.length p,L.con++List.replicate fs.length (-1),
  L.fst++List.replicate fs.length (-1),L.tok++List.replicate fs.length (-1)⟩
 | [],L=>by simp [KD]
 | t::r,L=>by rw [KD,Ie r];simp [Zs.grow,M1]
theorem Z0b {ds:List Zf} {L:Zs} {q x c:Int} (hk:X7 ds L q) (hq:0<=q) (hx:0<=x/\x<L.vars.length):X7 ds (Js ds L x c) q/\(Js ds L x c).vars=L.vars++ZV ds c:=by
 obtain ⟨f1,f2,f3,f4,f5⟩:=hk.len
 rw [Js,Ie]
 refine ⟨⟨⟨by simp [f1],by simp [f2],by simp [f3],by simp [f4],by simp [f5]⟩,?_,?_,?_,?_⟩,rfl⟩
 ·intro j hj hl
  simp only [Yw] at hl ⊢
  by_cases hlt:j<L.vars.length
  ·rw [AQ om];exact hk.down j hj hlt
  ·rw [I7 om];omega
 ·intro y hy hl
  simp only [Yw] at hl ⊢
  by_cases hlt:y<L.vars.length
  ·rw [AQ (by simp;omega),AQ (by simp;omega)]
   by_cases he:y.toNat=x.toNat
   ·rw [Fm he om,Fm he om]
    intro _
    exact ⟨by omega,by simp⟩
   ·rw [Fo he,Fo he]
    intro hc
    have:=hk.arm y hy hlt hc
    exact ⟨this.1,by omega⟩
  ·rw [I7 (by simp;omega)];omega
 ·intro y hy
  simp only [Xa,List.mem_replicate] at hy
  rcases hy with hy|⟨_,rfl⟩
  ·exact hk.nn y hy
  ·exact Int.le_refl 0
 ·intro y hy
  simp only [Xa,List.mem_replicate] at hy
  rcases hy with hy|⟨_,rfl⟩
  ·exact hk.bd y hy
  ·exact hq
theorem CP {n:Zk} {L:Zs} {q:Int} {s:Z5} {i:Nat} {m:LI} (hk:X7 n.decls L q) (hq:0<=q) (hf:JT n L.vars s) (hop:s.op=7∨s.op=8) (hm:(Xn n.decls s.op s.num)[i]? = some m) :
  X7 n.decls (Vv n.decls L s.op s.num s.args i) q/\(Vv n.decls L s.op s.num s.args i).vars=L.vars++m:=by
 rw [Vv]
 split
 ·rename_i h8
  obtain ⟨a,ha⟩:=hf.one om
  have hb:=hf.args a (by rw [ha];simp)
  have hg:gI s.args 0=a:=by rw [ha];rfl
  rw [Xn,Z8 om,T6] at hm
  cases hc:(ZX n.decls s.num)[i]? with
  | none=>rw [hc] at hm;cases hm
  | some c=>
   rw [hc] at hm
   cases hm
   have hgc:gI (ZX n.decls s.num) (i:Int)=c:=by rw [gI];simp [hc]
   rw [hg,hgc]
   exact Z0b hk hq hb
 ·rename_i h8
  rw [Xn,Ze om] at hm
  have:m=[]:=by
   match i,hm with
   | 0,hm=>simpa using hm.symm
   | 1,hm=>simpa using hm.symm
   | i+2,hm=>simp at hm
  subst this
  exact ⟨hk,by simp⟩
theorem RU {n:Zk}:∀{l:List Z5} {us vs:LI},XH n l us=some vs->us.length<=vs.length
 | [],us,vs,h=>by rw [XH] at h;cases h;exact X5 _
 | s::r,us,vs,h=>by
  rw [XH] at h
  split at h
  ·cases h
  ·have:=RU h
   split at this
   ·simp only [Yw,GX] at this;omega
   ·exact this
theorem NR {n:Zk} {ln:LI} {L L':Zs} {op num into q:Int} {args:LI} {ds:List Zf} (hk:X7 ds L q) (h:UF n ln L op num into args=some L'):X7 ds L' q/\L'.vars=L.vars:=by
 rw [UF] at h
 cases ht:Q5 n op num args 0 L with
 | none=>rw [ht] at h;cases h
 | some L1=>
  rw [ht] at h
  simp only at h
  obtain ⟨k1,k2,k3,k4,k5,k6⟩:=Fv hk ht
  split at h
  ·rw [KG] at h
   split at h
   ·split at h
    ·cases h
    ·cases h
     exact ⟨k1.turn rfl rfl rfl rfl (by simp) rfl k1.nn k1.bd,k2⟩
   ·cases h;exact ⟨k1,k2⟩
  ·cases h
theorem Z2c {L L':Zs} {m:Nat} (h:Jw L m=some L'):L'=L.take m/\T5 (L.own.drop m) (L.tok.drop m)=true:=by
 rw [Jw] at h
 split at h
 ·rename_i hz;cases h;exact ⟨rfl,hz⟩
 ·cases h
theorem Da {r:Option Zs} {f:Zs->Option Zs} {L:Zs} (h:Bl r f=some L):∃L1,r=some L1/\f L1=some L:=by
 cases r with
 | none=>cases h
 | some L1=>exact ⟨L1,rfl,h⟩
theorem OO (n:Zk) (hn:X4 n) (ln:LI):∀m:Nat,
  (∀(s:Z5) (L L':Zs) (q:Int),s.sz<=m->X7 n.decls L q->0<=q->0<=Yc n L.vars s->Vy n ln L s=some L'->X7 n.decls L' (q+4*s.sz)/\L'.vars=TU n L.vars s) /\
  (∀(b:Z9) (L O:Zs) (q:Int) (k:Nat),b.sz<=m->X7 n.decls L q->0<=q->0<=Xq n L.vars b->k<=L.vars.length->VD n ln L k b=some O ->
   (O.own.length=k/\O.tok.length=k/\(∀x∈O.own,0<=x/\x<=q+4*b.sz))/\Wt O/\O.vars.length=k):=by
 intro m
 induction m with
 | zero=>exact ⟨fun s _ _ _ h=>by have:=s.sz_pos;omega,fun s _ _ _ _ h=>by have:=s.sz_pos;omega⟩
 | succ m ih=>
  have hs:∀(s:Z5) (L L':Zs) (q:Int),s.sz<=m+1->X7 n.decls L q->0<=q->0<=Yc n L.vars s->Vy n ln L s=some L'->X7 n.decls L' (q+4*s.sz)/\L'.vars=TU n L.vars s:=by
   intro s L L' q Xm hk hq hty h
   have hp:=s.sz_pos
   have hf:=D9 hty
   obtain ⟨f1,f2,f3,f4,f5⟩:=hk.len
   rw [LF] at h
   unfold Kc at h
   cases hpk:Qn n ln L s.op s.num s.into s.args (Q8 n ln L s.op s.num s.args s.kids) with
   | none=>rw [hpk] at h;cases h
   | some L1=>
    rw [hpk] at h
    simp only at h
    have key:X7 n.decls L1 (q+4*s.sz)/\L1.vars=L.vars:=by
     rw [Qn] at hpk
     split at hpk
     ·obtain ⟨d1,d2,d3,d4,d5,d6⟩:=EZ hpk
      refine ⟨hk.turn d1 d2 d3 d4 (by rw [d5]) (by rw [d6,Uw]) ?_ ?_,d1⟩
      ·rw [d6];intro x hx
       rcases KP hx with hx|rfl
       ·exact hk.nn x hx
       ·have:=I6 (v:=gI s.args 0) hk.nn;omega
      ·rw [d6];intro x hx
       rcases KP hx with hx|rfl
       ·have:=hk.bd x hx;omega
       ·have:=I3 (v:=gI s.args 0) hk.bd hq;omega
     split at hpk
     ·exact ⟨(hk.take hpk).le om,(QW hpk).2.1⟩
     split at hpk
     ·rename_i hop
      obtain ⟨d1,d2,d3,d4,d5,Lt,ht,d6⟩:=IS hpk
      have hkt:=hk.take ht
      have h3:=U6 hn.decls (gI L.con (gI s.args 0))
      refine ⟨hk.turn d1 d2 d3 d4 d5 ?_ ?_ ?_,d1⟩
      ·rw [d6,Ha,(QW ht).2.2.2.2.2.2,Uw]
      ·rw [d6];exact Hb _ _ _ hkt.nn
      ·rw [d6];intro x hx
       have:=H9 _ _ _ q hq hkt.bd x hx;omega
     split at hpk
     ·rename_i hop
      split at hpk
      ·cases hpk
      ·cases hks:s.kids with
       | nil=>rw [hks,Q8] at hpk;cases hpk
       | cons b bs=>
        rw [hks,Q8] at hpk
        unfold AZ at hpk
        cases hb:VD n ln (Vv n.decls L s.op s.num s.args 0) L.vars.length b with
        | none=>rw [hb] at hpk;cases hpk
        | some one=>
         rw [hb] at hpk
         simp only at hpk
         split at hpk
         ·cases hpk
          obtain ⟨q1,q2,q3⟩:=hf.kids hop
          have hks0:s.kids[0]? = some b:=by rw [hks];rfl
          obtain ⟨a0,ha0⟩:=Kd (xs:=Xn n.decls s.op s.num) (j:=0) om
          obtain ⟨k1,k2⟩:=CP hk hq hf hop ha0
          have hbz:=Tt hks0
          obtain ⟨⟨r1,r2,r3⟩,_⟩:=ih.2 b _ one q L.vars.length om k1 hq (by rw [k2];exact q3 0 b a0 hks0 ha0) (by rw [k2];simp) hb
          refine ⟨hk.turn rfl rfl rfl rfl (by simp only;omega) (by simp only;omega) (fun x hx=>(r3 x hx).1) (fun x hx=>?_),rfl⟩
          have:=(r3 x hx).2;omega
         ·cases hpk
     ·obtain ⟨k1,k2⟩:=NR hk hpk
      exact ⟨k1.le om,k2⟩
    split at h
    ·rename_i hd
     cases h
     refine ⟨key.1.grow om ?_,by rw [TU,Ze hd];simp [Zs.grow,key.2]⟩
     split<;>omega
    ·rename_i hd
     cases h
     exact ⟨key.1,by rw [TU,Z8 hd];exact key.2⟩
  refine ⟨hs,?_⟩
  intro b L O q k Xm hk hq hty hkl h
  have hsteps:∀(l:List Z5) (L L':Zs) (q:Int) (vs:LI),Y8 l<=m->X7 n.decls L q->0<=q->XH n l L.vars=some vs->Wb n ln L l=some L'->X7 n.decls L' (q+4*Y8 l)/\L'.vars=vs:=by
   intro l
   induction l with
   | nil=>intro L L' q vs _ hk _ h1 h2;rw [XH] at h1;rw [Wb] at h2;cases h1;cases h2;exact ⟨by simpa [Y8] using hk,rfl⟩
   | cons s r ihr=>
    intro L L' q vs hz hk hq h1 h2
    rw [Y8] at hz
    rw [Wb] at h2
    obtain ⟨L1,e1,e2⟩:=Da h2
    rw [XH] at h1
    split at h1
    ·cases h1
    ·rename_i h0
     obtain ⟨k1,k2⟩:=hs s L L1 q om hk hq om e1
     obtain ⟨k3,k4⟩:=ihr L1 L' (q+4*s.sz) vs om k1 om (by rw [k2];exact h1) e2
     exact ⟨k3.le (by rw [Y8];omega),k4⟩
  have hbz:=b.sz_eq
  rw [JW] at h
  obtain ⟨L1,e1,e2⟩:=Da h
  rw [Ds] at hty
  cases hv:XH n b.steps L.vars with
  | none=>rw [hv] at hty;simp at hty
  | some vs=>
   obtain ⟨k1,k2⟩:=hsteps b.steps L L1 q vs om hk hq hv e1
   have hlen:=RU hv
   rw [UD] at e2
   obtain ⟨L2,e3,e4⟩:=Da e2
   have k3:X7 n.decls L2 (q+4*Y8 b.steps)/\L2.vars=L1.vars:=by
    split at e3
    ·exact ⟨k1.take e3,(QW e3).2.1⟩
    ·cases e3;exact ⟨k1,rfl⟩
   obtain ⟨rfl,_⟩:=Z2c e4
   obtain ⟨g1,g2,g3,g4,g5⟩:=k3.1.len
   have hl2:L2.vars.length=vs.length:=by rw [k3.2,k2]
   refine ⟨⟨by simp [Zs.take];omega,by simp [Zs.take];omega,fun x hx=>?_⟩,⟨by simp [Zs.take];omega,by simp [Zs.take];omega,by simp [Zs.take];omega,by simp [Zs.take];omega,by simp [Zs.take];omega⟩,by simp [Zs.take];omega⟩
   have hx':x∈L2.own:=TX hx
   have:=k3.1.nn x hx'
   have:=k3.1.bd x hx'
   omega
theorem D8 {n:Zk} (hn:X4 n) {ln:LI} {s:Z5} {L L':Zs} {q:Int} (hk:X7 n.decls L q) (hq:0<=q) (hty:0<=Yc n L.vars s) (h:Vy n ln L s=some L'):X7 n.decls L' (q+4*s.sz)/\L'.vars=TU n L.vars s:=
 (OO n hn ln s.sz).1 s L L' q (X5 _) hk hq hty h
theorem Mz {n:Zk} (hn:X4 n) {ln:LI} {b:Z9} {L O:Zs} {q:Int} {k:Nat} (hk:X7 n.decls L q) (hq:0<=q) (hty:0<=Xq n L.vars b) (hkl:k<=L.vars.length) (h:VD n ln L k b=some O) :
  O.own.length=k/\O.tok.length=k/\(∀x∈O.own,0<=x/\x<=q+4*b.sz):=
 ((OO n hn ln b.sz).2 b L O q k (X5 _) hk hq hty hkl h).1
theorem B9 {n:Zk} (hn:X4 n) {ln:LI} {s:Z5} {L L1:Zs} {q:Int} (hk:X7 n.decls L q) (hq:0<=q) (hf:JT n L.vars s)
  (hpk:Qn n ln L s.op s.num s.into s.args (Q8 n ln L s.op s.num s.args s.kids)=some L1):X7 n.decls L1 (q+4*s.sz)/\L1.vars=L.vars:=by
 have hp:=s.sz_pos
 obtain ⟨f1,f2,f3,f4,f5⟩:=hk.len
 rw [Qn] at hpk
 split at hpk
 ·obtain ⟨d1,d2,d3,d4,d5,d6⟩:=EZ hpk
  refine ⟨hk.turn d1 d2 d3 d4 (by rw [d5]) (by rw [d6,Uw]) ?_ ?_,d1⟩
  ·rw [d6];intro x hx
   rcases KP hx with hx|rfl
   ·exact hk.nn x hx
   ·have:=I6 (v:=gI s.args 0) hk.nn;omega
  ·rw [d6];intro x hx
   rcases KP hx with hx|rfl
   ·have:=hk.bd x hx;omega
   ·have:=I3 (v:=gI s.args 0) hk.bd hq;omega
 split at hpk
 ·exact ⟨(hk.take hpk).le om,(QW hpk).2.1⟩
 split at hpk
 ·rename_i hop
  obtain ⟨d1,d2,d3,d4,d5,Lt,ht,d6⟩:=IS hpk
  have hkt:=hk.take ht
  have h3:=U6 hn.decls (gI L.con (gI s.args 0))
  refine ⟨hk.turn d1 d2 d3 d4 d5 ?_ ?_ ?_,d1⟩
  ·rw [d6,Ha,(QW ht).2.2.2.2.2.2,Uw]
  ·rw [d6];exact Hb _ _ _ hkt.nn
  ·rw [d6];intro x hx
   have:=H9 _ _ _ q hq hkt.bd x hx;omega
 split at hpk
 ·rename_i hop
  split at hpk
  ·cases hpk
  ·cases hks:s.kids with
   | nil=>rw [hks,Q8] at hpk;cases hpk
   | cons b bs=>
    rw [hks,Q8] at hpk
    unfold AZ at hpk
    cases hb:VD n ln (Vv n.decls L s.op s.num s.args 0) L.vars.length b with
    | none=>rw [hb] at hpk;cases hpk
    | some one=>
     rw [hb] at hpk
     simp only at hpk
     split at hpk
     ·cases hpk
      obtain ⟨q1,q2,q3⟩:=hf.kids hop
      have hks0:s.kids[0]? = some b:=by rw [hks];rfl
      obtain ⟨a0,ha0⟩:=Kd (xs:=Xn n.decls s.op s.num) (j:=0) om
      obtain ⟨k1,k2⟩:=CP hk hq hf hop ha0
      have hbz:=Tt hks0
      obtain ⟨r1,r2,r3⟩:=Mz hn k1 hq (by rw [k2];exact q3 0 b a0 hks0 ha0) (by rw [k2];simp) hb
      refine ⟨hk.turn rfl rfl rfl rfl (by simp only;omega) (by simp only;omega) (fun x hx=>(r3 x hx).1) (fun x hx=>?_),rfl⟩
      have:=(r3 x hx).2;omega
     ·cases hpk
 ·obtain ⟨k1,k2⟩:=NR hk hpk
  exact ⟨k1.le om,k2⟩
end Go.Abs
section
namespace Go.Abs
theorem Hh {ds:List Zf} {op num:Int} {i:Nat} {m:LI} (h8:op=8) (h:(Xn ds op num)[i]? = some m):∃c,(ZX ds num)[i]? = some c/\m=ZV ds c:=by
 rw [Xn,Z8 om,T6] at h
 cases hc:(ZX ds num)[i]? with
 | none=>rw [hc] at h;cases h
 | some c=>rw [hc] at h;cases h;exact ⟨c,rfl,rfl⟩
theorem Z8d {ds:List Zf} {L:Zs} {op num x c:Int} {args:LI} {i:Nat} (h8:op=8) (hx:args[0]? = some x) (hc:(ZX ds num)[i]? = some c):Vv ds L op num args i=Js ds L x c:=by
 have h1:gI args 0=x:=by rw [gI];simp [hx]
 have h2:gI (ZX ds num) (i:Int)=c:=by rw [gI];simp [hc]
 rw [Vv,Ze h8,h1,h2]
theorem Z8e {ds:List Zf} {L:Zs} {op num:Int} {args:LI} {i:Nat} (h8:¬op=8):Vv ds L op num args i=L:=by rw [Vv,Z8 h8]
theorem Z8i {n:Zk} {ln:LI} {L:Zs} {op num:Int} {args:LI} {kids:List Z9} {kb:Z9} (h:kids[0]? = some kb) :
  Q8 n ln L op num args kids=AZ L (VD n ln (Vv n.decls L op num args 0) L.vars.length kb) fun one=>Ke n ln L op num args one (kids.drop 1) 1:=by
 cases kids with
 | nil=>simp at h
 | cons b bs=>simp at h;subst h;rw [Q8];rfl
theorem DT {n:Zk} {ln:LI} {L one:Zs} {op num:Int} {args:LI} {kids:List Z9} {kb:Z9} {k:Nat} (h:kids[k]? = some kb) :
  Ke n ln L op num args one (kids.drop k) k=Gp one (VD n ln (Vv n.decls L op num args k) L.vars.length kb) (Ke n ln L op num args one (kids.drop (k+1)) (k+1)):=by
 rw [Y7 h,Ke]
def J8 (n:Zk) (ln:LI) (L:Zs) (s:Z5):Option Zs:=
 if s.op=8/\¬Wh L ln (gI s.args 0)=true then none else Q8 n ln L s.op s.num s.args s.kids
theorem Z1e {n:Zk} {ln:LI} {L:Zs} {s:Z5} (h8:s.op=8) (ha:¬Wh L ln (gI s.args 0)=true):J8 n ln L s=none:=by rw [J8,Ze ⟨h8,ha⟩]
theorem MK {n:Zk} {ln:LI} {L:Zs} {s:Z5} {kb:Z9} (h:¬(s.op=8/\¬Wh L ln (gI s.args 0)=true)) (hk:s.kids[0]? = some kb) :
  J8 n ln L s=AZ L (VD n ln (Vv n.decls L s.op s.num s.args 0) L.vars.length kb) fun one=>Ke n ln L s.op s.num s.args one (s.kids.drop 1) 1:=by
 rw [J8,Z8 h,Z8i hk]
theorem Jf {xs:LI} {x:Int} (h:xs[0]? = some x):gI xs 0=x:=by rw [gI];simp [h]
end Go.Abs
namespace Go.Abs
theorem Wt.grow {L:Zs} {t o p:Int} (h:Wt L):Wt (L.grow t o p):=by
 obtain ⟨f1,f2,f3,f4,f5⟩:=h
 exact ⟨by simp [Zs.grow,f1],by simp [Zs.grow,f2],by simp [Zs.grow,f3],by simp [Zs.grow,f4],by simp [Zs.grow,f5]⟩
theorem Wt.arm {L:Zs} {i j:Nat} {c d:Int} (h:Wt L):Wt ⟨L.vars,L.own,L.par,L.con.set i c,L.fst.set j d,L.tok⟩:=by
 obtain ⟨f1,f2,f3,f4,f5⟩:=h
 exact ⟨f1,f2,by simp [f3],by simp [f4],f5⟩
end Go.Abs
namespace Go.Abs
theorem OA {n:Zk} (hn:X4 n) {ln:LI} {L O:Zs} {q:Int} {s:Z5} {i:Nat} {kb:Z9} {m:LI} (hk:X7 n.decls L q) (hq:0<=q) (hf:JT n L.vars s) (hop:s.op=7∨s.op=8)
  (_:s.kids[i]? = some kb) (harm:(Xn n.decls s.op s.num)[i]? = some m) (hbt:0<=Xq n (L.vars++m) kb) (h:VD n ln (Vv n.decls L s.op s.num s.args i) L.vars.length kb=some O) :
  O.own.length=L.vars.length/\O.tok.length=L.vars.length:=by
 obtain ⟨k1,k2⟩:=CP hk hq hf hop harm
 obtain ⟨r1,r2,_⟩:=Mz hn k1 hq (by rw [k2];exact hbt) (by rw [k2];simp) h
 exact ⟨r1,r2⟩
theorem R0 {one two:Zs} {r:Bool} (h:¬(¬one.own=two.own∨¬one.tok=two.tok)):Gp one (some two) r=r:=Ze ⟨Vp.1 fun q=>h (.inl q),Vp.1 fun q=>h (.inr q)⟩
theorem PZ {one two:Zs} {r:Bool} (h:¬one.own=two.own∨¬one.tok=two.tok):Gp one (some two) r=false:=Z8 fun q=>h.elim (fun z=>z q.1) fun z=>z q.2
theorem P0 {L one:Zs} {f:Zs->Bool} (h:f one=true):AZ L (some one) f=some ⟨L.vars,one.own,L.par,L.con,L.fst,one.tok⟩:=Ze h
theorem DX {L one:Zs} {f:Zs->Bool} (h:f one=false):AZ L (some one) f=none:=Z8 (by rw [h];simp)
end Go.Abs
namespace Go.Abs
section
variable {n:Zk} {ln:LI} {L:Zs} {s:Z5}
abbrev TF (n:Zk) (ln:LI) (L:Zs) (s:Z5):Option Zs:=Qn n ln L s.op s.num s.into s.args (Q8 n ln L s.op s.num s.args s.kids)
theorem G9 {x:Int} (h:s.op=14) (hx:gI s.args 0=x):TF n ln L s=Jz L ln x:=hx▸Ze h
theorem Ga {x:Int} (h:s.op=15) (hx:gI s.args 0=x):TF n ln L s=UK L x:=by rw [<-hx,TF,Qn,Z8 om,Ze h]
theorem IV {x:Int} (h:s.op=16∨s.op=17) (hx:gI s.args 0=x):TF n ln L s=Qb n.decls L s.op x:=by rw [<-hx,TF,Qn,Z8 om,Z8 om,Ze h]
theorem Gc (h:s.op=7∨s.op=8):TF n ln L s=J8 n ln L s:=by rw [TF,Qn,Z8 om,Z8 om,Z8 om,Ze h,J8]
theorem Pw (h1:¬s.op=14) (h2:¬s.op=15) (h3:¬(s.op=16∨s.op=17)) (h4:¬(s.op=7∨s.op=8)):TF n ln L s=UF n ln L s.op s.num s.into s.args:=by
 rw [TF,Qn,Z8 h1,Z8 h2,Z8 h3,Z8 h4]
theorem Z30 {v:Int} (h:¬Wh L ln v=true):Jz L ln v=none:=Z8 h
theorem Z31 {v x:Int} (h:¬¬Wh L ln v=true) (hx:gI L.own v=x):Jz L ln v=some ⟨L.vars,L.own.set v.toNat (x+1),L.par,L.con,L.fst,L.tok⟩:=by rw [Jz,Ze (Vp.1 h),hx]
theorem Uk (n:Zk) (ln:LI) (L:Zs) (s:Z5):Vy n ln L s=Kc L s.op (Yc n L.vars s) (TF n ln L s):=LF n ln L s
theorem Te {X:Zs} {op t:Int} (h:XM op=true/\t≠0):Kc L op t (some X)=some (X.grow t 1 (-1)):=by
 unfold Kc;simp only [h.1,↓reduceIte];rw [Ze h.2]
theorem Tf {X:Zs} {op t:Int} (h:¬(XM op=true/\t≠0)) (h2:XM op=true):Kc L op t (some X)=some (X.grow 0 0 (-1)):=by
 have ht:t=0:=Vp.1 fun q=>h ⟨h2,q⟩
 subst ht
 unfold Kc;simp only [h2,↓reduceIte];rfl
theorem UV {X:Zs} {op t:Int} (h:¬XM op=true):Kc L op t (some X)=some X:=by
 unfold Kc;simp only [Z8 h]
end
end Go.Abs
namespace Go.Abs
theorem EJ {n:Zk} {us:LI} {b:Z9} (h:0<=Xq n us b):∃vs t,XH n b.steps us=some vs/\XA vs b.result=some t/\0<=t:=by
 rw [Ds] at h
 cases hv:XH n b.steps us with
 | none=>rw [hv] at h;simp at h
 | some vs=>
  rw [hv] at h
  simp only at h
  cases ha:XA vs b.result with
  | none=>rw [ha] at h;simp at h
  | some t=>rw [ha] at h;exact ⟨vs,t,rfl,ha,h⟩
theorem Ei {n:Zk} {us vs:LI} {s:Z5} {r:List Z5} (h:XH n (s::r) us=some vs):0<=Yc n us s/\XH n r (TU n us s)=some vs:=by
 rw [XH] at h
 split at h
 ·cases h
 ·exact ⟨by omega,h⟩
theorem Gq (n:Zk) (us:LI) (s:Z5):us.length<=(TU n us s).length/\(TU n us s).length<=us.length+s.sz:=by
 have:=s.sz_pos
 rw [TU];split
 ·simp only [Yw,GX];omega
 ·omega
end Go.Abs
namespace Go.Abs
theorem Z3n {X L:Zs} {m:Nat} {r x:Int} (hg:gI L.vars r=x) (h:x≠0) (ht:UK L r=some X):UD m r L=Jw X m:=by rw [UD,hg,Ze h,ht];rfl
theorem Z3m {L:Zs} {m:Nat} {r x:Int} (hg:gI L.vars r=x) (h:x≠0) (ht:UK L r=none):UD m r L=none:=by rw [UD,hg,Ze h,ht];rfl
theorem DA {L:Zs} {m:Nat} {r x:Int} (hg:gI L.vars r=x) (h:¬x≠0):UD m r L=Jw L m:=by rw [UD,hg,Z8 h];rfl
end Go.Abs
namespace Go.Abs
theorem Pu {ds:List Zf} {lent:LI}:∀{ps:LI} {i:Nat} {L:Zs},X7 ds L 1->X7 ds (QQ lent ps i L) 1/\(QQ lent ps i L).vars=L.vars++ps
 | [],i,L,hk=>⟨hk,by simp [QQ]⟩
 | t::r,i,L,hk=>by
  rw [QQ]
  obtain ⟨k1,k2⟩:=Pu (lent:=lent) (ps:=r) (i:=i+1) (hk.grow (t:=t) (o:=if t≠0/\¬(i:Int)∈lent then 1 else 0) (p:=-1) om (by split<;>omega))
  exact ⟨k1,by rw [k2];simp [Zs.grow]⟩
theorem IL (ds:List Zf) (r:Yf):X7 ds (U0 r) 1/\(U0 r).vars=r.params:=by
 have h:X7 ds (⟨[],[],[],[],[],[]⟩:Zs) 1:=⟨⟨rfl,rfl,rfl,rfl,rfl⟩,fun j h1 h2=>by simp at h2;omega,fun j h1 h2=>by simp at h2;omega,by simp,by simp⟩
 obtain ⟨k1,k2⟩:=Pu (lent:=r.lent) (ps:=r.params) (i:=0) h
 exact ⟨k1,by rw [U0,k2];rfl⟩
end Go.Abs
namespace Go.Abs
theorem PL {n:Zk}:∀{l:List Yf},QS n l=true->∀r∈l,¬TG r.body<0/\Xq n r.params r.body=r.result
 | [],_,r,h=>by simp at h
 | a::l,h,r,hr=>by
  rw [QS] at h
  split at h
  ·rename_i h1
   rcases YD.1 hr with rfl|hr
   ·exact h1
   ·exact PL h r hr
  ·cases h
theorem Dc {n:Zk} (hz:Uc n) (h:XL n=true):X4 n/\∀r∈n.routines,0<=Xq n r.params r.body:=by
 simp only [XL,W7] at h
 refine ⟨IN hz h.1,fun r hr=>?_⟩
 rw [(PL h.2 r hr).2]
 have h1:=h.1
 simp only [U1,QZ,W7] at h1
 have:=Lp h1.2.1.2.2.1 (Uu r) (Wd.2 ⟨r,hr,rfl⟩)
 simp only [KR,W7,decide_eq_true_eq,Uu] at this
 exact (of_decide_eq_true this.2.2).1
end Go.Abs
end
section
namespace Go.Abs
theorem HM {xs:LI} (h:Z6 xs=[]):xs=[]:=by cases xs with|nil=>rfl|cons x r=>cases h
def JF (i:Int):LI->Nat->Int
 | [],_=>-1
 | x::r,k=>if i=x then (k:Int) else JF i r (k+1)
def FD (xs:LI) (i:Int):Int:=JF i xs 0
theorem Oc (i:Int):∀(xs:LI) (k:Nat),(0<=JF i xs k↔i∈xs)/\-1<=JF i xs k
 | [],k=>by simp [JF]
 | x::r,k=>by
  rw [JF]
  obtain ⟨h1,h2⟩:=Oc i r (k+1)
  split
  ·rename_i h;subst h;simp<;>omega
  ·rename_i h;simp [h1,h,h2]
theorem Z7l (xs:LI) (i:Int):decide (FD xs i>=0)=decide (i∈xs):=by
 rw [decide_eq_decide];exact (Oc i xs 0).1
end Go.Abs
namespace Go.Abs
theorem Nv (xss:List LI) (k:Nat):(xss.take k).flatten.length<=xss.flatten.length:=by
 conv=>rhs;rw [<-Ux k xss,List.flatten_append,Yw]
 omega
end Go.Abs
namespace Go.Abs
theorem I0 {xss:List LI} {k:Nat} {x:LI} (h:xss[k]? = some x):(xss.take (k+1)).flatten=(xss.take k).flatten++x:=by rw [V7 h,List.flatten_append];simp
theorem Nu {xss:List LI} {k:Nat} {x:LI} (h:xss[k]? = some x):(xss.take k).flatten.length+x.length<=xss.flatten.length:=by
 have:=Nv xss (k+1)
 rw [I0 h,Yw] at this
 exact this
end Go.Abs
end
section
namespace Go.Abs
theorem Z1y {c:Int} {ds:List Zf} {k:Nat} {d:Zf} {r:Int × LI} (h:ds[k]? = some d) (hn:¬(c-YO (ds.take k)>=0/\c-YO (ds.take k)<d.cons.length))
  (hr:T8 c (ds.drop k) k (YO (ds.take k))=r):T8 c (ds.drop (k+1)) (k+1) (YO (ds.take (k+1)))=r:=by
 rw [Y7 h,T8,Z8 om] at hr
 rw [V7 h,Dw,<-hr];rfl
end Go.Abs
namespace Go.Abs
theorem Z20 {c:Int} {ds:List Zf} {k:Nat} {d:Zf} {x:Yk} (h:ds[k]? = some d) (hn:c-YO (ds.take k)>=0/\c-YO (ds.take k)<d.cons.length)
  (hx:d.cons[(c-YO (ds.take k)).toNat]? = some x):T8 c (ds.drop k) k (YO (ds.take k))=((k:Int)+1,x.fields):=by
 rw [Y7 h,T8,Ze om,hx];rfl
def Av (c:Int) (z:Nat) (v:Int):Prop:=v=c-z∨(c<0/\c-z < -9223372036854775808/\v=c-z+18446744073709551616)
theorem Z0h {c:Int} {z l:Nat} {v:Int} (h:Av c z v) (hz:z<=100) (hl:l<=3) (hc:-9223372036854775808<=c/\c<=9223372036854775807):Av c (z+l) (Cb (v-l)):=by
 unfold Av at *;rw [Cb,IntKind.wrap_i64];omega
theorem Z1z {c v:Int} {ds:List Zf} {k:Nat} {d:Zf} {r:Int × LI} (h:ds[k]? = some d) (ha:Av c (YO (ds.take k)) v) (hn:¬(v>=0/\v<d.cons.length))
  (hr:T8 c (ds.drop k) k (YO (ds.take k))=r):T8 c (ds.drop (k+1)) (k+1) (YO (ds.take (k+1)))=r:=Z1y h (by unfold Av at ha;omega) hr
theorem Z21 {c v:Int} {ds:List Zf} {k:Nat} {d:Zf} {x:Yk} (h:ds[k]? = some d) (ha:Av c (YO (ds.take k)) v) (hz:YO (ds.take k)<=100) (hl:d.cons.length<=3) (hc:-9223372036854775808<=c)
  (hn:v>=0/\v<d.cons.length) (hx:d.cons[v.toNat]? = some x):T8 c (ds.drop k) k (YO (ds.take k))=((k:Int)+1,x.fields):=by
 have:v=c-(YO (ds.take k):Int):=by unfold Av at ha;omega
 subst this
 exact Z20 h hn hx
def VL (ds:List Zf) (t:Int):Zf:=if XX ds t=true then (ds[(t-1).toNat]?).getD ⟨0,0,[]⟩ else ⟨0,0,[]⟩
end Go.Abs
namespace Go.Abs
abbrev MZ (ds:List Zf) (d:Zf):Prop:=
 (((¬(0<=d.frm/\d.frm<=ds.length))∨(¬(0<=d.to_/\d.to_<=ds.length)))∨((d.cons.length:Int)>3))∨(((d.cons.length:Int)>0)/\((d.frm≠0)∨(d.to_≠0)))
theorem Z2t {ds:List Zf} {d:Zf} {i:Nat} (h:MZ ds d):UC ds d i=false:=by
 rw [UC]
 split
 ·rw [Z8];rintro ⟨h1,h2,h3⟩
  rcases h with ((h|h)|h)|h<;>omega
 ·split
  ·rfl
  ·rcases h with ((h|h)|h)|h
   ·rw [decide_eq_false h];rfl
   ·rw [decide_eq_false h,Bool.and_false]
   ·omega
   ·omega
theorem Z2u {ds:List Zf} {d:Zf} {i:Nat} (hl:0<d.cons.length) (h:TC ds.length d.cons=false):UC ds d i=false:=by
 rw [UC,Ze hl];split
 ·exact h
 ·rfl
theorem Z2v {ds:List Zf} {d:Zf} {i:Nat} (hl:d.cons.length=0) (h:QC d (ds.take i)=true):UC ds d i=false:=by
 rw [UC,Z8 om,Ze h]
theorem Z2w {ds:List Zf} {d:Zf} {i:Nat} (h1:¬MZ ds d) (h2:TC ds.length d.cons=true) (h3:d.cons.length=0->QC d (ds.take i)=false):UC ds d i=true:=by
 rw [UC]
 have ha:0<=d.frm/\d.frm<=ds.length:=Vp.1 fun q=>h1 (.inl (.inl (.inl q)))
 have hb:0<=d.to_/\d.to_<=ds.length:=Vp.1 fun q=>h1 (.inl (.inl (.inr q)))
 have hc:¬(d.cons.length:Int)>3:=fun q=>h1 (.inl (.inr q))
 split
 ·rename_i hl
  have hd:¬(d.frm≠0∨d.to_≠0):=fun q=>h1 (.inr ⟨by omega,q⟩)
  rw [Ze ⟨by omega,by omega,by omega⟩];exact h2
 ·rw [Z8 (by rw [h3 om];simp),decide_eq_true ha,decide_eq_true hb];rfl
theorem LT {ds:List Zf} {k:Nat} {d:Zf} (h:ds[k]? = some d) (hA:UC ds d k=false) (c:Ta ds (ds.drop k) k=Ta ds ds 0):false=WT ds:=by
 rw [WT,<-c,Y7 h,Ta,Dx h,hA,Z8 (by simp),Bool.and_false]
theorem Zew {ds:List Zf} {k:Nat} {d:Zf} {r:Bool} (h:ds[k]? = some d) (hA:UC ds d k=true) (c:Ta ds (ds.drop k) k=r):Ta ds (ds.drop (k+1)) (k+1)=r:=by
 rw [Y7 h,Ta,Dx h,hA,Ze rfl] at c;exact c
theorem Zev {ds:List Zf} {k:Nat} (hl:ds.length<=4) (hk:ds.length<=k) (c:Ta ds (ds.drop k) k=Ta ds ds 0):true=WT ds:=by
 rw [WT,<-c,Xi hk,decide_eq_true hl];rfl
theorem Z22 {m:Nat} {c:Yk} (h:((c.fields.length:Int)>3)∨(¬(Wi m c.fields=true))):Ja m c=false:=by
 rw [Ja]
 rcases h with h|h
 ·rw [decide_eq_false om];rfl
 ·rw [J5.2 h,Bool.and_false]
theorem Z23 {m:Nat} {c:Yk} (h:¬(((c.fields.length:Int)>3)∨(¬(Wi m c.fields=true)))):Ja m c=true:=by
 rw [Ja,Vp.1 fun q=>h (.inr q),decide_eq_true (by have:¬(c.fields.length:Int)>3:=fun q=>h (.inl q);omega)];rfl
end Go.Abs
end
section
namespace Go.Abs
structure V9 where
 pms:LI
 lnt:LI
 res:Int
abbrev OI (f:V9):List AV:=[Z4 f.pms,Z4 f.lnt,.i f.res]
abbrev Ex (f:V9):AV:=.agg (OI f)
def Td (fs:List V9):List AV:=fs.map Ex
abbrev CT (xs:List V9):AV:=.sl (Td xs) none
abbrev G3 (xs:List V9) (v:Value):AV:=.sl (Td xs) (some v)
theorem BL {xs:List V9} {j:Nat} {x:V9} (h:xs[j]? = some x):(Td xs)[j]? = some (Ex x):=by simp [Td,h]
@[simp] theorem Dz (xs:List V9):(Td xs).length=xs.length:=by simp [Td]
theorem N3 (xs:List V9):∀y∈Td xs,y.leaves.length=3:=by intro y hy;simp only [Td,Wd] at hy;obtain ⟨x,_,rfl⟩:=hy;rfl
theorem Z3f (xs:List V9):(Zo (Td xs)).all AV.one=true:=Je fun y hy=>by simp only [Td,Wd] at hy;obtain ⟨x,_,rfl⟩:=hy;rfl
def XU (r:Yf):V9:=⟨r.params,r.lent,r.result⟩
def JH (m:Nat) (f:V9):Bool:=KR m ⟨f.pms,f.res⟩&&J1 f.pms f.lnt
def Ki (m:Nat):List V9->Bool
 | []=>true
 | f::r=>if JH m f=true then Ki m r else false
def HU:List V9->Bool
 | []=>false
 | f::_=>decide (f.pms.length=0)&&decide (f.res=0)
def J2 (ds:List Zf) (fs:List V9):Bool:=WT ds&&(decide (1<=fs.length/\fs.length<=4)&&(HU fs&&Ki ds.length fs))
theorem Nn {fs:List V9} {x:V9} (h:fs[0]? = some x):HU fs=(decide (x.pms.length=0)&&decide (x.res=0)):=by
 cases fs with
 | nil=>simp at h
 | cons f r=>simp at h;subst h;rfl
theorem Rf (m:Nat):∀rs:List Yf,Ki m (rs.map XU)=(KS m (rs.map Uu)&&KN rs)
 | []=>rfl
 | r::rs=>by
  simp only [Um,Ki,KS,KN,JH,Rf m rs]
  simp only [XU,Uu]
  by_cases h1:KR m { params:=r.params,result:=r.result }=true<;>by_cases h2:J1 r.params r.lent=true<;>simp [h1,h2]
theorem P4 (n:Zk):U1 n=(decide (n.routines.length<=4)&&J2 n.decls (n.routines.map XU)):=by
 have hf:HU (n.routines.map XU)=Ff (n.routines.map Uu):=by
  cases n.routines with
  | nil=>rfl
  | cons r rs=>rfl
 rw [U1,J2,QZ,Rf,hf]
 simp only [At]
 cases decide (n.routines.length<=4)<;>cases WT n.decls<;>cases decide (1<=n.routines.length/\n.routines.length<=4)<;>cases KS n.decls.length (n.routines.map Uu) <;>
  cases Ff (n.routines.map Uu)<;>cases KN n.routines<;>rfl
theorem Gr {rs:List Yf} {j:Nat} {x:V9} (h:(rs.map XU)[j]? = some x):∃r,rs[j]? = some r/\x=XU r:=by
 rw [T6] at h
 cases hr:rs[j]? with
 | none=>rw [hr] at h;cases h
 | some r=>rw [hr] at h;cases h;exact ⟨r,rfl,rfl⟩
theorem OV {ps ls:LI} {j:Nat} {v:Int} {r:Bool} (h:ls[j]? = some v) (hg:(0<=v/\v<=(ps.length:Int)-1)/\ps[v.toNat]?≠some 0/\(∀p,(if j=0 then none else ls[j-1]?)=some p->p<v))
  (hr:Ql ps (ls.drop j) (if j=0 then none else ls[j-1]?)=r):Ql ps (ls.drop (j+1)) (if j+1=0 then none else ls[j+1-1]?)=r:=by
 rw [Y7 h,IF hg] at hr
 rw [Z8 om,show j+1-1=j from rfl,h];exact hr
theorem IG {ps ls:LI} {j:Nat} {v:Int} {r:Bool} (h:ls[j]? = some v) (hg:¬((0<=v/\v<=(ps.length:Int)-1)/\ps[v.toNat]?≠some 0/\(∀p,(if j=0 then none else ls[j-1]?)=some p->p<v)))
  (hr:Ql ps (ls.drop j) (if j=0 then none else ls[j-1]?)=r):r=false:=by
 rw [Y7 h,FU hg] at hr;exact hr.symm
theorem Gs {m:Nat} {fs:List V9} {k:Nat} {f:V9} {r:Bool} (h:fs[k]? = some f) (hb:JH m f=false) (hr:Ki m (fs.drop k)=r):r=false:=by
 rw [Y7 h,Ki,hb,Z8 (by simp)] at hr;exact hr.symm
theorem Zc4 {m:Nat} {fs:List V9} {k:Nat} {f:V9} {r:Bool} (h:fs[k]? = some f) (hb:JH m f=true) (hr:Ki m (fs.drop k)=r):Ki m (fs.drop (k+1))=r:=by
 rw [Y7 h,Ki,Ze hb] at hr;exact hr
end Go.Abs
namespace Go.Abs
section
variable {ds:List Zf} {fs:List V9} {x:V9}
theorem Zf3 (h:((¬(WT ds=true))∨((fs.length:Int)<1))∨((fs.length:Int)>4)):false=J2 ds fs:=by
 rw [J2]
 rcases h with (h|h)|h
 ·rw [J5.2 h];rfl
 ·rw [decide_eq_false (p:=1<=fs.length/\fs.length<=4) om];simp
 ·rw [decide_eq_false (p:=1<=fs.length/\fs.length<=4) om];simp
theorem Sf (hx:fs[0]? = some x) (h:((x.pms.length:Int)>0)∨x.res≠0):false=J2 ds fs:=by
 rw [J2,Nn hx]
 rcases h with h|h
 ·rw [decide_eq_false (p:=x.pms.length=0) om];simp
 ·rw [decide_eq_false (p:=x.res=0) h];simp
theorem GM (h:Ki ds.length fs=false):false=J2 ds fs:=by rw [J2,h];simp
theorem Zf4 (h:¬(((¬(WT ds=true))∨((fs.length:Int)<1))∨((fs.length:Int)>4))) (hx:fs[0]? = some x) (h1:¬((x.pms.length:Int)>0)) (h2:¬x.res≠0) (h3:Ki ds.length fs=true) :
  true=J2 ds fs:=by
 have hv:WT ds=true:=Vp.1 fun q=>h (.inl (.inl q))
 have ha:¬(fs.length:Int)<1:=fun q=>h (.inl (.inr q))
 have hb:¬(fs.length:Int)>4:=fun q=>h (.inr q)
 rw [J2,Nn hx,hv,h3,decide_eq_true (p:=1<=fs.length/\fs.length<=4) om,decide_eq_true (p:=x.pms.length=0) om,decide_eq_true (p:=x.res=0) (Vp.1 h2)];rfl
abbrev Rc (m:Nat) (x:V9):Prop:=(((x.pms.length:Int)>3)∨(¬(Wi m x.pms=true)))∨(¬(0<=x.res/\x.res<=m))
theorem Zbl {m:Nat} (h:Rc m x):JH m x=false:=by
 rw [JH,KR]
 rcases h with (h|h)|h
 ·rw [decide_eq_false (p:=x.pms.length<=3) om];simp
 ·rw [J5.2 h];simp
 ·rw [decide_eq_false h];simp
theorem Lh {m:Nat} (h:J1 x.pms x.lnt=false):JH m x=false:=by rw [JH,h,Bool.and_false]
theorem Zbm {m:Nat} (h:¬Rc m x) (hl:J1 x.pms x.lnt=true):JH m x=true:=by
 have h1:¬(x.pms.length:Int)>3:=fun q=>h (.inl (.inl q))
 rw [JH,KR,hl,decide_eq_true (p:=x.pms.length<=3) om,Vp.1 fun q=>h (.inl (.inr q)),decide_eq_true (Vp.1 fun q=>h (.inr q))];rfl
end
end Go.Abs
namespace Go.Abs
abbrev YS (n:Zk):AV:=CT (n.routines.map XU)
end Go.Abs
end
section
namespace Go.Abs
def Wj (us:LI):LI->Option LI
 | []=>some []
 | a::r=>match XA us a with
  | none=>none
  | some t=>match Wj us r with
   | none=>none
   | some ts=>some (t::ts)
theorem LQ {us:LI}:∀{args ts:LI},Wj us args=some ts->∀tys,Wc us args tys=true↔ts=tys
 | [],ts,h,tys=>by
  rw [Wj] at h;cases h
  cases tys with
  | nil=>simp [Wc,T2]
  | cons t r=>simp [Wc,T2]
 | a::r,ts,h,tys=>by
  rw [Wj] at h
  cases ha:XA us a with
  | none=>rw [ha] at h;cases h
  | some t=>
   rw [ha] at h
   cases hr:Wj us r with
   | none=>rw [hr] at h;cases h
   | some tr=>
    rw [hr] at h;cases h
    cases tys with
    | nil=>simp [Wc,T2]
    | cons t2 r2=>
     rw [Wc,T2,ha]
     have:=LQ hr r2
     rw [Wc] at this
     by_cases he:t=t2
     ·subst he;simp [this]
     ·rw [Z8 (fun q=>he (Tz q))];simp [he]
theorem Mh {us:LI}:∀{args ts:LI},Wj us args=some ts->ts.length=args.length
 | [],ts,h=>by rw [Wj] at h;cases h;rfl
 | a::r,ts,h=>by
  rw [Wj] at h
  cases ha:XA us a with
  | none=>rw [ha] at h;cases h
  | some t=>
   rw [ha] at h
   cases hr:Wj us r with
   | none=>rw [hr] at h;cases h
   | some tr=>rw [hr] at h;cases h;simp [Mh hr]
theorem Mi {us:LI} {b t:Int}:∀{xs ts:LI},Wj us xs=some ts->XA us b=some t->Wj us (xs++[b])=some (ts++[t])
 | [],ts,h,hb=>by rw [Wj] at h;cases h;simp [Wj,hb]
 | a::r,ts,h,hb=>by
  rw [Wj] at h
  cases ha:XA us a with
  | none=>rw [ha] at h;cases h
  | some u=>
   rw [ha] at h
   cases hr:Wj us r with
   | none=>rw [hr] at h;cases h
   | some tr=>
    rw [hr] at h;cases h
    rw [Qt,Wj,ha,Mi hr hb];rfl
def Dq (n:Zk) (num:Int):LI->Option Int
 | [a,b]=>if XX n.decls a=true/\b=(VL n.decls a).frm/\num=0 then some (VL n.decls a).to_ else none
 | _=>none
def XG (n:Zk) (op num:Int) (ts:LI):Option Int:=
 if op=0 then (if (-999<=num/\num<=999)/\ts.length=0 then some 0 else none)
 else if op=1∨op=2∨op=3∨op=4 then (if num=0/\ts=[0,0] then some 0 else none)
 else if op=5 then (if num=0/\ts=[0] then some 0 else none)
 else if op=11 then Dq n num ts
 else if op=6 then (if 0<=Wf n.decls num/\ts=ZV n.decls num then some (Wf n.decls num) else none)
 else if op=9 then (match XA n.routines num with
  | none=>none
  | some r=>if ts=r.params then some r.result else none)
 else if op=10 then (match XA n.routines num with
  | none=>none
  | some r=>if r.params.length≠0/\0<=Kw n.decls r.params r.result/\ts=r.params.take (r.params.length-1) then some (Kw n.decls r.params r.result) else none)
 else none
theorem EE {n:Zk} {num:Int} {ts:LI} (h:ts.length≠2):Dq n num ts=none:=by
 match ts,h with
 | [],_=>rfl
 | [_],_=>rfl
 | [_,_],h=>simp at h
 | _::_::_::_,_=>rfl
structure Kr (n:Zk):Prop where
 result:∀r∈n.routines,0<=r.result
 params:∀r∈n.routines,∀p∈r.params,0<=p
 decl:∀d∈n.decls,d.cons.length=0->0<=d.frm/\0<=d.to_
 fields:∀c,∀f∈ZV n.decls c,0<=f
abbrev Oh (us:LI) (s:Z5):Prop:=s.into≠0/\(((s.op≠6∨s.into<1)∨s.into>us.length)∨gI us (s.into-1)=0)
theorem Z82 {us:LI} {op into:Int} (hnn:∀t∈us,0<=t) (h:¬(into≠0/\(((op≠6∨into<1)∨into>us.length)∨gI us (into-1)=0))):Ul us op into=true:=by
 rw [Ul]
 split
 ·rfl
 ·rename_i h0
  have h1:¬(((op≠6∨into<1)∨into>us.length)∨gI us (into-1)=0):=fun q=>h ⟨h0,q⟩
  have h2:op=6:=Vp.1 fun q=>h1 (.inl (.inl (.inl q)))
  have h3:¬into<1:=fun q=>h1 (.inl (.inl (.inr q)))
  have h4:¬into>us.length:=fun q=>h1 (.inl (.inr q))
  have h5:¬gI us (into-1)=0:=fun q=>h1 (.inr q)
  obtain ⟨t,ht⟩:=Kd (xs:=us) (j:=(into-1).toNat) om
  rw [Ze h2,Q0 om ht]
  rw [Vh ht] at h5
  have:=hnn t (Y2 ht)
  simp;omega
theorem Z81 {us:LI} {op into:Int} (h:into≠0/\(((op≠6∨into<1)∨into>us.length)∨gI us (into-1)=0)):Ul us op into=false:=by
 obtain ⟨h0,h⟩:=h
 rw [Ul,Z8 h0]
 split
 ·rename_i h6
  cases ha:XA us (into-1) with
  | none=>rfl
  | some t=>
   obtain ⟨a1,a2⟩:=J6 ha
   rcases h with ((h|h)|h)|h
   ·exact absurd h6 h
   ·omega
   ·omega
   ·rw [Vh a2] at h;subst h;rfl
 ·rfl
theorem Ze5 {n:Zk} {us:LI} {s:Z5} (h:Oh us s):Yc n us s=-1:=by
 rw [An,Ze (.inr (.inl (by rw [Z81 h];simp)))]
end Go.Abs
namespace Go.Abs
theorem Z83 {α:Type} {c:Prop} [Decidable c] {v:α}:(if c then some v else none).isSome=decide c:=by split<;>simp_all
theorem Zc5 {n:Zk} (hty:Kr n) {op num:Int} {ts:LI} {x:Int} (h:XG n op num ts=some x):0<=x:=by
 unfold XG at h
 split at h
 ·split at h<;>cases h;exact Int.le_refl 0
 split at h
 ·split at h<;>cases h;exact Int.le_refl 0
 split at h
 ·split at h<;>cases h;exact Int.le_refl 0
 split at h
 ·rcases ts with _|⟨a,_|⟨b,_|⟨c,r⟩⟩⟩
  ·cases h
  ·cases h
  ·rw [Dq] at h
   split at h
   ·rename_i hq
    cases h
    rw [VL,Ze hq.1]
    have hA:=hq.1
    simp only [XX,W7,decide_eq_true_eq] at hA
    cases hd:n.decls[(a-1).toNat]? with
    | none=>rw [hd] at hA;simp at hA
    | some d=>
     rw [hd] at hA
     exact (hty.decl d (Y2 hd) (by simpa using hA.2)).2
   ·cases h
  ·cases h
 split at h
 ·split at h
  ·rename_i hq;cases h;exact hq.1
  ·cases h
 split at h
 ·cases ha:XA n.routines num with
  | none=>rw [ha] at h;cases h
  | some r=>
   rw [ha] at h
   simp only at h
   split at h
   ·cases h;exact hty.result r (Y2 (J6 ha).2)
   ·cases h
 split at h
 ·cases ha:XA n.routines num with
  | none=>rw [ha] at h;cases h
  | some r=>
   rw [ha] at h
   simp only at h
   split at h
   ·rename_i hq;cases h;exact hq.2.1
   ·cases h
 ·cases h
def KY (n:Zk) (us:LI) (s:Z5) (ts:LI):Int:=
 if YC s.op=true then (match ts with
  | [t]=>if t≠0/\s.num=0/\s.kids.length=0/\¬((s.op=16∨s.op=17)/\XX n.decls t=true) then 0 else -1
  | _=>-1)
 else if s.op=7 then (if ts=[0]/\s.num=0 then Tu n us s.op s.num s.kids else -1)
 else if s.op=8 then (if ts=[s.num] then Tu n us s.op s.num s.kids else -1)
 else if 0<s.kids.length∨(s.op=10/\0<(((XA n.routines s.num).map (·.lent)).getD []).length) then -1
 else (XG n s.op s.num ts).getD (-1)
theorem Ok {p q:Prop} [Decidable p] [Decidable q] {a b:Int} (h:p↔q):ite p a b=ite q a b:=by
 by_cases hp:p
 ·rw [Ze hp,Ze (h.1 hp)]
 ·rw [Z8 hp,Z8 (fun z=>hp (h.2 z))]
theorem Bj {n:Zk} {us:LI} {s:Z5} {ts:LI} (hnn:∀t∈us,0<=t) (hts:Wj us s.args=some ts) (hi:¬Oh us s):Yc n us s=KY n us s ts:=by
 have hv:=Z82 hnn hi
 have ht:=LQ hts
 have hl:=Mh hts
 have hfirst:((s.num≠0/\¬VH s.op=true)∨¬Ul us s.op s.into=true∨(0<s.kids.length/\s.op≠7/\s.op≠8))↔((s.num≠0/\¬VH s.op=true)∨(0<s.kids.length/\s.op≠7/\s.op≠8)):=by
  rw [hv];simp
 rw [An,Ok hfirst]
 unfold KY
 by_cases hc:YC s.op=true
 ·have hop:14<=s.op/\s.op<=17:=by simpa [YC] using hc
  have hnum:VH s.op=false:=by simp [VH];omega
  rw [Ze hc]
  by_cases hb:s.num≠0∨0<s.kids.length
  ·rw [Ze (by rcases hb with hb|hb;exact .inl ⟨hb,by rw [hnum];simp⟩;exact .inr ⟨hb,by omega,by omega⟩)]
   split
   ·rw [Z8];rintro ⟨h1,h2,h3,h4⟩;omega
   ·rfl
  ·rw [Z8 (by rintro (⟨h1,_⟩|⟨h1,_⟩)<;>exact hb (by first|exact .inl h1|exact .inr h1)),Z8 om,Z8 om,Z8 om,Z8 om,Z8 om,Z8 om,Z8 om,Z8 om,Ze om]
   have Zb:s.num=0:=Vp.1 fun q=>hb (.inl q)
   have ZA:s.kids.length=0:=by have:¬0<s.kids.length:=fun q=>hb (.inr q);omega
   rcases he:s.args with _|⟨a,_|⟨b,r⟩⟩
   ·rw [he] at hts;rw [Wj] at hts;cases hts;rfl
   ·rw [he] at hts
    rw [Wj] at hts
    cases ha:XA us a with
    | none=>rw [ha] at hts;cases hts
    | some t=>
     rw [ha,Wj] at hts;cases hts
     rw [Qg,ha]
     simp only
     by_cases ht0:t=0
     ·rw [Ze ht0,Z8 (fun q=>q.1 ht0)]
     ·rw [Z8 ht0]
      by_cases hA:XX n.decls t=true
      ·by_cases h16:s.op=16∨s.op=17
       ·rw [Ze ⟨by omega,hA⟩,Z8 (fun q=>q.2.2.2 ⟨h16,hA⟩)]
       ·rw [Z8 (by rintro ⟨q,_⟩;omega),Ze ⟨ht0,Zb,ZA,fun q=>h16 q.1⟩]
      ·rw [Z8 (fun q=>hA q.2),Ze ⟨ht0,Zb,ZA,fun q=>hA q.2⟩]
   ·rw [he] at hl
    rw [show Qg n.decls us s.op (a::b::r)=-1 from rfl]
    match ts,hl with
    | [t],hl=>simp at hl
    | [],hl=>simp at hl
    | _::_::_,_=>rfl
 have hop:¬(14<=s.op/\s.op<=17):=by simpa [YC] using hc
 by_cases h7:s.op=7
 ·have hnum:VH s.op=false:=by simp [VH];omega
  conv=>rhs;rw [Z8 hc,Ze h7]
  by_cases hb:s.num=0
  ·rw [Z8 (fun q=>q.elim (fun z=>z.1 hb) fun z=>z.2.1 h7),Z8 om,Z8 om,Z8 om,Z8 om,Ze h7]
   by_cases hq:ts=[0]
   ·rw [Ze ((ht _).2 hq),Ze ⟨hq,hb⟩]
   ·rw [Z8 (fun q=>hq ((ht _).1 q)),Z8 (fun q=>hq q.1)]
  ·rw [Ze (.inl ⟨hb,by rw [hnum];simp⟩),Z8 (fun q=>hb q.2)]
 by_cases h8:s.op=8
 ·have hnum:VH s.op=true:=by simp [VH,h8]
  conv=>rhs;rw [Z8 hc,Z8 h7,Ze h8]
  rw [Z8 (fun q=>q.elim (fun z=>z.2 hnum) fun z=>z.2.2 h8),Z8 om,Z8 om,Z8 om,Z8 om,Z8 h7,Ze h8]
  by_cases hq:ts=[s.num]
  ·rw [Ze ((ht _).2 hq),Ze hq]
  ·rw [Z8 (fun q=>hq ((ht _).1 q)),Z8 hq]
 conv=>rhs;rw [Z8 hc,Z8 h7,Z8 h8]
 by_cases hk:0<s.kids.length
 ·rw [Ze (.inr ⟨hk,h7,h8⟩),Ze (.inl hk)]
 by_cases hlent:s.op=10/\0<(((XA n.routines s.num).map (·.lent)).getD []).length
 ·conv=>rhs;rw [Ze (.inr hlent)]
  have hnum:VH s.op=true:=by simp [VH,hlent.1]
  have h10:=hlent.1
  rw [Z8 (fun q=>q.elim (fun z=>z.2 hnum) fun z=>hk z.1),Z8 om,Z8 om,Z8 om,Z8 om,Z8 h7,Z8 h8,Ze (.inr h10),Tx]
  cases ha:XA n.routines s.num with
  | none=>rfl
  | some r=>
   have h2:=hlent.2
   rw [ha] at h2
   simp only [Bv,Option.getD_some] at h2
   simp only
   rw [Kh,Z8 om,Ze (.inr (.inl h2))]
 conv=>rhs;rw [Z8 (fun q=>Or.elim q hk hlent)]
 have sf:∀{X:Option Int},XG n s.op s.num ts=X->Yc n us s=X.getD (-1)->Yc n us s=(XG n s.op s.num ts).getD (-1):=fun a b=>by rw [a];exact b
 have hL:=An n us s
 rw [Ok hfirst] at hL
 rw [<-hL]
 by_cases hnb:s.num≠0/\¬VH s.op=true
 ·have hnn2:¬(s.op=0∨(s.op=6∨(s.op=8∨(s.op=9∨s.op=10)))):=fun q=>hnb.2 (by simpa [VH] using q)
  refine sf (X:=none) ?_ (by rw [hL,Ze (.inl hnb)];rfl)
  unfold XG
  rw [Z8 om]
  split
  ·rw [Z8 (fun q=>hnb.1 q.1)]
  split
  ·rw [Z8 (fun q=>hnb.1 q.1)]
  split
  ·by_cases hl2:ts.length=2
   ·match ts,hl2 with
    | [a,b],_=>exact Z8 fun q=>hnb.1 q.2.2
   ·exact EE hl2
  rw [Z8 om,Z8 om,Z8 om]
 rw [Z8 (fun q=>q.elim hnb fun z=>hk z.1)] at hL
 have hnumf:¬(s.op=0∨(s.op=6∨(s.op=8∨(s.op=9∨s.op=10))))->s.num=0:=fun q=>Vp.1 fun z=>hnb ⟨z,fun y=>q (by simpa [VH] using y)⟩
 by_cases h0:s.op=0
 ·rw [Ze h0] at hL
  by_cases hq:s.args.length=0/\(-999<=s.num/\s.num<=999)
  ·exact sf (by unfold XG;rw [Ze h0,Ze ⟨hq.2,by omega⟩]) (by rw [hL,Ze hq];rfl)
  ·exact sf (by unfold XG;rw [Ze h0,Z8 (fun q=>hq ⟨by omega,q.1⟩)]) (by rw [hL,Z8 hq];rfl)
 rw [Z8 h0] at hL
 by_cases h1:s.op=1∨s.op=2∨s.op=3∨s.op=4
 ·rw [Ze h1] at hL
  by_cases hq:ts=[0,0]
  ·exact sf (by unfold XG;rw [Z8 h0,Ze h1,Ze ⟨hnumf om,hq⟩]) (by rw [hL,Ze ((ht _).2 hq)];rfl)
  ·exact sf (by unfold XG;rw [Z8 h0,Ze h1,Z8 (fun q=>hq q.2)]) (by rw [hL,Z8 (fun q=>hq ((ht _).1 q))];rfl)
 rw [Z8 h1] at hL
 by_cases h5:s.op=5
 ·rw [Ze h5] at hL
  by_cases hq:ts=[0]
  ·exact sf (by unfold XG;rw [Z8 h0,Z8 h1,Ze h5,Ze ⟨hnumf om,hq⟩]) (by rw [hL,Ze ((ht _).2 hq)];rfl)
  ·exact sf (by unfold XG;rw [Z8 h0,Z8 h1,Ze h5,Z8 (fun q=>hq q.2)]) (by rw [hL,Z8 (fun q=>hq ((ht _).1 q))];rfl)
 rw [Z8 h5] at hL
 by_cases h6:s.op=6
 ·rw [Ze h6] at hL
  have hct:0<Wf n.decls s.num↔0<=Wf n.decls s.num:=by
   rcases Int.lt_or_le (Wf n.decls s.num) 1 with q|q
   ·have:=(ES q).2;omega
   ·omega
  by_cases hq:0<=Wf n.decls s.num/\ts=ZV n.decls s.num
  ·exact sf (by unfold XG;rw [Z8 h0,Z8 h1,Z8 h5,Z8 om,Ze h6,Ze hq]) (by rw [hL,Ze ⟨hct.2 hq.1,(ht _).2 hq.2⟩];rfl)
  ·exact sf (by unfold XG;rw [Z8 h0,Z8 h1,Z8 h5,Z8 om,Ze h6,Z8 hq]) (by rw [hL,Z8 (fun q=>hq ⟨hct.1 q.1,(ht _).1 q.2⟩)];rfl)
 rw [Z8 h6,Z8 h7,Z8 h8] at hL
 by_cases h9:s.op=9
 ·rw [Ze (.inl h9),Tx] at hL
  cases ha:XA n.routines s.num with
  | none=>exact sf (by unfold XG;rw [Z8 h0,Z8 h1,Z8 h5,Z8 om,Z8 h6,Ze h9,ha]) (by rw [hL,ha];rfl)
  | some r=>
   rw [ha] at hL
   simp only at hL
   rw [Kh,Ze h9] at hL
   have hF:∀{X:Option Int},(if ts=r.params then some r.result else none)=X->XG n s.op s.num ts=X:=fun q=>by
    unfold XG;rw [Z8 h0,Z8 h1,Z8 h5,Z8 om,Z8 h6,Ze h9,ha];exact q
   by_cases hq:ts=r.params
   ·exact sf (hF (Ze hq)) (by rw [hL,Ze ((ht _).2 hq)];rfl)
   ·exact sf (hF (Z8 hq)) (by rw [hL,Z8 (fun q=>hq ((ht _).1 q))];rfl)
 by_cases h10:s.op=10
 ·rw [Ze (.inr h10),Tx] at hL
  cases ha:XA n.routines s.num with
  | none=>exact sf (by unfold XG;rw [Z8 h0,Z8 h1,Z8 h5,Z8 om,Z8 h6,Z8 h9,Ze h10,ha]) (by rw [hL,ha];rfl)
  | some r=>
   rw [ha] at hL hlent
   simp only [Bv,Option.getD_some] at hL hlent
   rw [Kh,Z8 h9] at hL
   have hF:∀{X:Option Int},(if r.params.length≠0/\0<=Kw n.decls r.params r.result/\ts=r.params.take (r.params.length-1) then some (Kw n.decls r.params r.result) else none)=X->XG n s.op s.num ts=X:=fun q=>by
    unfold XG;rw [Z8 h0,Z8 h1,Z8 h5,Z8 om,Z8 h6,Z8 h9,Ze h10,ha];exact q
   by_cases hp:r.params.length=0
   ·exact sf (hF (Z8 fun q=>q.1 hp)) (by rw [hL,Ze (.inl hp)];rfl)
   by_cases hq:ts=r.params.take (r.params.length-1)
   ·rw [Z8 (fun z=>z.elim hp fun z=>z.elim (fun z=>hlent ⟨h10,z⟩) fun z=>z ((ht _).2 hq))] at hL
    by_cases har:0<=Kw n.decls r.params r.result
    ·exact sf (hF (Ze ⟨hp,har,hq⟩)) hL
    ·refine sf (hF (Z8 fun q=>har q.2.1)) ?_
     have key:∀(l:List Zf) (i:Nat) (f t:Int),¬0<=K7 f t l i->K7 f t l i=-1:=by
      intro l
      induction l with
      | nil=>intro i f t _;rfl
      | cons d r ih=>
       intro i f t hn
       rw [K7] at hn ⊢
       split
       ·rename_i hh;rw [Ze hh] at hn;omega
       ·rename_i hh;rw [Z8 hh] at hn;exact ih _ _ _ hn
     exact hL.trans (key _ _ _ _ har)
   ·exact sf (hF (Z8 fun q=>hq q.2.2)) (by rw [hL,Ze (.inr (.inr fun q=>hq ((ht _).1 q)))];rfl)
 rw [Z8 om] at hL
 by_cases h11:s.op=11
 ·rw [Ze h11] at hL
  have hn0:=hnumf om
  have hF:∀{X:Option Int},Dq n s.num ts=X->XG n s.op s.num ts=X:=fun q=>by
   unfold XG;rw [Z8 h0,Z8 h1,Z8 h5,Ze h11];exact q
  rcases he:s.args with _|⟨a,_|⟨b,_|⟨c,r⟩⟩⟩
  ·rw [he] at hts hL;rw [Wj] at hts;cases hts;exact sf (hF rfl) hL
  ·rw [he] at hl hL
   exact sf (hF (EE (by simp at hl;omega))) hL
  ·rw [he] at hts hL
   rw [Wj] at hts
   cases ha:XA us a with
   | none=>rw [ha] at hts;cases hts
   | some t=>
    rw [ha,Wj] at hts
    cases hb:XA us b with
    | none=>rw [hb] at hts;cases hts
    | some t2=>
     rw [hb,Wj] at hts;cases hts
     rw [Qx,ha] at hL
     simp only at hL
     by_cases hA:XX n.decls t=true
     ·rw [Ze hA] at hL
      have hA2:=hA
      simp only [XX,W7,decide_eq_true_eq] at hA2
      cases hd:n.decls[(t-1).toNat]? with
      | none=>rw [hd] at hA2;simp at hA2
      | some d=>
       rw [hd] at hL
       simp only at hL
       have hD:VL n.decls t=d:=by rw [VL,Ze hA,hd];rfl
       have h2:=LQ (us:=us) (args:=[b]) (ts:=[t2]) (by rw [Wj,hb,Wj]) [d.frm]
       by_cases hq:t2=d.frm
       ·exact sf (hF (Ze ⟨hA,by rw [hD];exact hq,hn0⟩)) (by rw [hL,Ze (h2.2 (by rw [hq])),hD];rfl)
       ·exact sf (hF (Z8 fun q=>hq (by rw [hD] at q;exact q.2.1))) (by rw [hL,Z8 (fun q=>hq (by simpa using h2.1 q))];rfl)
     ·exact sf (hF (Z8 fun q=>hA q.1)) (by rw [hL,Z8 hA];rfl)
  ·rw [he] at hl hL
   exact sf (hF (EE (by simp at hl;omega))) hL
 rw [Z8 h11,Z8 om] at hL
 exact sf (X:=none) (by unfold XG;rw [Z8 h0,Z8 h1,Z8 h5,Z8 h11,Z8 h6,Z8 h9,Z8 h10]) hL
end Go.Abs
namespace Go.Abs
theorem Pa:∀(n:Nat) (f:Int) (k:Nat) (x:Int),(Vw f n)[k]? = some x->x=f+k/\k<n
 | 0,f,k,x,h=>by simp [Vw] at h
 | n+1,f,k,x,h=>by
  rw [Vw] at h
  cases k with
  | zero=>simp at h;subst h;exact ⟨by omega,by omega⟩
  | succ k=>have:=Pa n (f+1) k x (by simpa using h);exact ⟨by omega,by omega⟩
theorem MS {ds:List Zf} (hd:WI ds) {t:Int} {k:Nat} {x:Int} (h:(ZX ds t)[k]? = some x):0<=x/\x<=100:=by
 rw [ZX] at h
 split at h
 ·rename_i ht
  obtain ⟨d,hd1⟩:=Kd (xs:=ds) (j:=(t-1).toNat) om
  rw [hd1] at h
  have:=Pa _ _ _ _ h
  have h3:=hd.cons_at hd1
  have h4:=(hd.take (t-1).toNat).sum
  simp only [Bv,Option.getD_some] at this
  omega
 ·simp at h
end Go.Abs
namespace Go.Abs
section
variable {S:Option Int} {c:Prop} [Decidable c] {v:Int} {b:Bool}
theorem Bc (h:S=if c then some v else none) (hb:b=true↔c):b=S.isSome:=by rw [h,Z83,Xs,hb,decide_eq_true_iff]
theorem Bd (h:S=if c then some v else none):∀x,S=some x->v=x:=by
 intro x hx;rw [h] at hx;split at hx
 ·exact Tz hx
 ·cases hx
theorem Ee (h:S=none):false=S.isSome:=by rw [h];rfl
theorem Ef (h:S=none):∀x,S=some x->v=x:=by intro x hx;rw [h] at hx;cases hx
end
section
variable {n:Zk} {op num:Int} {ts:LI}
theorem sf0 (h:op=0):XG n op num ts=if (-999<=num/\num<=999)/\ts.length=0 then some 0 else none:=by unfold XG;rw [Ze h]
theorem sf1 (h:op=1∨op=2∨op=3∨op=4):XG n op num ts=if num=0/\ts=[0,0] then some 0 else none:=by unfold XG;rw [Z8 om,Ze h]
theorem sf5 (h:op=5):XG n op num ts=if num=0/\ts=[0] then some 0 else none:=by unfold XG;rw [Z8 om,Z8 om,Ze h]
theorem Rb (h:op=11):XG n op num ts=Dq n num ts:=by unfold XG;rw [Z8 om,Z8 om,Z8 om,Ze h]
theorem Zc1 (h:op=11) (hl:(ts.length:Int)≠2):XG n op num ts=none:=(Rb h).trans (EE om)
theorem Lm (h:op=11) {a b:Int} (hl:¬(ts.length:Int)≠2) (ha:ts[0]? = some a) (hb:ts[1]? = some b) :
  XG n op num ts=if XX n.decls a=true/\b=(VL n.decls a).frm/\num=0 then some (VL n.decls a).to_ else none:=by
 rw [Rb h]
 match ts,hl,ha,hb with
 | [x,y],_,ha,hb=>simp at ha hb;subst ha;subst hb;rfl
 | [],hl,_,_=>simp at hl
 | [_],hl,_,_=>simp at hl
 | _::_::_::_,hl,_,_=>simp at hl;omega
theorem Zc0 (h:op=11) {a:Int} (hl:¬(ts.length:Int)≠2) (ha:ts[0]? = some a) (hn:¬XX n.decls a=true):XG n op num ts=none:=by
 obtain ⟨b,hb⟩:=Kd (xs:=ts) (j:=1) om
 rw [Lm h hl ha hb,Z8 fun q=>hn q.1]
theorem sf6 (h:op=6):XG n op num ts=if 0<=Wf n.decls num/\ts=ZV n.decls num then some (Wf n.decls num) else none:=by
 unfold XG;rw [Z8 om,Z8 om,Z8 om,Z8 om,Ze h]
theorem Zc2 (h:op=9∨op=10) (hr:num<0∨num>=(((n.routines.map XU).length:Nat):Int)):XG n op num ts=none:=by
 have ha:XA n.routines num=none:=K8 (by simp at hr;omega)
 unfold XG
 rw [Z8 om,Z8 om,Z8 om,Z8 om,Z8 om]
 rcases h with h|h
 ·rw [Ze h,ha]
 ·rw [Z8 om,Ze h,ha]
theorem sf9 (h:op=9) {x:V9} (hr:¬(num<0∨num>=(((n.routines.map XU).length:Nat):Int))) (hx:(n.routines.map XU)[num.toNat]? = some x) :
  XG n op num ts=if ts=x.pms then some x.res else none:=by
 obtain ⟨r,h1,rfl⟩:=Gr hx
 have ha:XA n.routines num=some r:=Q0 (by simp at hr;omega) h1
 unfold XG
 rw [Z8 om,Z8 om,Z8 om,Z8 om,Z8 om,Ze h,ha];rfl
theorem Zbz (h:op=10) {x:V9} (hr:¬(num<0∨num>=(((n.routines.map XU).length:Nat):Int))) (hx:(n.routines.map XU)[num.toNat]? = some x) (hp:(x.pms.length:Int)-1<0) :
  XG n op num ts=none:=by
 obtain ⟨r,h1,rfl⟩:=Gr hx
 have ha:XA n.routines num=some r:=Q0 (by simp at hr;omega) h1
 have hp':r.params.length=0:=by simp only [XU] at hp;omega
 unfold XG
 rw [Z8 om,Z8 om,Z8 om,Z8 om,Z8 om,Z8 om,Ze h,ha]
 exact Z8 fun q=>q.1 hp'
theorem Zby (h:op=10) {x:V9} {l:Int} (hr:¬(num<0∨num>=(((n.routines.map XU).length:Nat):Int))) (hx:(n.routines.map XU)[num.toNat]? = some x) (hp:¬(x.pms.length:Int)-1<0)
  (hl:x.pms[((x.pms.length:Int)-1).toNat]? = some l) :
  XG n op num ts=if 0<=Ud n.decls l x.res/\ts=x.pms.take ((x.pms.length:Int)-1).toNat then some (Ud n.decls l x.res) else none:=by
 obtain ⟨r,h1,rfl⟩:=Gr hx
 have ha:XA n.routines num=some r:=Q0 (by simp at hr;omega) h1
 simp only [XU] at hp hl ⊢
 have hq:((r.params.length:Int)-1).toNat=r.params.length-1:=by omega
 have ht:r.params.take ((r.params.length:Int)-1).toNat=r.params.take (r.params.length-1):=Ym (fun k=>r.params.take k) hq
 have hl':r.params[r.params.length-1]? = some l:=by rw [<-hl];exact Ym (fun k=>r.params[k]?) hq.symm
 have hlast:Kw n.decls r.params r.result=Ud n.decls l r.result:=by rw [Kw,NQ hl']
 unfold XG
 rw [Z8 om,Z8 om,Z8 om,Z8 om,Z8 om,Z8 om,Ze h,ha]
 simp only [hlast]
 by_cases hc:0<=Ud n.decls l r.result/\ts=r.params.take (r.params.length-1)
 ·rw [Ze ⟨by omega,hc⟩]
  exact (Ze ⟨hc.1,hc.2.trans ht.symm⟩).symm
 ·rw [Z8 fun q=>hc q.2]
  exact (Z8 (fun q=>hc ⟨q.1,q.2.trans ht⟩)).symm
theorem sfd (h0:¬op=0) (h1:¬(op=1∨op=2∨op=3∨op=4)) (h5:¬op=5) (h11:¬op=11) (h6:¬op=6) (h9:¬(op=9∨op=10)):XG n op num ts=none:=by
 unfold XG;rw [Z8 h0,Z8 h1,Z8 h5,Z8 h11,Z8 h6,Z8 om,Z8 om]
end
end Go.Abs
end
namespace Go.Abs
mutual
def Z5.rng:Z5->Prop
 | .mk _ num _ _ kids=>(-9223372036854775808<=num/\num<=9223372036854775807)/\Qy kids
def Z9.rng:Z9->Prop
 | .mk steps _=>Uv steps
def Uv:List Z5->Prop
 | []=>True
 | s::r=>s.rng/\Uv r
def Qy:List Z9->Prop
 | []=>True
 | b::r=>b.rng/\Qy r
end
theorem Z5.rng_eq (s:Z5):s.rng=((-9223372036854775808<=s.num/\s.num<=9223372036854775807)/\Qy s.kids):=by cases s;rw [Z5.rng];rfl
theorem Z9.rng_eq (b:Z9):b.rng=Uv b.steps:=by cases b;rw [Z9.rng];rfl
theorem Lz:∀{xs:List Z5} {k:Nat} {s:Z5},Uv xs->xs[k]? = some s->s.rng
 | [],k,s,_,h=>by simp at h
 | x::r,0,s,hr,h=>by rw [Uv] at hr;simp at h;subst h;exact hr.1
 | x::r,k+1,s,hr,h=>by rw [Uv] at hr;exact Lz (k:=k) hr.2 (by simpa using h)
theorem EK:∀{xs:List Z9} {k:Nat} {b:Z9},Qy xs->xs[k]? = some b->b.rng
 | [],k,s,_,h=>by simp at h
 | x::r,0,s,hr,h=>by rw [Qy] at hr;simp at h;subst h;exact hr.1
 | x::r,k+1,s,hr,h=>by rw [Qy] at hr;exact EK (k:=k) hr.2 (by simpa using h)
theorem LR {us:LI}:∀{args:LI},Wj us args=none->∀tys,Wc us args tys=false
 | [],h,tys=>by rw [Wj] at h;cases h
 | a::r,h,tys=>by
  cases tys with
  | nil=>simp [Wc,T2]
  | cons t ts=>
   rw [Wj] at h
   rw [Wc,T2]
   cases ha:XA us a with
   | none=>simp
   | some u=>
    rw [ha] at h
    cases hr:Wj us r with
    | none=>
     have:=LR hr ts
     rw [Wc] at this
     by_cases he:u=t
     ·subst he;simpa using this
     ·rw [Z8 (fun q=>he (Tz q))]
    | some tr=>rw [hr] at h;cases h
theorem Ze4 {n:Zk} {us:LI} {s:Z5} (h:Wj us s.args=none):Yc n us s=-1:=by
 have ht:=LR h
 rw [An]
 split
 ·rfl
 split
 ·rw [Z8];rintro ⟨q,_⟩
  have:s.args=[]:=List.length_eq_zero_iff.1 q
  rw [this,Wj] at h;cases h
 split
 ·rw [Z8 (by rw [ht];simp)]
 split
 ·rw [Z8 (by rw [ht];simp)]
 split
 ·rw [Z8 (by rw [ht];simp)]
 split
 ·rw [Z8 (by rw [ht];simp)]
 split
 ·rw [Z8 (by rw [ht];simp)]
 split
 ·rw [Tx]
  cases XA n.routines s.num with
  | none=>rfl
  | some r=>
   simp only
   rw [Kh]
   split
   ·rw [Z8 (by rw [ht];simp)]
   ·rw [Ze (.inr (.inr (by rw [ht];simp)))]
 split
 ·match hA:s.args with
  | []=>rfl
  | [_]=>rfl
  | [a,b]=>
   rw [Qx]
   rw [hA,Wj] at h
   cases ha:XA us a with
   | none=>rfl
   | some t=>
    rw [ha] at h
    simp only at h ⊢
    split
    ·cases n.decls[(t-1).toNat]? with
     | none=>rfl
     | some d=>
      simp only
      rw [Z8]
      cases hb:Wj us [b] with
      | none=>rw [LR hb];simp
      | some tr=>rw [hb] at h;cases h
    ·rfl
  | _::_::_::_=>rfl
 split
 ·match hA:s.args with
  | []=>rfl
  | [a]=>
   rw [Qg]
   rw [hA,Wj] at h
   cases ha:XA us a with
   | none=>rfl
   | some t=>rw [ha,Wj] at h;cases h
  | _::_::_=>rfl
 ·rfl
theorem Mg {us:LI} {a:Int}:∀{xs:LI} {k:Nat},xs[k]? = some a->XA us a=none->Wj us xs=none
 | [],k,h,_=>by simp at h
 | x::r,0,h,ha=>by simp at h;subst h;rw [Wj,ha]
 | x::r,k+1,h,ha=>by
  have:=Mg (xs:=r) (k:=k) (by simpa using h) ha
  rw [Wj]
  cases XA us x with
  | none=>rfl
  | some t=>simp only [this]
theorem Z8k {n:Zk} {us:LI} {ks:List Z9} {ms:List LI} (h:0<ks.length) (t:Int) :
  WY n us (ks.drop 0) (ms.drop 0) (decide (0=0)) t=WY n us ks ms true 0:=by
 cases ks with
 | nil=>simp at h
 | cons b bs=>
  cases ms with
  | nil=>rw [K1,K1,WY,WY]
  | cons m r=>
   simp only [K1,decide_true]
   rw [WY,WY];simp
theorem MB {b:Z9}:∀{ks:List Z9} {k:Nat},ks[k]? = some b->b.sz<=X9 ks
 | [],k,h=>by simp at h
 | x::r,0,h=>by simp at h;subst h;rw [X9];omega
 | x::r,k+1,h=>by have:=MB (ks:=r) (k:=k) (by simpa using h);rw [X9];omega
theorem En (us m:LI):[us,m].flatten=us++m:=by simp
theorem Nx {xs:LI} {i:Int} (h:i.toNat<xs.length):xs[i.toNat]? = some (gI xs i):=by rw [gI,Kn h];rfl
theorem Fl {xs:LI} (h:0<xs.length):xs[0]? = some (gI xs 0):=Nx (i:=0) h
def Uj (n:Zk) (num:Int):V9:=((n.routines.map XU)[num.toNat]?).getD ⟨[],[],0⟩
theorem Rd {n:Zk} {i:Int} (h:i.toNat<(n.routines.map XU).length):(n.routines.map XU)[i.toNat]? = some (Uj n i):=by rw [Uj,Kn h];rfl
theorem DY {us m:LI} (h1:∀t∈us,0<=t) (h2:∀t∈m,0<=t):∀t∈us++m,0<=t:=fun t h=>(Xa.1 h).elim (h1 t) (h2 t)
theorem AH {us:LI} {args ts:LI} {k:Nat} (h:Wj us (args.take k)=some ts) (hk:args.length<=k):Wj us args=some ts:=by
 rw [Vq hk] at h;exact h
theorem Z07 {us:LI} {args ts:LI} {k:Nat} {a t:Int} (h:Wj us (args.take k)=some ts) (ha:args[k]? = some a) (ht:XA us a=some t):Wj us (args.take (k+1))=some (ts++[t]):=by
 rw [V7 ha];exact Mi h ht
theorem Pg {ts:LI} (h:(ts.length:Int)=1):ts=[gI ts 0]:=by
 match ts,h with
 | [a],_=>rfl
section
variable {n:Zk} {us ts:LI} {s:Z5}
theorem Ae {p1 p2 p3 p4 p5:Prop}:(p1/\(p2∨(p3∨(p4∨p5))))↔(p1/\(((p2∨p3)∨p4)∨p5)):=by simp only [or_assoc]
def EQ (n:Zk) (s:Z5) (ts:LI):Int:=match ts with
  | [t]=>if t≠0/\s.num=0/\s.kids.length=0/\¬((s.op=16∨s.op=17)/\XX n.decls t=true) then 0 else -1
  | _=>-1
theorem Bi:KY n us s ts =
 if YC s.op=true then EQ n s ts
 else if s.op=7 then (if ts=[0]/\s.num=0 then Tu n us s.op s.num s.kids else -1)
 else if s.op=8 then (if ts=[s.num] then Tu n us s.op s.num s.kids else -1)
 else if 0<s.kids.length∨(s.op=10/\0<(((XA n.routines s.num).map (·.lent)).getD []).length) then -1
 else (XG n s.op s.num ts).getD (-1):=by unfold KY EQ;rfl
theorem MN (h:(ts.length:Int)=1):EQ n s ts=if gI ts 0≠0/\s.num=0/\s.kids.length=0/\¬((s.op=16∨s.op=17)/\XX n.decls (gI ts 0)=true) then 0 else -1:=by
 match ts,h with
 | [a],_=>rfl
theorem Z1o (h:(ts.length:Int)≠1):EQ n s ts=-1:=by
 match ts,h with
 | [],_=>rfl
 | [a],h=>exact absurd rfl h
 | _::_::_,_=>rfl
theorem Zdk (hS:Yc n us s=KY n us s ts) (hc:YC s.op=true)
  (h:((((ts.length:Int)=1/\gI ts 0≠0)/\s.num=0)/\(s.kids.length:Int)=0)/\(s.op=16∨s.op=17)) :
  (!XX n.decls (gI ts 0))=decide (0<=Yc n us s):=by
 obtain ⟨⟨⟨⟨h1,h2⟩,h3⟩,h4⟩,h5⟩:=h
 have h4':s.kids.length=0:=by omega
 rw [hS,Bi,Ze hc,MN h1]
 cases hA:XX n.decls (gI ts 0)
 ·rw [Ze ⟨h2,h3,h4',by simp⟩];rfl
 ·rw [Z8 (fun q=>q.2.2.2 ⟨h5,rfl⟩)];rfl
theorem Zdl (hS:Yc n us s=KY n us s ts) (hc:YC s.op=true)
  (h:¬(((((ts.length:Int)=1/\gI ts 0≠0)/\s.num=0)/\(s.kids.length:Int)=0)/\(s.op=16∨s.op=17))) :
  ((((((ts.length:Int)==1)&&(gI ts 0 != 0))&&(s.num==0))&&((s.kids.length:Int)==0)))=decide (0<=Yc n us s):=by
 rw [hS,Bi,Ze hc]
 by_cases h1:(ts.length:Int)=1
 ·rw [MN h1]
  by_cases h2:(gI ts 0≠0/\s.num=0)/\(s.kids.length:Int)=0
  ·obtain ⟨⟨h2,h3⟩,h4⟩:=h2
   have h4':s.kids.length=0:=by omega
   rw [Ze ⟨h2,h3,h4',fun q=>h ⟨⟨⟨⟨h1,h2⟩,h3⟩,h4⟩,q.1⟩⟩,Zp.2 h1,Yl.2 h2,Zp.2 h3,Zp.2 h4];rfl
  ·rw [Z8 (fun q=>h2 ⟨⟨q.1,q.2.1⟩,by have:=q.2.2.1;omega⟩)]
   show _=false
   rw [J5];intro q
   obtain ⟨⟨⟨_,q1⟩,q2⟩,q3⟩:=(YH (YH (YH Zp Yl) Zp) Zp).1 q
   exact h2 ⟨⟨q1,q2⟩,q3⟩
 ·rw [Z1o h1]
  show _=false
  rw [J5];intro q
  obtain ⟨⟨⟨q1,_⟩,_⟩,_⟩:=(YH (YH (YH Zp Yl) Zp) Zp).1 q
  exact h1 q1
theorem Zdg (hS:Yc n us s=KY n us s ts) (hc:¬YC s.op=true) (h7:s.op=7)
  (h:(((ts.length:Int)≠1∨gI ts 0≠0)∨s.num≠0)∨(s.kids.length:Int)≠2):Yc n us s=-1:=by
 rw [hS,Bi,Z8 hc,Ze h7]
 split
 ·rename_i q
  obtain ⟨q1,q2⟩:=q
  rw [q1] at h
  rw [Tu,Ze]
  right
  rw [Xn,Ze h7]
  have:gI [0] 0=0:=rfl
  simp [this] at h
  show s.kids.length≠2
  omega
 ·rfl
theorem Zdh (hS:Yc n us s=KY n us s ts) (hc:¬YC s.op=true) (h7:s.op=7)
  (h:¬((((ts.length:Int)≠1∨gI ts 0≠0)∨s.num≠0)∨(s.kids.length:Int)≠2)):Yc n us s=WY n us s.kids (List.replicate 2 []) true 0:=by
 have h1:(ts.length:Int)=1:=Vp.1 fun q=>h (.inl (.inl (.inl q)))
 have h2:gI ts 0=0:=Vp.1 fun q=>h (.inl (.inl (.inr q)))
 have h3:s.num=0:=Vp.1 fun q=>h (.inl (.inr q))
 have h4:(s.kids.length:Int)=2:=Vp.1 fun q=>h (.inr q)
 rw [hS,Bi,Z8 hc,Ze h7,Ze ⟨by rw [Pg h1,h2],h3⟩,Tu,Z8]
 ·rw [Xn,Ze h7];rfl
 ·rw [Xn,Ze h7];simp;omega
theorem Zdi (hS:Yc n us s=KY n us s ts) (hc:¬YC s.op=true) (h7:¬s.op=7) (h8:s.op=8)
  (h:(ts.length:Int)≠1∨(gI ts 0≠s.num∨(((((ZX n.decls s.num).map (ZV n.decls)).length:Nat):Int)=0∨(s.kids.length:Int)≠((((ZX n.decls s.num).map (ZV n.decls)).length:Nat):Int)))):Yc n us s=-1:=by
 rw [hS,Bi,Z8 hc,Z8 h7,Ze h8]
 split
 ·rename_i q
  have hg:gI ts 0=s.num:=by rw [q];rfl
  have hl:(ts.length:Int)=1:=by rw [q];rfl
  rw [Tu,Ze]
  rw [Xn,Z8 h7]
  omega
 ·rfl
theorem Zdj (hS:Yc n us s=KY n us s ts) (hc:¬YC s.op=true) (h7:¬s.op=7) (h8:s.op=8)
  (h:¬((ts.length:Int)≠1∨(gI ts 0≠s.num∨(((((ZX n.decls s.num).map (ZV n.decls)).length:Nat):Int)=0∨(s.kids.length:Int)≠((((ZX n.decls s.num).map (ZV n.decls)).length:Nat):Int))))) :
  Yc n us s=WY n us s.kids ((ZX n.decls s.num).map (ZV n.decls)) true 0:=by
 have h1:(ts.length:Int)=1:=Vp.1 fun q=>h (.inl q)
 have h2:gI ts 0=s.num:=Vp.1 fun q=>h (.inr (.inl q))
 rw [hS,Bi,Z8 hc,Z8 h7,Ze h8,Ze (by rw [Pg h1,h2]),Tu,Z8]
 ·rw [Xn,Z8 h7]
 ·rw [Xn,Z8 h7];omega
theorem Z98 {n:Zk} {num:Int}:(((XA n.routines num).map (·.lent)).getD []).length=if 0<=num/\num<(((n.routines.map XU).length:Nat):Int) then (Uj n num).lnt.length else 0:=by
 split
 ·rename_i h
  rw [At] at h
  obtain ⟨r,hr⟩:=Kd (xs:=n.routines) (j:=num.toNat) om
  rw [Q0 om hr,Uj,T6,hr];rfl
 ·rename_i h
  rw [At] at h
  rw [K8 om];rfl
theorem RI:(0<s.kids.length∨(s.op=10/\0<(((XA n.routines s.num).map (·.lent)).getD []).length)) ↔
  ((s.kids.length:Int)>0∨(s.op=10/\(s.num>=0/\(s.num<(((n.routines.map XU).length:Nat):Int)/\((((Uj n s.num).lnt).length:Nat):Int)>0)))):=by
 rw [Z98]
 by_cases hq:0<=s.num/\s.num<(((n.routines.map XU).length:Nat):Int)
 ·rw [Ze hq];omega
 ·rw [Z8 hq];omega
theorem stB (hS:Yc n us s=KY n us s ts) (hc:¬YC s.op=true) (h7:¬s.op=7) (h8:¬s.op=8)
  (h:((s.kids.length:Int)>0∨(s.op=10/\(s.num>=0/\(s.num<(((n.routines.map XU).length:Nat):Int)/\((((Uj n s.num).lnt).length:Nat):Int)>0))))):Yc n us s=-1:=by
 rw [hS,Bi,Z8 hc,Z8 h7,Z8 h8,Ze (RI.2 h)]
theorem stS (hS:Yc n us s=KY n us s ts) (hc:¬YC s.op=true) (h7:¬s.op=7) (h8:¬s.op=8)
  (h:¬((s.kids.length:Int)>0∨(s.op=10/\(s.num>=0/\(s.num<(((n.routines.map XU).length:Nat):Int)/\((((Uj n s.num).lnt).length:Nat):Int)>0))))):Yc n us s=(XG n s.op s.num ts).getD (-1):=by
 rw [hS,Bi,Z8 hc,Z8 h7,Z8 h8,Z8 (fun q=>h (RI.1 q))]
theorem Zdm (hty:Kr n) (h:Yc n us s=(XG n s.op s.num ts).getD (-1)):(XG n s.op s.num ts).isSome=decide (0<=Yc n us s):=by
 rw [h]
 cases hs:XG n s.op s.num ts with
 | none=>rfl
 | some x=>have:=Zc5 hty hs;simp [this]
theorem Zdn {t:Int} (h:Yc n us s=(XG n s.op s.num ts).getD (-1)) (hp:∀x,XG n s.op s.num ts=some x->t=x):¬YC s.op=true->0<=Yc n us s->t=Yc n us s:=by
 intro _ h0
 rw [h] at h0 ⊢
 cases hs:XG n s.op s.num ts with
 | none=>rw [hs] at h0;exact absurd h0 (by decide)
 | some x=>exact hp x hs
end
theorem Ze3 {n:Zk} {us:LI} {s:Z5} (h:0<=Yc n us s):(0<=s.op/\s.op<=11)∨(14<=s.op/\s.op<=17):=by
 rw [An] at h
 by_cases hq:(0<=s.op/\s.op<=11)∨(14<=s.op/\s.op<=17)
 ·exact hq
 ·exfalso
  split at h
  ·omega
  rw [Z8 om,Z8 om,Z8 om,Z8 om,Z8 om,Z8 om,Z8 om,Z8 om,Z8 om] at h
  omega
theorem EY {n:Zk} {us:LI} {s:Z5} (h:0<=Yc n us s):XM s.op=!YC s.op:=by
 have:=Ze3 h
 rw [XM,YC,Xs];simp;omega
theorem Ze7 {n:Zk} {xs:List Z5} {vs:LI} {k:Nat} {s:Z5} {t:Int} {r:Option LI} (hs:xs[k]? = some s) (h:0<=Yc n vs s) (ht:¬YC s.op=true->0<=Yc n vs s->t=Yc n vs s)
  (hr:XH n (xs.drop k) vs=r):XH n (xs.drop (k+1)) (if YC s.op=true then vs else vs++[t])=r:=by
 rw [Y7 hs,XH,Z8 om] at hr
 rw [<-hr,EY h]
 by_cases hc:YC s.op=true
 ·rw [Ze hc,hc];rfl
 ·rw [Z8 hc,Ze (by simpa using hc),ht hc h]
theorem Ze8 {n:Zk} {xs:List Z5} {vs:LI} {k:Nat} {s:Z5} {r:Option LI} (hs:xs[k]? = some s) (h:¬0<=Yc n vs s) (hr:XH n (xs.drop k) vs=r):r=none:=by
 rw [Y7 hs,XH,Ze om] at hr;exact hr.symm
theorem Z9g {c:Prop} [Decidable c] {vs:LI} {t:Int} (h:∀x∈vs,0<=x) (ht:¬c->0<=t):∀x∈(if c then vs else vs++[t]),0<=x:=by
 split
 ·exact h
 ·rename_i hc
  exact DY h (fun x hx=>by rw [XC.1 hx];exact ht hc)
theorem Me {m:Nat} {xs:LI} (h:Wi m xs=true):∀x∈xs,0<=x/\x<=m:=by
 rw [Wi,Jm] at h
 exact fun x hx=>of_decide_eq_true (h x hx)
theorem P5 {n:Zk} (h:U1 n=true):Kr n:=by
 simp only [U1,QZ,W7,decide_eq_true_eq] at h
 obtain ⟨h1,⟨h2,h3,h4,h5⟩,h6⟩:=h
 have hs:∀r∈n.routines,Wi n.decls.length r.params=true/\0<=r.result:=fun r hr=>by
  have:=Lp h4 (Uu r) (Wd.2 ⟨r,hr,rfl⟩)
  simp only [KR,W7,decide_eq_true_eq] at this
  exact ⟨this.2.1,this.2.2.1⟩
 simp only [WT,W7,decide_eq_true_eq] at h2
 obtain ⟨h2a,h2b⟩:=h2
 rw [Hy] at h2b
 have key:∀(i:Nat) (d:Zf),n.decls[i]? = some d->UC n.decls d i=true:=fun i d hi=>by
  have:=h2b i (Xp.1 hi).1
  rwa [Vc,Dx hi] at this
 refine ⟨fun r hr=>(hs r hr).2,fun r hr p hp=>(Me (hs r hr).1 p hp).1,fun d hd h0=>?_,fun c f hf=>?_⟩
 ·obtain ⟨i,hi⟩:=List.mem_iff_getElem?.1 hd
  have:=key i d hi
  rw [UC,Z8 om] at this
  split at this
  ·cases this
  ·simp only [W7,decide_eq_true_eq] at this;omega
 ·by_cases hc:Wf n.decls c<1
  ·rw [(ES hc).1] at hf;cases hf
  ·obtain ⟨k,d,x,q1,q2,q3,q4,q5⟩:=Hu hc
   rw [q5] at hf
   have:=key k d q1
   have hp:0<d.cons.length:=by have:=(Xp.1 q3).1;omega
   rw [UC,Ze hp] at this
   split at this
   ·have:=MT.1 this x (Y2 q3)
    simp only [Ja,W7] at this
    exact (Me this.2 f hf).1
   ·cases this
end Go.Abs
section
namespace Go.Abs
structure Xl where
 mat:Int
 fst:Int
 fds:LI
 chg:Bool
abbrev OG (a:Xl):List AV:=[.i a.mat,.i a.fst,Z4 a.fds,.b a.chg]
abbrev M5 (a:Xl):AV:=.agg (OG a)
def WK (xs:List Xl):List AV:=xs.map M5
abbrev Xc (xs:List Xl):AV:=.sl (WK xs) none
abbrev IQ (xs:List Xl) (v:Value):AV:=.sl (WK xs) (some v)
theorem Z32 {xs:List Xl} {j:Nat} {x:Xl} (h:xs[j]? = some x):(WK xs)[j]? = some (M5 x):=by simp [WK,h]
@[simp] theorem Z33 (xs:List Xl):(WK xs).length=xs.length:=by simp [WK]
theorem N1 (xs ys:List Xl):WK (xs++ys)=WK xs++WK ys:=by simp [WK]
theorem Cp (xs:List Xl):∀y∈WK xs,y.leaves.length=4:=by intro y hy;simp only [WK,Wd] at hy;obtain ⟨x,_,rfl⟩:=hy;rfl
theorem HB (xs:List Xl):(Zo (WK xs)).all AV.one=true:=Je fun y hy=>by simp only [WK,Wd] at hy;obtain ⟨x,_,rfl⟩:=hy;rfl
theorem Z34 {xs:List Xl} (h:WK xs=[]):xs=[]:=by cases xs with|nil=>rfl|cons x r=>cases h
abbrev V0:=Zs
def VX:LI->Int->LI
 | [],_=>[]
 | t::r,p=>if t≠0 then p::VX r (p+1) else VX r (p+1)
theorem Z6h {xs:LI} {k:Nat} {t p:Int} {acc r:LI} (h:xs[k]? = some t) (ha:acc++VX (xs.drop k) (p+k)=r) :
  (if t≠0 then acc++[p+k] else acc)++VX (xs.drop (k+1)) (p+((k+1:Nat):Int))=r:=by
 rw [Y7 h,VX] at ha
 rw [show p+((k+1:Nat):Int)=p+k+1 by omega]
 split
 ·rename_i q;rw [Ze q] at ha;rw [TH];exact ha
 ·rename_i q;rw [Z8 q] at ha;exact ha
theorem Z6g {xs:LI} {k:Nat} {p:Int} {acc r:LI} (h:xs.length<=k) (ha:acc++VX (xs.drop k) (p+k)=r):acc=r:=by
 rw [Xi h,VX,JM] at ha;exact ha
theorem Ih:∀(xs:LI) (p:Int) (own:LI),T7 own p xs=(VX xs p).foldl (fun o f=>o.set f.toNat (gI o f+1)) own
 | [],_,_=>rfl
 | t::r,p,own=>by
  rw [T7,VX]
  split
  ·rw [List.foldl_cons];exact Ih r _ _
  ·exact Ih r _ _
theorem Ii:∀{xs:LI} {p f:Int},f∈VX xs p->p<=f/\f<p+xs.length
 | [],_,_,h=>by simp [VX] at h
 | t::r,p,f,h=>by
  rw [VX] at h
  split at h
  ·rcases YD.1 h with rfl|h
   ·simp only [YR];omega
   ·have:=Ii h;simp only [YR];omega
  ·have:=Ii h;simp only [YR];omega
theorem NV:∀(xs:LI) (p:Int),(VX xs p).length<=xs.length
 | [],_=>by simp [VX]
 | t::r,p=>by
  have:=NV r (p+1)
  rw [VX];split<;>simp<;>omega
def Us:List Xl->Int->Option Xl
 | [],_=>none
 | a::r,v=>match Us r v with
  | some x=>some x
  | none=>if a.mat=v then some a else none
theorem Pf {a:Xl}:∀{as1:List Xl} {v:Int},Us (as1++[a]) v=if a.mat=v then some a else Us as1 v
 | [],v=>rfl
 | x::r,v=>by
  rw [Qt,Us,Pf]
  by_cases h:a.mat=v
  ·rw [Ze h,Ze h]
  ·rw [Z8 h,Z8 h];rfl
theorem E3 {v:Int}:∀{as1:List Xl},(∀a∈as1,a.mat≠v)->Us as1 v=none
 | [],_=>rfl
 | x::r,h=>by rw [Us,E3 (fun a ha=>h a (XB _ ha))];exact Z8 (h x (Xh ..))
theorem Pe {v:Int} {a:Xl}:∀{as1:List Xl},Us as1 v=some a->a∈as1/\a.mat=v
 | [],h=>by cases h
 | x::r,h=>by
  rw [Us] at h
  cases hr:Us r v with
  | some y=>rw [hr] at h;cases h;have:=Pe hr;exact ⟨XB _ this.1,this.2⟩
  | none=>
   rw [hr] at h
   simp only at h
   split at h
   ·cases h;exact ⟨Xh ..,by assumption⟩
   ·cases h
structure WU (ds:List Zf) (L:Zs) (as1:List Xl):Prop where
 rng:∀a∈as1,0<=a.mat/\a.mat<a.fst/\a.fst+a.fds.length<=L.vars.length
 par:∀a∈as1,∀v:Int,a.fst<=v->v<a.fst+a.fds.length->gI L.par v=a.mat
 non:∀v:Int,0<=v->v<L.vars.length->0<=gI L.par v->∃a∈as1,a.fst<=v/\v<a.fst+a.fds.length
 off:∀v:Int,0<=v->v<L.vars.length->match Us as1 v with
  | none=>gI L.con v<0
  | some a=>0<=gI L.con v/\a.fst=gI L.fst v/\a.fds=ZV ds (gI L.con v)
theorem WU.same {ds:List Zf} {L M:Zs} {as1:List Xl} (h:WU ds L as1) (h1:M.vars.length=L.vars.length) (h2:M.par=L.par) (h3:M.con=L.con) (h4:M.fst=L.fst):WU ds M as1:=by
 refine ⟨?_,?_,?_,?_⟩
 ·rw [h1];exact h.rng
 ·rw [h2];exact h.par
 ·rw [h1,h2];exact h.non
 ·rw [h1,h3,h4];exact h.off
theorem WU.grow {ds:List Zf} {L:Zs} {as1:List Xl} {t o:Int} (h:WU ds L as1) (hl:Wt L):WU ds (L.grow t o (-1)) as1:=by
 obtain ⟨e1,e2,e3,e4,e5⟩:=hl
 have key:∀{xs:LI} {y v:Int},xs.length=L.vars.length->0<=v->v<L.vars.length->gI (xs++[y]) v=gI xs v:=fun hx h0 h1=>AQ om
 have kend:∀{xs:LI} {y v:Int},xs.length=L.vars.length->v=(L.vars.length:Int)->gI (xs++[y]) v=y:=fun hx h1=>I4 om
 have hlen:(L.grow t o (-1)).vars.length=L.vars.length+1:=by simp [Zs.grow]
 refine ⟨fun a ha=>?_,fun a ha v h1 h2=>?_,fun v h0 h1 h2=>?_,fun v h0 h1=>?_⟩
 ·have:=h.rng a ha;omega
 ·have:=h.rng a ha
  show gI (L.par++[-1]) v=a.mat
  rw [key e2 om om];exact h.par a ha v h1 h2
 ·have h2':0<=gI (L.par++[-1]) v:=h2
  by_cases hv:v<L.vars.length
  ·rw [key e2 h0 hv] at h2';exact h.non v h0 hv h2'
  ·rw [kend e2 om] at h2';omega
 ·show match Us as1 v with
   | none=>gI (L.con++[-1]) v<0
   | some a=>0<=gI (L.con++[-1]) v/\a.fst=gI (L.fst++[-1]) v/\a.fds=ZV ds (gI (L.con++[-1]) v)
  by_cases hv:v<L.vars.length
  ·rw [key e3 h0 hv,key e4 h0 hv];exact h.off v h0 hv
  ·rw [E3 (fun a ha=>by have:=h.rng a ha;omega)]
   show gI (L.con++[-1]) v<0
   rw [kend e3 om];omega
theorem WU.arm {ds:List Zf} {L:Zs} {as1:List Xl} {x c:Int} (h:WU ds L as1) (hl:Wt L) (hx:0<=x/\x<L.vars.length) (hc:0<=c) :
  WU ds (Js ds L x c) (as1++[⟨x,(L.vars.length:Nat),ZV ds c,false⟩]):=by
 obtain ⟨e1,e2,e3,e4,e5⟩:=hl
 rw [Js,Ie]
 have hnew:∀{xs:LI} {y v:Int},xs.length=L.vars.length->(L.vars.length:Int)<=v->v<L.vars.length+(ZV ds c).length->gI (xs++List.replicate (ZV ds c).length y) v=y:=fun hx h0 h1=>I7 om
 have QH:∀{xs:LI} {y v:Int},xs.length=L.vars.length->0<=v->v<L.vars.length->gI (xs++List.replicate (ZV ds c).length y) v=gI xs v:=fun hx h0 h1=>AQ om
 refine ⟨fun a ha=>?_,fun a ha v h1 h2=>?_,fun v h0 h1 h2=>?_,fun v h0 h1=>?_⟩
 ·simp only [Yw]
  rcases Xa.1 ha with ha|ha
  ·have:=h.rng a ha;omega
  ·rw [XC.1 ha]
   show 0<=x/\x<(L.vars.length:Nat)/\(L.vars.length:Int)+((ZV ds c).length:Nat)<=_
   omega
 ·show gI (L.par++List.replicate _ x) v=a.mat
  rcases Xa.1 ha with ha|ha
  ·have:=h.rng a ha
   rw [QH e2 om om];exact h.par a ha v h1 h2
  ·rw [XC.1 ha] at h1 h2 ⊢
   exact hnew e2 h1 h2
 ·simp only [Yw] at h1
  have h2':0<=gI (L.par++List.replicate (ZV ds c).length x) v:=h2
  by_cases hv:v<L.vars.length
  ·rw [QH e2 h0 hv] at h2'
   obtain ⟨a,ha,q⟩:=h.non v h0 hv h2'
   exact ⟨a,List.mem_append_left _ ha,q⟩
  ·exact ⟨_,List.mem_append_right _ (XC.2 rfl),by show (L.vars.length:Int)<=v;omega,by show v<(L.vars.length:Int)+(ZV ds c).length;omega⟩
 ·simp only [Yw] at h1
  show match Us (as1++[⟨x,(L.vars.length:Nat),ZV ds c,false⟩]) v with
   | none=>gI (L.con.set x.toNat c++List.replicate (ZV ds c).length (-1)) v<0
   | some a=>0<=gI (L.con.set x.toNat c++List.replicate (ZV ds c).length (-1)) v/\a.fst=gI (L.fst.set x.toNat L.vars.length++List.replicate (ZV ds c).length (-1)) v /\
     a.fds=ZV ds (gI (L.con.set x.toNat c++List.replicate (ZV ds c).length (-1)) v)
  rw [Pf]
  by_cases hv:v<L.vars.length
  ·rw [QH (by simp [e3]) h0 hv,QH (by simp [e4]) h0 hv]
   by_cases he:x=v
   ·rw [Ze he]
    show 0<=gI (L.con.set x.toNat c) v/\(L.vars.length:Int)=gI (L.fst.set x.toNat L.vars.length) v/\ZV ds c=ZV ds (gI (L.con.set x.toNat c) v)
    rw [Fm om om,Fm om om]
    exact ⟨hc,rfl,rfl⟩
   ·rw [Z8 he,Fo om,Fo om];exact h.off v h0 hv
  ·rw [hnew (by simp [e3]) om om]
   rw [Z8 (by show ¬x=v;omega),E3 (fun a ha=>by have:=h.rng a ha;omega)]
   show (-1:Int)<0
   omega
theorem SS {L:Zs} {ln:LI} {v:Int} {p:Int} (hv:0<=v/\v<L.vars.length) (hd:∀i:Int,0<=i->i<L.vars.length->gI L.par i<i) (h:¬(gI L.own v>0∨v∈ln)) (hp:gI L.par v=p) (h0:0<=p):Wh L ln v=Wh L ln p:=
 (Mc (N:=L.vars.length) rfl hp hv ⟨by omega,fun q=>h (.inr q)⟩ om hd rfl).symm
theorem SR {L:Zs} {ln:LI} {v:Int} (h:¬(gI L.own v>0∨v∈ln)) (hp:gI L.par v<0):Wh L ln v=false:=
 (Mb rfl rfl ⟨by omega,fun q=>h (.inr q)⟩ hp rfl).symm
theorem SU {L:Zs} {ln:LI} {v:Int} (h:gI L.own v>0∨v∈ln):Wh L ln v=true:=
 (Md rfl (fun q=>h.elim (fun z=>by omega) q.2) rfl).symm
end Go.Abs
namespace Go.Abs
def XI (L:Zs) (v:Int):Zs:={ L with own:=L.own.set v.toNat (gI L.own v-1) }
theorem Ao {L:Zs} {v:Int}:UK L v=if 1<=gI L.own v then some (XI L v) else none:=by
 rw [UK]
 by_cases h:gI L.own v<1
 ·rw [Ze h,Z8 om]
 ·rw [Z8 h,Ze om];rfl
end Go.Abs
namespace Go.Abs
def Wa (L:Zs) (r:Int):Zs:=if gI L.vars r≠0 then XI L r else L
theorem Nb {L:Zs} {m:Nat} {r:Int} (ho:gI L.vars r≠0->1<=gI L.own r) (hz:T5 ((Wa L r).own.drop m) ((Wa L r).tok.drop m)=true):UD m r L=some ((Wa L r).take m):=by
 rw [UD]
 by_cases h:gI L.vars r≠0
 ·rw [Ze h,Ao,Ze (ho h)]
  have e:Wa L r=XI L r:=Ze h
  rw [e] at hz ⊢
  exact Ze hz
 ·rw [Z8 h]
  have e:Wa L r=L:=Z8 h
  rw [e] at hz ⊢
  exact Ze hz
theorem Z3l {L:Zs} {m:Nat} {r:Int} (h:gI L.vars r≠0) (ho:¬1<=gI L.own r):UD m r L=none:=by
 rw [UD,Ze h,Ao,Z8 ho];rfl
theorem Fa {L:Zs} {m:Nat} {r:Int} (hz:T5 ((Wa L r).own.drop m) ((Wa L r).tok.drop m)=false):UD m r L=none:=by
 rw [UD]
 by_cases h:gI L.vars r≠0
 ·rw [Ze h,Ao]
  have e:Wa L r=XI L r:=Ze h
  rw [e] at hz
  split
  ·exact Z8 (by rw [hz];simp)
  ·rfl
 ·rw [Z8 h]
  have e:Wa L r=L:=Z8 h
  rw [e] at hz
  exact Z8 (by rw [hz];simp)
theorem GR {os ts:LI} {k:Nat} {o t:Int} {r:Bool} (h1:os[k]? = some o) (h2:ts[k]? = some t) (h:o≠0∨0<=t) (hr:T5 (os.drop k) (ts.drop k)=r):r=false:=by
 rw [Y7 h1,Y7 h2,T5,Ze h] at hr;exact hr.symm
theorem GS {os ts:LI} {k:Nat} {o t:Int} {r:Bool} (h1:os[k]? = some o) (h2:ts[k]? = some t) (h:¬(o≠0∨0<=t)) (hr:T5 (os.drop k) (ts.drop k)=r):T5 (os.drop (k+1)) (ts.drop (k+1))=r:=by
 rw [Y7 h1,Y7 h2,T5,Z8 h] at hr;exact hr
theorem Sq {os ts:LI} {k:Nat} {r:Bool} (h1:os.length<=k) (hr:T5 (os.drop k) (ts.drop k)=r):r=true:=by
 rw [Xi h1] at hr;rw [<-hr];simp [T5]
end Go.Abs
namespace Go.Abs
def Ci (o:LI) (fs:LI):LI:=fs.foldl (fun o f=>o.set f.toNat (gI o f+1)) o
theorem Z12 {p:Int} {xs own:LI}:Ci own (VX xs p)=T7 own p xs:=(Ih xs p own).symm
theorem Z13 {fs o r:LI} {k:Nat} {f x:Int} (h:fs[k]? = some f) (hx:gI o f=x) (hr:Ci o (fs.drop k)=r):Ci (o.set f.toNat (x+1)) (fs.drop (k+1))=r:=by
 rw [Y7 h,Ci,List.foldl_cons,hx] at hr;exact hr
theorem ME {fs o r:LI} {k:Nat} (h:fs.length<=k) (hr:Ci o (fs.drop k)=r):o=r:=by
 rw [Xi h] at hr;exact hr
def QB (n:Zk) (ln:LI) (L:Zs) (op v:Int):Option Zs:=if op=14 then Jz L ln v else if op=15 then UK L v else Qb n.decls L op v
section
variable {n:Zk} {ln:LI} {L:Zs} {op v:Int} {am:List Xl} {a:Xl}
theorem Z1p (h:op=14) (ha:¬Wh L ln v=true):QB n ln L op v=none:=by rw [QB,Ze h,Jz,Z8 ha]
theorem Z1q (h:op=14) (ha:Wh L ln v=true) {x:Int} (hx:gI L.own v=x):QB n ln L op v=some { L with own:=L.own.set v.toNat (x+1) }:=by rw [QB,Ze h,Jz,Ze ha,hx]
theorem Z1t (h:op=15) (ht:1<=gI L.own v):QB n ln L op v=some (XI L v):=by rw [QB,Z8 om,Ze h,Ao,Ze ht]
theorem Z1s (h:op=15) (ht:¬1<=gI L.own v):QB n ln L op v=none:=by rw [QB,Z8 om,Ze h,Ao,Z8 ht]
theorem MO (h1:¬op=14) (h2:¬op=15):QB n ln L op v=Qb n.decls L op v:=by rw [QB,Z8 h1,Z8 h2]
theorem Za4 {ds:List Zf} (har:WU ds L am) (hv:0<=v/\v<L.vars.length) (ho:Us am v=none):Qb ds L op v=none:=by
 have:=har.off v hv.1 hv.2
 rw [ho] at this
 rw [Qb,Ze (.inl this)]
theorem Za3 {ds:List Zf} (har:WU ds L am) (hv:0<=v/\v<L.vars.length) (ho:Us am v=some a) {xt:Int} (hxt:gI L.tok v=xt):Qb ds L op v=if ¬1<=gI L.own v∨(op=17/\xt>=0) then none else
  some { XI L v with own:=T7 (XI L v).own a.fst a.fds,tok:=if op=17 then L.tok.set v.toNat a.fds.length else L.tok }:=by
 have:=har.off v hv.1 hv.2
 rw [ho] at this
 obtain ⟨h1,h2,h3⟩:=this
 have hcon:¬gI L.con v<0:=by omega
 rw [Qb,Ao,hxt,<-h2,<-h3]
 by_cases ht:1<=gI L.own v
 ·rw [Ze ht]
  by_cases h17:op=17/\xt>=0
  ·have c1:gI L.con v<0∨(op=17/\0<=xt):=.inr h17
   have c2:¬1<=gI L.own v∨(op=17/\xt>=0):=.inr h17
   rw [Ze c1,Ze c2]
  ·have c1:¬(gI L.con v<0∨(op=17/\0<=xt)):=fun q=>q.elim hcon h17
   have c2:¬(¬1<=gI L.own v∨(op=17/\xt>=0)):=fun q=>q.elim (fun z=>z ht) h17
   rw [Z8 c1,Z8 c2]
 ·rw [Z8 ht]
  have c2:¬1<=gI L.own v∨(op=17/\xt>=0):=.inl ht
  rw [Ze c2]
  split<;>rfl
end
end Go.Abs
namespace Go.Abs
theorem Z2s {ds:List Zf} {L:Zs} {q v:Int} (hk:X7 ds L q) (h1:1<=gI L.own v) (hv:0<=v/\v<L.vars.length):∀y∈(XI L v).own,0<=y/\y<=q:=by
 intro y hy
 rcases KP hy with hy|rfl
 ·exact ⟨hk.nn y hy,hk.bd y hy⟩
 ·obtain ⟨x,hx⟩:=Kd (xs:=L.own) (j:=v.toNat) (by have:=hk.len.own;omega)
  have hg:=Vh hx
  have:=hk.bd x (Y2 hx)
  omega
end Go.Abs
end
section
namespace Go.Abs
def WZ (n:Zk) (us:LI) (op num:Int):LI->Nat->LI
 | [],_=>[]
 | a::r,i=>if TB n us op num a i=true then (i:Int)::WZ n us op num r (i+1) else WZ n us op num r (i+1)
section
variable {n:Zk} {us:LI} {op num:Int}
theorem Zak {args acc r:LI} {k:Nat} {a:Int} (h:args[k]? = some a) (hc:TB n us op num a k=true) (hr:acc++WZ n us op num (args.drop k) k=r) :
  (acc++[(k:Int)])++WZ n us op num (args.drop (k+1)) (k+1)=r:=by
 rw [Y7 h,WZ,Ze hc] at hr;rw [TH];exact hr
theorem Py {args acc r:LI} {k:Nat} {a:Int} (h:args[k]? = some a) (hc:¬TB n us op num a k=true) (hr:acc++WZ n us op num (args.drop k) k=r) :
  acc++WZ n us op num (args.drop (k+1)) (k+1)=r:=by
 rw [Y7 h,WZ,Z8 hc] at hr;exact hr
theorem Zaj {args acc r:LI} {k:Nat} (h:args.length<=k) (hr:acc++WZ n us op num (args.drop k) k=r):acc=r:=by
 rw [Xi h,WZ,JM] at hr;exact hr
theorem IY (h:¬T9 op=true):∀(args:LI) (i:Nat),WZ n us op num args i=[]
 | [],_=>rfl
 | a::r,i=>by
  have hb:T9 op=false:=by simpa using h
  rw [WZ,Z8 (by rw [TB,hb];simp)];exact IY h r (i+1)
theorem IX:∀{args:LI} {i:Nat} {p:Int},p∈WZ n us op num args i->(i:Int)<=p/\p<i+args.length
 | [],_,_,h=>by simp [WZ] at h
 | a::r,i,p,h=>by
  rw [WZ] at h
  simp only [YR]
  split at h
  ·rcases YD.1 h with rfl|h
   ·omega
   ·have:=IX h;omega
  ·have:=IX h;omega
theorem Px:∀(args:LI) (i:Nat),(WZ n us op num args i).length<=args.length
 | [],_=>by simp [WZ]
 | a::r,i=>by
  have:=Px r (i+1)
  rw [WZ];split<;>simp<;>omega
theorem OW (h:¬T9 op=true) (i:Nat):¬WO n op num i=true:=by
 have:op≠9:=fun q=>h (by rw [q];rfl)
 rw [WO,Ag,Z8 this];simp
def Ax (n:Zk) (op num:Int) (args:LI) (k:Nat) (ls:LI):Prop:=∀x,x∈ls↔∃i,i<k/\args[i]? = some x/\WO n op num i=true
theorem OU {args ls:LI} {k:Nat} (h:Ax n op num args k ls) (hl:¬WO n op num k=true):Ax n op num args (k+1) ls:=by
 intro x;rw [h x]
 constructor
 ·rintro ⟨i,q1,q2⟩;exact ⟨i,by omega,q2⟩
 ·rintro ⟨i,q1,q2,q3⟩
  rcases Bu i k with q|q
  ·exact ⟨i,q,q2,q3⟩
  ·have:i=k:=by omega
   subst this;exact absurd q3 hl
theorem Z90 {args ls ls2:LI} {k:Nat} {a:Int} (ha:args[k]? = some a) (h:Ax n op num args k ls) (hl:WO n op num k=true) (h2:∀x,x∈ls2↔x∈ls∨x=a):Ax n op num args (k+1) ls2:=by
 intro x;rw [h2 x,h x]
 constructor
 ·rintro (⟨i,q1,q2⟩|rfl)
  ·exact ⟨i,by omega,q2⟩
  ·exact ⟨k,by omega,ha,hl⟩
 ·rintro ⟨i,q1,q2,q3⟩
  rcases Bu i k with q|q
  ·exact .inl ⟨i,q,q2,q3⟩
  ·have:i=k:=by omega
   subst this;rw [ha] at q2;exact .inr (Tz q2).symm
theorem Z92 {args:LI}:Ax n op num args 0 []:=by intro x;simp
theorem Z91 {args ls:LI} {k:Nat} (h:Ax n op num args k ls) (hk:args.length<=k):∀x,x∈ls↔∃i,args[i]? = some x/\WO n op num i=true:=by
 intro x;rw [h x]
 constructor
 ·rintro ⟨i,_,q⟩;exact ⟨i,q⟩
 ·rintro ⟨i,q⟩;exact ⟨i,by have:=(Xp.1 q.1).1;omega,q⟩
end
def QX (args:LI):LI->Zs->Option Zs
 | [],L=>some L
 | k::r,L=>match UK L (gI args k) with
  | none=>none
  | some L1=>QX args r L1
theorem Ek {n:Zk} {op num:Int} {all:LI}:∀{args:LI} {i:Nat} {L:Zs},all.drop i=args->Q5 n op num args i L=QX all (WZ n L.vars op num args i) L
 | [],i,L,_=>rfl
 | a::r,i,L,h=>by
  have hr:all.drop (i+1)=r:=by rw [<-List.drop_drop,h];rfl
  have ha:gI all (i:Int)=a:=by
   have:(all.drop i)[0]? = some a:=by rw [h];rfl
   rw [Bm] at this
   exact Vh (by simpa using this)
  rw [Q5,WZ]
  split
  ·rw [QX,ha]
   cases ht:UK L a with
   | none=>rfl
   | some L1=>
    simp only
    rw [Ek hr,(QW ht).2.1]
  ·exact Ek hr
theorem Zeb {args ps:LI} {k:Nat} {L:Zs} {p x:Int} {r:Option Zs} (h:ps[k]? = some p) (hx:gI args p=x) (ht:1<=gI L.own x) (hr:QX args (ps.drop k) L=r):QX args (ps.drop (k+1)) (XI L x)=r:=by
 rw [Y7 h,QX,hx,Ao,Ze ht] at hr;exact hr
theorem Zec {args ps:LI} {k:Nat} {L:Zs} {p x:Int} {r:Option Zs} (h:ps[k]? = some p) (hx:gI args p=x) (ht:¬1<=gI L.own x) (hr:QX args (ps.drop k) L=r):r=none:=by
 rw [Y7 h,QX,hx,Ao,Z8 ht] at hr;exact hr.symm
theorem Zea {args ps:LI} {k:Nat} {L:Zs} {r:Option Zs} (h:ps.length<=k) (hr:QX args (ps.drop k) L=r):r=some L:=by
 rw [Xi h,QX] at hr;exact hr.symm
theorem Fu {n:Zk} {op num:Int} {ln:LI} {L:Zs} {all:LI}:∀{args:LI} {i:Nat},all.drop i=args ->
  (KF n op num ln L args i=true↔∀j x,i<=j->all[j]? = some x->WO n op num j=true->Wh L ln x=true)
 | [],i,h=>by
  simp only [KF,true_iff]
  intro j x hj hx _
  have:=(Xp.1 hx).1
  have hl:=Ym List.length h
  simp at hl;omega
 | a::r,i,h=>by
  have hr:all.drop (i+1)=r:=by rw [<-List.drop_drop,h];rfl
  have ha:all[i]? = some a:=by
   have:(all.drop i)[0]? = some a:=by rw [h];rfl
   rw [Bm] at this;simpa using this
  rw [KF]
  split
  ·rename_i q
   simp only [Bool.false_eq_true,false_iff]
   exact fun z=>q.2 (z i a (X5 _) ha q.1)
  ·rename_i q
   rw [Fu hr]
   constructor
   ·intro z j x hj hx hl
    rcases Bu i j with hij|hij
    ·exact z j x hij hx hl
    ·have:j=i:=by omega
     subst this;rw [ha] at hx;cases hx
     exact Vp.1 fun y=>q ⟨hl,y⟩
   ·exact fun z j x hj=>z j x om
theorem NS {n:Zk} {ln:LI} {L L1:Zs} {op num into:Int} {args ls:LI} (h1:QX args (WZ n L.vars op num args 0) L=some L1) (hl:∀x,x∈ls↔∃i,args[i]? = some x/\WO n op num i=true) :
  ((∀x∈ls,Wh L1 ln x=true)->UF n ln L op num into args=KG L1 into args.length)/\((∃x∈ls,¬Wh L1 ln x=true)->UF n ln L op num into args=none):=by
 rw [UF,Ek (all:=args) (args:=args) (i:=0) rfl,h1]
 simp only
 constructor
 ·intro h
  rw [Ze ((Fu (all:=args) (args:=args) (i:=0) rfl).2 fun j x _ hx hj=>h x ((hl x).2 ⟨j,hx,hj⟩))]
 ·rintro ⟨x,hx,hd⟩
  rw [Z8]
  intro z
  obtain ⟨j,q1,q2⟩:=(hl x).1 hx
  exact hd ((Fu (all:=args) (args:=args) (i:=0) rfl).1 z j x (K3 _) q1 q2)
theorem Z6a {n:Zk} {ln:LI} {L:Zs} {op num into:Int} {args:LI} (h1:QX args (WZ n L.vars op num args 0) L=none):UF n ln L op num into args=none:=by
 rw [UF,Ek (all:=args) (args:=args) (i:=0) rfl,h1]
end Go.Abs
namespace Go.Abs
theorem Zc3 {n:Zk} (hn:X4 n) (num:Int):(Uj n num).lnt.length<=4194304:=by
 rw [Uj,T6]
 cases h:n.routines[num.toNat]? with
 | none=>simp
 | some r=>exact hn.lent r (Y2 h)
theorem Z8z {n:Zk} {op num:Int} {k:Nat}:WO n op num k=true↔(op=9/\(k:Int)∈(Uj n num).lnt):=by
 rw [WO,Ag,decide_eq_true_iff]
 by_cases h:op=9
 ·rw [Ze h,Uj,T6]
  cases n.routines[num.toNat]? with
  | none=>simp
  | some r=>simp [h,XU]
 ·rw [Z8 h];simp [h]
end Go.Abs
namespace Go.Abs
theorem clS {xs:LI} {p:LI->Prop}:BA fun r h=>∃(vp vl:Value) (ls:LI),r=.tup [ZT xs vp,ZT ls vl]/\h=[.tail vp 1,.tail vl 1]/\p ls:=by
 rintro _ _ ⟨vp,vl,ls,rfl,rfl,_⟩
 refine ⟨.tup fun y hy=>?_,by simp [BB]⟩
 simp only [YD,List.not_mem_nil,or_false] at hy
 rcases hy with rfl|rfl
 ·exact .own (k:=1) (Ep _) (by simp)
 ·exact .own (k:=1) (Ep _) (by simp)
end Go.Abs
end
section
namespace Go.Abs
section
variable {n:Zk} {ln:LI}
theorem Z6b {L L':Zs} {op num into q:Int} {args:LI} {ds:List Zf} (hk:X7 ds L q) (h:UF n ln L op num into args=some L'):L'.vars=L.vars/\L'.par=L.par/\L'.con=L.con/\L'.fst=L.fst:=by
 rw [UF] at h
 cases ht:Q5 n op num args 0 L with
 | none=>rw [ht] at h;cases h
 | some L1=>
  rw [ht] at h
  obtain ⟨_,h1,h2,h3,h4,_⟩:=Fv hk ht
  simp only at h
  split at h
  ·rw [KG] at h
   split at h
   ·split at h
    ·cases h
    ·cases h;exact ⟨h1,h2,h3,h4⟩
   ·cases h;exact ⟨h1,h2,h3,h4⟩
  ·cases h
theorem Zah {L L1:Zs} {s:Z5} {q:Int} {ds:List Zf} (hk:X7 ds L q) (h:Qn n ln L s.op s.num s.into s.args (Q8 n ln L s.op s.num s.args s.kids)=some L1):L1.vars=L.vars/\L1.par=L.par/\L1.con=L.con/\L1.fst=L.fst:=by
 rw [Qn] at h
 split at h
 ·obtain ⟨h1,h2,h3,h4,_⟩:=EZ h;exact ⟨h1,h2,h3,h4⟩
 split at h
 ·obtain ⟨_,h1,h2,h3,h4,_⟩:=QW h;exact ⟨h1,h2,h3,h4⟩
 split at h
 ·obtain ⟨h1,h2,h3,h4,_⟩:=IS h;exact ⟨h1,h2,h3,h4⟩
 split at h
 ·split at h
  ·cases h
  ·cases hks:s.kids with
   | nil=>rw [hks,Q8] at h;cases h
   | cons b bs=>
    rw [hks,Q8] at h
    unfold AZ at h
    cases hb:VD n ln (Vv n.decls L s.op s.num s.args 0) L.vars.length b with
    | none=>rw [hb] at h;cases h
    | some one=>
     rw [hb] at h
     simp only at h
     split at h
     ·cases h;exact ⟨rfl,rfl,rfl,rfl⟩
     ·cases h
 ·exact Z6b hk h
theorem RP (hn:X4 n) {s:Z5} {L L':Zs} {q:Int} {am:List Xl} (hk:X7 n.decls L q) (hq:0<=q) (hty:0<=Yc n L.vars s) (h:Vy n ln L s=some L') (ha:WU n.decls L am):WU n.decls L' am:=by
 rw [LF] at h
 cases hp:Qn n ln L s.op s.num s.into s.args (Q8 n ln L s.op s.num s.args s.kids) with
 | none=>rw [hp] at h;cases h
 | some L1=>
  rw [hp] at h
  obtain ⟨h1,h2,h3,h4⟩:=Zah hk hp
  have hk1:=(B9 hn hk hq (D9 hty) hp).1
  have ha1:WU n.decls L1 am:=ha.same (by rw [h1]) h2 h3 h4
  rw [Kc] at h
  split at h
  ·cases h;exact ha1.grow hk1.len
  ·cases h;exact ha1
theorem LJ (hn:X4 n) {am:List Xl}:∀{xs:List Z5} {L L':Zs} {q:Int} {vs:LI},X7 n.decls L q->0<=q->WU n.decls L am->XH n xs L.vars=some vs->Wb n ln L xs=some L' ->
  X7 n.decls L' (q+4*Y8 xs)/\L'.vars=vs/\WU n.decls L' am
 | [],L,L',q,vs,hk,hq,ha,ht,h=>by
  rw [Wb] at h;rw [XH] at ht;cases h;cases ht
  exact ⟨by simpa [Y8] using hk,rfl,ha⟩
 | s::r,L,L',q,vs,hk,hq,ha,ht,h=>by
  rw [Wb] at h
  cases hs:Vy n ln L s with
  | none=>rw [hs] at h;cases h
  | some L1=>
   rw [hs] at h
   obtain ⟨g1,g2⟩:=Ei ht
   obtain ⟨k1,k2⟩:=D8 hn hk hq g1 hs
   have:=LJ hn (xs:=r) k1 (by have:=s.sz_pos;omega) (RP hn hk hq g1 hs ha) (by rw [k2];exact g2) h
   refine ⟨?_,this.2⟩
   rw [show q+4*Y8 (s::r)=q+4*s.sz+4*Y8 r by rw [Y8];omega]
   exact this.1
end
end Go.Abs
namespace Go.Abs
def Ce (n:Zk):Prop:=∀r∈n.routines,∀i:Nat,(i:Int)∈r.lent->∃t,r.params[i]? = some t/\t≠0
theorem OS {ps:LI}:∀{ls:LI} {prev:Option Int},Ql ps ls prev=true->∀v∈ls,(0<=v/\v<=(ps.length:Int)-1)/\ps[v.toNat]?≠some 0
 | [],_,_,v,h=>by cases h
 | x::r,prev,h,v,hv=>by
  rw [Ql] at h
  split at h
  ·rename_i q
   rcases YD.1 hv with rfl|hv
   ·exact ⟨q.1,q.2.1⟩
   ·exact OS h v hv
  ·cases h
theorem OX:∀{rs:List Yf},KN rs=true->∀r∈rs,J1 r.params r.lent=true
 | [],_,r,h=>by cases h
 | x::rs,h,r,hr=>by
  rw [KN] at h
  split at h
  ·rcases YD.1 hr with rfl|hr
   ·assumption
   ·exact OX h r hr
  ·cases h
theorem Z9h {n:Zk} (h:U1 n=true):Ce n:=by
 simp only [U1,QZ,W7,decide_eq_true_eq] at h
 obtain ⟨_,_,h6⟩:=h
 intro r hr i hi
 obtain ⟨h1,h2⟩:=OS (OX h6 r hr) i hi
 obtain ⟨t,ht⟩:=Kd (xs:=r.params) (j:=i) om
 refine ⟨t,ht,fun q=>h2 ?_⟩
 rw [VT,ht,q]
theorem GH {us:LI}:∀{args tys:LI} {i:Nat} {a t:Int},T2 us args tys=true->args[i]? = some a->tys[i]? = some t->XA us a=some t
 | [],_,i,a,t,_,h,_=>by simp at h
 | x::r,[],i,a,t,_,_,h=>by simp at h
 | x::r,y::ys,i,a,t,h,ha,ht=>by
  rw [T2] at h
  split at h
  ·rename_i hq
   cases i with
   | zero=>simp at ha ht;subst ha;subst ht;exact hq
   | succ i=>exact GH h (by simpa using ha) (by simpa using ht)
  ·cases h
theorem Z93 {n:Zk} (hl:Ce n) {us:LI} {s:Z5} (h:0<=Yc n us s):∀(i:Nat) (a:Int),s.args[i]? = some a->WO n s.op s.num i=true->gI us a≠0:=by
 intro i a ha hla
 rw [WO,Ag,decide_eq_true_iff] at hla
 by_cases h9:s.op=9
 ·rw [Ze h9] at hla
  have hn:=(D9 h).num h9
  obtain ⟨r,hr⟩:=Kd (xs:=n.routines) (j:=s.num.toNat) om
  rw [hr] at hla
  obtain ⟨t,ht,h0⟩:=hl r (Y2 hr) i hla
  rw [An] at h
  split at h
  ·omega
  rw [Z8 om,Z8 om,Z8 om,Z8 om,Z8 om,Z8 om,Ze (.inl h9),Tx,Q0 om hr] at h
  simp only [Kh] at h
  rw [Ze h9] at h
  split at h
  ·rename_i hty
   rw [Wc] at hty
   have hq:XA us a=some t:=by
    first
    | exact GH hty ha ht
    | exact GH (Bool.and_eq_true_iff.1 hty).2 ha ht
    | exact GH (Bool.and_eq_true_iff.1 hty).1 ha ht
   rw [Vh (J6 hq).2];exact h0
  ·omega
 ·rw [Z8 h9] at hla;cases hla
end Go.Abs
namespace Go.Abs
theorem Zbx {n:Zk} {us:LI} {s:Z5} (h:∀t∈us,0<=t) (h0:0<=Yc n us s):∀t∈TU n us s,0<=t:=by
 rw [TU];split
 ·exact DY h fun t ht=>by rw [XC.1 ht];exact h0
 ·exact h
end Go.Abs
namespace Go.Abs
theorem Hr {c:Bool} {ok:Int->Prop}:BA fun r h=>∃t:Int,r=.tup [.i t,.b c]/\h=[]/\ok t:=by
 rintro _ _ ⟨t,rfl,rfl,_⟩
 refine ⟨.tup fun y hy=>?_,by simp⟩
 simp only [YD,List.not_mem_nil,or_false] at hy
 rcases hy with rfl|rfl<;>exact .val
section
variable {n:Zk} {ln:LI} {L:Zs} {s:Z5}
theorem Z3v {op t:Int} {r:Option Zs} (h:¬XM op=true):Kc L op t r=r:=by
 cases r with
 | none=>rfl
 | some X=>exact Z8 h
theorem RR {x:Int} (hc:YC s.op=true) (hx:gI s.args 0=x):Vy n ln L s=QB n ln L s.op x:=by
 have hop:14<=s.op/\s.op<=17:=by simpa [YC] using hc
 have hd:¬XM s.op=true:=by rw [XM];simp;omega
 rw [Uk,Z3v hd,QB]
 by_cases h14:s.op=14
 ·rw [Ze h14];exact G9 h14 hx
 rw [Z8 h14]
 by_cases h15:s.op=15
 ·rw [Ze h15];exact Ga h15 hx
 rw [Z8 h15]
 exact IV om hx
theorem LG {L1:Zs} {t:Int} (hP:TF n ln L s=some L1) (h0:0<=Yc n L.vars s) (hnc:¬YC s.op=true) (ht:t=Yc n L.vars s):Vy n ln L s=some (L1.grow t (min t 1) (-1)):=by
 have hd:XM s.op=true:=by rw [EY h0];simpa using hnc
 rw [Uk,hP]
 show (if XM s.op=true then _ else _)=_
 rw [Ze hd,ht,show (if Yc n L.vars s≠0 then (1:Int) else 0)=min (Yc n L.vars s) 1 by split<;>omega]
theorem RS (hP:TF n ln L s=none):Vy n ln L s=none:=by rw [Uk,hP];rfl
theorem IW (h1:¬YC s.op=true) (h2:¬(s.op=7∨s.op=8)):TF n ln L s=UF n ln L s.op s.num s.into s.args:=by
 have hop:¬(14<=s.op/\s.op<=17):=by simpa [YC] using h1
 rw [TF,Qn,Z8 om,Z8 om,Z8 om,Z8 h2]
theorem Zag (h1:¬YC s.op=true) (h2:¬(s.op=7∨s.op=8)) (h3:¬T9 s.op=true) (h0:0<=Yc n L.vars s):TF n ln L s=some L:=by
 rw [IW h1 h2,UF,Ek (all:=s.args) (args:=s.args) (i:=0) rfl,IY h3]
 show (if KF n s.op s.num ln L s.args 0=true then KG L s.into s.args.length else none)=some L
 rw [Ze ((Fu (all:=s.args) (args:=s.args) (i:=0) rfl).2 fun j x _ _ hl=>absurd hl (OW h3 j)),KG]
 have hi:¬0<s.into:=by
  intro hi
  rw [An] at h0
  split at h0
  ·omega
  ·rename_i hq
   have hv:Ul L.vars s.op s.into=true:=Vp.1 fun z=>hq (.inr (.inl z))
   rw [Ul,Z8 om] at hv
   split at hv
   ·rename_i h6;exact h3 (by rw [h6];rfl)
   ·cases hv
 rw [Z8 hi]
end
end Go.Abs
namespace Go.Abs
def To (L:Zs) (am:List Xl) (s:Z5) (m:LI):List Xl:=if s.op=8 then am++[⟨gI s.args 0,(L.vars.length:Nat),m,false⟩] else am
def KX (n:Zk) (L:Zs) (s:Z5) (k:Nat):Zs:=if s.op=8 then { L with con:=L.con.set (gI s.args 0).toNat (gI (ZX n.decls s.num) k),fst:=L.fst.set (gI s.args 0).toNat L.vars.length } else L
theorem Bh {n:Zk} {L:Zs} {s:Z5} {k:Nat}:(KX n L s k).vars=L.vars:=by rw [KX];split<;>rfl
theorem D6 {n:Zk} {L:Zs} {s:Z5} {k:Nat}:(KX n L s k).own=L.own:=by rw [KX];split<;>rfl
theorem D7 {n:Zk} {L:Zs} {s:Z5} {k:Nat}:(KX n L s k).tok=L.tok:=by rw [KX];split<;>rfl
theorem RO {n:Zk} {L:Zs} {s:Z5} {k:Nat} (h:Wt L):Wt (KX n L s k):=by rw [KX];split;exact h.arm;exact h
theorem RM {n:Zk} {L:Zs} {s:Z5} {k:Nat} {m:LI} (hop:s.op=7∨s.op=8) (hm:(Xn n.decls s.op s.num)[k]? = some m):KD (KX n L s k) (gI s.args 0) m=Vv n.decls L s.op s.num s.args k:=by
 rw [KX,Vv]
 by_cases h8:s.op=8
 ·rw [Ze h8,Ze h8]
  obtain ⟨c,hc,rfl⟩:=Hh h8 hm
  have hgc:gI (ZX n.decls s.num) (k:Int)=c:=by rw [gI];simp [hc]
  rw [Js,hgc]
 ·rw [Z8 h8,Z8 h8]
  rw [Xn,Ze om] at hm
  have:m=[]:=by
   match k,hm with
   | 0,hm=>simpa using hm.symm
   | 1,hm=>simpa using hm.symm
   | k+2,hm=>simp at hm
  rw [this];rfl
theorem Ml {n:Zk} {L:Zs} {am:List Xl} {s:Z5} {k:Nat} {m:LI} (hn:X4 n) (ha:WU n.decls L am) (hl:Wt L) (hop:s.op=7∨s.op=8) (hx:0<=gI s.args 0/\gI s.args 0<L.vars.length) (hm:(Xn n.decls s.op s.num)[k]? = some m) :
  WU n.decls (Vv n.decls L s.op s.num s.args k) (To L am s m):=by
 rw [To,Vv]
 by_cases h8:s.op=8
 ·rw [Ze h8,Ze h8]
  obtain ⟨c,hc,rfl⟩:=Hh h8 hm
  have hgc:gI (ZX n.decls s.num) (k:Int)=c:=by rw [gI];simp [hc]
  rw [hgc]
  exact ha.arm hl hx (MS hn.decls hc).1
 ·rw [Z8 h8,Z8 h8];exact ha
end Go.Abs
namespace Go.Abs
theorem GC {n:Zk}:∀{xs:List Z5} {us vs:LI},XH n xs us=some vs->us.length<=vs.length/\vs.length<=us.length+Y8 xs
 | [],us,vs,h=>by rw [XH] at h;cases h;simp [Y8]
 | s::r,us,vs,h=>by
  obtain ⟨_,g2⟩:=Ei h
  have:=GC g2
  have h2:=Gq n us s
  rw [Y8];omega
theorem Mk {L:Zs} {am:List Xl} {s:Z5} {m:LI}:(To L am s m).length<=am.length+1:=by rw [To];split<;>simp
theorem Mm {n:Zk} (hty:Kr n) {op num:Int} {k:Nat} {m:LI} (h:(Xn n.decls op num)[k]? = some m):∀f∈m,0<=f:=by
 by_cases h7:op=7
 ·rw [Xn,Ze h7] at h
  have:m=[]:=by
   match k,h with
   | 0,h=>simpa using h.symm
   | 1,h=>simpa using h.symm
   | k+2,h=>simp at h
  rw [this];intro f hf;cases hf
 ·rw [Xn,Z8 h7,T6] at h
  cases hc:(ZX n.decls num)[k]? with
  | none=>rw [hc] at h;cases h
  | some c=>rw [hc] at h;cases h;exact hty.fields c
theorem F9 {L:Zs} {r:Int}:(Wa L r).own.length=L.own.length/\(Wa L r).tok.length=L.tok.length/\(Wa L r).vars=L.vars:=by
 rw [Wa];split
 ·exact ⟨Uw,rfl,rfl⟩
 ·exact ⟨rfl,rfl,rfl⟩
end Go.Abs
namespace Go.Abs
theorem GF {L M:Zs} {n:Zk} {ln:LI} {xs:List Z5} {f:Zs->Option Zs} (h:Wb n ln L xs=some M):Bl (Wb n ln L xs) f=f M:=by rw [h];rfl
end Go.Abs
end
section
namespace Go.Abs
end Go.Abs
namespace Go.Abs
theorem Ll {xs:LI} {k:Nat} {a b:Int} (h:xs.length=k):(xs++[a]).set k b=xs++[b]:=by subst h;simp
end Go.Abs
namespace Go.Abs
theorem Z0c {ds:List Zf}:WU ds ⟨[],[],[],[],[],[]⟩ []:=⟨fun a ha=>(nomatch ha),fun a ha=>(nomatch ha),fun v h0 h1=>(by have h2:v<((0:Nat):Int):=h1;omega),fun v h0 h1=>(by have h2:v<((0:Nat):Int):=h1;omega)⟩
theorem Pv {ds:List Zf} {lent:LI}:∀{ps:LI} {i:Nat} {L:Zs},Wt L->WU ds L []->WU ds (QQ lent ps i L) []
 | [],_,_,_,h=>h
 | t::r,i,L,hl,h=>by rw [QQ];exact Pv hl.grow (h.grow hl)
theorem Z9e {ds:List Zf} (rt:Yf):WU ds (U0 rt) []:=Pv ⟨rfl,rfl,rfl,rfl,rfl⟩ Z0c
end Go.Abs
end
section
namespace Go.Abs
end Go.Abs
namespace Go.Abs
end Go.Abs
namespace Go.Abs
end Go.Abs
namespace Go.Abs
end Go.Abs
end
namespace Go.Abs
def Zx (op v:Int):Z5:=.mk op 0 0 [v] []
def UU (ds:List Zf) (num:Int) (k:Nat):LI:=((ZX ds num).map (ZV ds))[k]?.getD []
section
variable {ds:List Zf} {am:List Xl} {m:Nat}
end
theorem Nl {ds:List Zf} {num:Int} {k:Nat} {m:LI} (h:((ZX ds num).map (ZV ds))[k]? = some m):UU ds num k=m:=by rw [UU,h];rfl
theorem Z3u {ds:List Zf} (hd:WI ds) (num:Int) (k:Nat):(UU ds num k).length<=3:=by
 rw [UU,T6]
 cases (ZX ds num)[k]? with
 | none=>simp
 | some c=>exact U6 hd c
theorem LE {xs:List Z5} {k:Nat} {s:Z5} (h:xs[k]? = some s):Y8 (xs.take (k+1))=Y8 (xs.take k)+s.sz:=by
 induction xs generalizing k with
 | nil=>simp at h
 | cons t r ih=>
  cases k with
  | zero=>simp at h;subst h;simp [Y8]
  | succ k=>rw [Bt,Bt,Y8,Y8,ih (by simpa using h)];omega
theorem Qq (xs:List Z5) (k:Nat):Y8 (xs.take k)<=Y8 xs:=by
 induction xs generalizing k with
 | nil=>simp
 | cons t r ih=>
  cases k with
  | zero=>simp [Y8]
  | succ k=>have:=ih k;rw [Bt,Y8,Y8];omega
theorem Zbv {n:Zk} {us:LI} {s:Z5} (g:0<=Yc n us s) (h:YC s.op=true):TU n us s=us:=by rw [TU,EY g,h];rfl
theorem Zbu {n:Zk} {us:LI} {s:Z5} (g:0<=Yc n us s) (h:¬YC s.op=true):(TU n us s).length=us.length+1:=by
 rw [TU,EY g,J5.2 h];simp
theorem Zbw {n:Zk} {us:LI} {s:Z5} (g:0<=Yc n us s):(TU n us s).length=if YC s.op=true then us.length else us.length+1:=by
 split
 ·rw [Zbv g (by assumption)]
 ·exact Zbu g (by assumption)

theorem Ty:∀(xs ys:List Z5),Y8 (xs++ys)=Y8 xs+Y8 ys
 | [],ys=>by simp [Y8]
 | x::r,ys=>by rw [Qt,Y8,Y8,Ty r ys];omega
theorem ER (op v:Int):(Zx op v).sz=2:=by rw [Zx,Z5.sz];simp [X9]
theorem LA (op:Int):∀l:LI,Y8 (l.map (Zx op))=2*l.length
 | []=>by simp [Y8]
 | x::r=>by rw [Um,Y8,ER,LA op r,YR];omega
section
variable {ds:List Zf} (hd:WI ds)
include hd
end
section
variable {ds:List Zf} {cons first:LI}
end
section
variable {ds:List Zf} (hd:WI ds)
include hd
end
def XT:List Z5->Nat
 | []=>0
 | s::r=>if s.op=14∨s.op=15 then XT r+1 else 0
def WB (op:Int):List Z5->LI
 | []=>[]
 | s::r=>if s.op=op then gI s.args 0::WB op r else WB op r
def UZ:LI->Int->LI->LI->LI × LI
 | [],_,D,R=>(D,R)
 | f::r,q,D,R=>if f≠0/\q∈D then UZ r (q+1) (D.erase q) R else if f≠0 then UZ r (q+1) D (R++[q]) else UZ r (q+1) D R
def Aj (xs:List Z5) (x:Int) (fs:LI) (q:Int):LI × LI:=UZ fs q (WB 14 (xs.take (XT xs))) ((WB 15 (xs.take (XT xs))).erase x)
def AG (xs:List Z5) (x:Int) (fs:LI) (q:Int):List Z5:=
 if x∈WB 15 (xs.take (XT xs))/\fs.length≠0 then (Aj xs x fs q).1.map (Zx 14)++[Zx 16 x]++(Aj xs x fs q).2.map (Zx 15)++xs.drop (XT xs) else xs
def Jq (b:Z9) (x:Int) (fs:LI) (q:Int):Z9:=.mk (AG b.steps x fs q) b.result
theorem Gi:∀xs:List Z5,XT xs<=xs.length
 | []=>X5 _
 | s::r=>by have:=Gi r;rw [XT];split<;>simp<;>omega
theorem PV:∀{xs:List Z5} {s:Z5},s∈xs.take (XT xs)->s.op=14∨s.op=15
 | [],s,h=>by simp [XT] at h
 | t::r,s,h=>by
  rw [XT] at h
  split at h
  ·rename_i q
   rw [Bt] at h
   rcases YD.1 h with rfl|h
   ·exact q
   ·exact PV h
  ·simp at h
theorem Hg:∀xs:List Z5,(WB 14 xs).length+(WB 15 xs).length<=xs.length
 | []=>by simp [WB]
 | s::r=>by
  have:=Hg r
  rw [WB,WB]
  by_cases h:s.op=14
  ·rw [Ze h,Z8 om];simp;omega
  ·rw [Z8 h];split<;>simp<;>omega
theorem G8:∀(fs:LI) (q:Int) (D R:LI),(UZ fs q D R).1.length+(UZ fs q D R).2.length<=D.length+R.length+fs.length
 | [],q,D,R=>by simp [UZ]
 | f::r,q,D,R=>by
  rw [UZ,YR]
  split
  ·have:=G8 r (q+1) (D.erase q) R
   have h2:=List.length_erase_le (a:=q) (l:=D)
   omega
  ·split
   ·have:=G8 r (q+1) D (R++[q])
    simp only [Yw,YR,Xu] at this
    omega
   ·have:=G8 r (q+1) D R
    omega
theorem Za6 {xs:List Z5} {x:Int} {fs:LI} {q:Int} (h:x∈WB 15 (xs.take (XT xs))) (hf:fs.length<=3):(Aj xs x fs q).1.length+(Aj xs x fs q).2.length<=XT xs+2:=by
 have h1:=G8 fs q (WB 14 (xs.take (XT xs))) ((WB 15 (xs.take (XT xs))).erase x)
 have h2:=Hg (xs.take (XT xs))
 have h3:=List.length_pos_of_mem h
 rw [List.length_erase_of_mem h] at h1
 rw [WH] at h2
 have h4:=Gi xs
 unfold Aj
 omega
theorem Zdf (xs:List Z5) (k:Nat):Y8 xs=Y8 (xs.take k)+Y8 (xs.drop k):=by rw [<-Ty,Ux]
theorem RH:∀xs:List Z5,(∀s∈xs,2<=s.sz)->2*xs.length<=Y8 xs
 | [],_=>by simp
 | s::r,h=>by
  have h1:=RH r fun t ht=>h t (XB _ ht)
  have h2:=h s (Xh ..)
  rw [Y8,YR];omega
theorem SZ {xs:List Z5} {x:Int} {fs:LI} {q:Int} (hf:fs.length<=3) (h:∀s∈xs,s.op=14∨s.op=15->2<=s.sz):Y8 (AG xs x fs q)<=Y8 xs+6:=by
 rw [AG]
 split
 ·rename_i hc
  have h1:=Za6 (q:=q) hc.1 hf
  have h2:=RH (xs.take (XT xs)) fun s hs=>h s (TX hs) (PV hs)
  have h3:=Zdf xs (XT xs)
  have h4:=Gi xs
  rw [WH] at h2
  rw [Ty,Ty,Ty,LA,LA,Y8,Y8,ER]
  omega
 ·omega
def Cn (s:Z5):Prop:=s=Zx s.op (gI s.args 0)
theorem SY {xs:List Z5} {m:Int} {fs:LI} {q:Int} (h:¬(m∈WB 15 (xs.take (XT xs))/\fs.length≠0)):AG xs m fs q=xs:=Z8 h
end Go.Abs
section
namespace Go.Abs
mutual
def C6 (ds:List Zf) (m:Nat):Z5->Z5
 | .mk op num into args kids=>.mk op num into args (TV ds m op num args kids 0)
def TV (ds:List Zf) (m:Nat) (op num:Int) (args:LI):List Z9->Nat->List Z9
 | [],_=>[]
 | b::r,k=>(if op=8 then Jq (Vg ds (m+(UU ds num k).length) b) (gI args 0) (UU ds num k) m else Vg ds m b)::TV ds m op num args r (k+1)
def Tk (ds:List Zf) (m:Nat):List Z5->List Z5
 | []=>[]
 | s::r=>C6 ds m s::Tk ds (if YC s.op=true then m else m+1) r
def Vg (ds:List Zf) (m:Nat):Z9->Z9
 | .mk steps result=>.mk (Tk ds m steps) result
end
def Gv (ds:List Zf) (m:Nat) (op num:Int) (args:LI) (k:Nat) (b:Z9):Z9:=if op=8 then Jq (Vg ds (m+(UU ds num k).length) b) (gI args 0) (UU ds num k) m else Vg ds m b
theorem Lu (ds:List Zf) (m:Nat) (s:Z5):C6 ds m s=.mk s.op s.num s.into s.args (TV ds m s.op s.num s.args s.kids 0):=by cases s;rw [C6];rfl
theorem Gt (ds:List Zf) (m:Nat) (b:Z9):Vg ds m b=.mk (Tk ds m b.steps) b.result:=by cases b;rw [Vg];rfl
section
variable {ds:List Zf} {m:Nat}
theorem Zcf {xs acc r:List Z5} {k:Nat} {s:Z5} (h:xs[k]? = some s) (ha:acc++Tk ds m (xs.drop k)=r) :
  (acc++[.mk s.op s.num s.into s.args (TV ds m s.op s.num s.args s.kids 0)])++Tk ds (if YC s.op=true then m else m+1) (xs.drop (k+1))=r:=by
 rw [Y7 h,Tk,Lu] at ha
 rw [<-ha];simp
theorem Zce {xs acc r:List Z5} {k:Nat} (h:xs.length<=k) (ha:acc++Tk ds m (xs.drop k)=r):acc=r:=by
 rw [Xi h,Tk,JM] at ha;exact ha
theorem Rg {op num:Int} {args:LI} {bs acc r:List Z9} {k:Nat} {b:Z9} (h:bs[k]? = some b) (ha:acc++TV ds m op num args (bs.drop k) k=r) :
  (acc++[Gv ds m op num args k b])++TV ds m op num args (bs.drop (k+1)) (k+1)=r:=by
 rw [Y7 h,TV] at ha
 rw [<-ha,Gv];simp
theorem Zcb {op num:Int} {args:LI} {bs acc r:List Z9} {k j:Nat} (h:bs.length<=k) (ha:acc++TV ds m op num args (bs.drop k) j=r):acc=r:=by
 rw [Xi h,TV,JM] at ha;exact ha
end
mutual
def wS (ds:List Zf):Z5->Prop
 | .mk op num into args kids=>(XM op=!YC op)/\(YC op=true->num=0/\into=0/\kids=[]/\∃a,args=[a])/\(op=8->(∃a,args=[a]/\0<=a/\a<=900000000)/\kids.length=(ZX ds num).length)/\Ap ds kids
def Ap (ds:List Zf):List Z9->Prop
 | []=>True
 | b::r=>wB ds b/\Ap ds r
def K0 (ds:List Zf):List Z5->Prop
 | []=>True
 | s::r=>wS ds s/\K0 ds r
def wB (ds:List Zf):Z9->Prop
 | .mk steps _=>K0 ds steps
end
section
variable {ds:List Zf}
theorem Jl (s:Z5):wS ds s↔(XM s.op=!YC s.op)/\(YC s.op=true->s.num=0/\s.into=0/\s.kids=[]/\∃a,s.args=[a])/\(s.op=8->(∃a,s.args=[a]/\0<=a/\a<=900000000)/\s.kids.length=(ZX ds s.num).length)/\Ap ds s.kids:=by cases s;rw [wS];rfl
theorem J4 (b:Z9):wB ds b↔K0 ds b.steps:=by cases b;rw [wB];rfl
theorem Aq:∀{xs:List Z5},K0 ds xs↔∀s∈xs,wS ds s
 | []=>by simp [K0]
 | s::r=>by rw [K0,Aq];simp
theorem GN:∀{xs:List Z9},Ap ds xs↔∀s∈xs,wB ds s
 | []=>by simp [Ap]
 | s::r=>by rw [Ap,GN];simp
theorem Sk {b:Z9} {k:Nat} {s:Z5} (h:wB ds b) (hs:b.steps[k]? = some s):wS ds s:=Aq.1 ((J4 b).1 h) s (Y2 hs)
theorem LV {s:Z5} {k:Nat} {b:Z9} (h:wS ds s) (hb:s.kids[k]? = some b):wB ds b:=GN.1 ((Jl s).1 h).2.2.2 b (Y2 hb)
theorem GO {s:Z5} (h:wS ds s) (hc:YC s.op=true):Cn s/\s.kids=[]/\∃a,s.args=[a]:=by
 obtain ⟨h1,h2,h3,a,h4⟩:=((Jl s).1 h).2.1 hc
 refine ⟨?_,h3,a,h4⟩
 cases s with
 | mk op num into args kids=>
  simp only [Z5.num,Z5.into,Z5.kids,Z5.args] at h1 h2 h3 h4
  subst h1 h2 h3 h4
  rfl
theorem Zf8 {op v:Int} (h:op=14∨op=15∨op=16):wS ds (Zx op v):=(Jl _).2 ⟨by show XM op=!YC op;rcases h with rfl|rfl|rfl<;>rfl,fun _=>⟨rfl,rfl,rfl,v,rfl⟩,fun e=>absurd e (show op≠8 by omega),True.intro⟩
theorem Zf9 {s:Z5} (h:wS ds s):XM s.op=!YC s.op:=((Jl s).1 h).1
theorem Er {s:Z5} (h:wS ds s) (h8:s.op=8):(∃a,s.args=[a]/\0<=a/\a<=900000000)/\s.kids.length=(ZX ds s.num).length:=((Jl s).1 h).2.2.1 h8
theorem H0 {xs:List Z5} (h:K0 ds xs):∀s∈xs,YC s.op=true->Cn s:=fun s hs hc=>(GO (Aq.1 h s hs) hc).1
end
section
variable {n:Zk}
end
mutual
def Z5.pz:Z5->Nat
 | .mk _ _ _ args kids=>1+args.length+CX kids
def Z9.pz:Z9->Nat
 | .mk steps _=>1+CY steps
def CY:List Z5->Nat
 | []=>0
 | s::r=>s.pz+CY r
def CX:List Z9->Nat
 | []=>0
 | b::r=>b.pz+8+CX r
end
mutual
theorem Z5.pz_le:∀s:Z5,s.pz<=9*s.sz
 | .mk _ _ _ args kids=>by have:=PA kids;rw [Z5.pz,Z5.sz];omega
theorem Z9.pz_le:∀b:Z9,b.pz+8<=9*b.sz
 | .mk steps _=>by have:=PB steps;rw [Z9.pz,Z9.sz];omega
theorem PB:∀xs:List Z5,CY xs<=9*Y8 xs
 | []=>K3 _
 | s::r=>by have:=s.pz_le;have:=PB r;rw [CY,Y8];omega
theorem PA:∀xs:List Z9,CX xs<=9*X9 xs
 | []=>K3 _
 | s::r=>by have:=s.pz_le;have:=PA r;rw [CX,X9];omega
end
section
variable {ds:List Zf}
theorem Z1l {op:Int} (h:op=14∨op=15):YC op=true:=by rw [YC];simp;omega
theorem Zcg {xs:List Z5}:∀{m:Nat},K0 ds xs->∀s∈Tk ds m xs,s.op=14∨s.op=15->2<=s.sz:=by
 induction xs with
 | nil=>intro m _ s hs;simp [Tk] at hs
 | cons t r ih=>
  intro m h s hs ho
  rw [Tk] at hs
  rcases YD.1 hs with rfl|hs
  ·rw [Lu] at ho ⊢
   obtain ⟨_,_,a,ha⟩:=GO h.1 (Z1l ho)
   rw [Z5.sz,ha];simp
  ·exact ih h.2 s hs ho
variable (hd:WI ds)
include hd
mutual
theorem Zcc:∀(s:Z5) {m:Nat},wS ds s->(C6 ds m s).sz<=s.pz
 | .mk op num into args kids,m,h=>by
  have:=Ri kids (m:=m) (op:=op) (num:=num) (args:=args) (k:=0) h.2.2.2
  rw [C6,Z5.sz,Z5.pz];omega
theorem Ri:∀(bs:List Z9) {m:Nat} {op num:Int} {args:LI} {k:Nat},Ap ds bs->X9 (TV ds m op num args bs k)<=CX bs
 | [],_,_,_,_,_,_=>X5 _
 | b::r,m,op,num,args,k,h=>by
  have h2:=Ri r (m:=m) (op:=op) (num:=num) (args:=args) (k:=k+1) h.2
  rw [TV,X9,CX]
  split
  ·have h1:=Gu b (m:=m+(UU ds num k).length) h.1
   have h3:=SZ (xs:=(Vg ds (m+(UU ds num k).length) b).steps) (x:=gI args 0) (q:=(m:Int)) (Z3u hd num k) (by rw [Gt];exact Zcg ((J4 b).1 h.1))
   rw [Jq,Z9.sz]
   rw [Z9.sz_eq] at h1
   omega
  ·have h1:=Gu b (m:=m) h.1
   omega
theorem Rj:∀(xs:List Z5) {m:Nat},K0 ds xs->Y8 (Tk ds m xs)<=CY xs
 | [],_,_=>X5 _
 | s::r,m,h=>by
  have h1:=Zcc s (m:=m) h.1
  have h2:=Rj r (m:=if YC s.op=true then m else m+1) h.2
  rw [Tk,Y8,CY];omega
theorem Gu:∀(b:Z9) {m:Nat},wB ds b->(Vg ds m b).sz<=b.pz
 | .mk steps result,m,h=>by
  have:=Rj steps (m:=m) h
  rw [Vg,Z9.sz,Z9.pz];omega
end
end
section
variable {ds:List Zf} {m:Nat}
end
def Be (ds:List Zf) (r:Yf):Yf:=⟨r.params,r.lent,r.result,Vg ds r.params.length r.body⟩
def Gw (n:Zk):Zk:=⟨n.decls,n.routines.map (Be n.decls)⟩
end Go.Abs
namespace Go.Abs
theorem Zbf {xs:List Z5} {k:Nat} {s:Z5} {r:Nat} (h:xs[k]? = some s) (hs:s.op=14∨s.op=15) (ha:k+XT (xs.drop k)=r):k+1+XT (xs.drop (k+1))=r:=by
 rw [Y7 h,XT,Ze hs] at ha;omega
theorem Zbg {xs:List Z5} {k:Nat} {s:Z5} {r:Nat} (h:xs[k]? = some s) (hs:¬(s.op=14∨s.op=15)) (ha:k+XT (xs.drop k)=r):k=r:=by
 rw [Y7 h,XT,Z8 hs] at ha;omega
theorem Zbe {xs:List Z5} {k:Nat} {r:Nat} (h:xs.length<=k) (ha:k+XT (xs.drop k)=r):k=r:=by
 rw [Xi h,XT] at ha;omega
theorem Z0a {op:Int} {xs:List Z5} {acc r:LI} {k:Nat} {s:Z5} (h:xs[k]? = some s) (hs:s.op=op) (ha:acc++WB op (xs.drop k)=r):(acc++[gI s.args 0])++WB op (xs.drop (k+1))=r:=by
 rw [Y7 h,WB,Ze hs] at ha;rw [<-ha];simp
theorem Z09 {op:Int} {xs:List Z5} {acc r:LI} {k:Nat} {s:Z5} (h:xs[k]? = some s) (hs:¬s.op=op) (ha:acc++WB op (xs.drop k)=r):acc++WB op (xs.drop (k+1))=r:=by
 rw [Y7 h,WB,Z8 hs] at ha;exact ha
theorem Z08 {op:Int} {xs:List Z5} {acc r:LI} {k:Nat} (h:xs.length<=k) (ha:acc++WB op (xs.drop k)=r):acc=r:=by
 rw [Xi h,WB,JM] at ha;exact ha
theorem Z3q {xs acc r:LI} {y:Int} {k:Nat} {x:Int} {d:Bool} (h:xs[k]? = some x) (ha:acc++(if d=true then xs.drop k else (xs.drop k).erase y)=r) :
  (if x=y/\¬d=true then acc else acc++[x])++(if ((x==y&&!d)||d)=true then xs.drop (k+1) else (xs.drop (k+1)).erase y)=r:=by
 rw [Y7 h] at ha
 rw [<-ha]
 by_cases hd:d=true
 ·simp [hd]
 ·by_cases hx:x=y
  ·simp [hd,hx]
  ·rw [Z8 (fun z=>hx z.1),Z8 hd,List.erase_cons_tail (by simpa using hx)]
   simp [hd,hx]
theorem Z3p {xs acc r:LI} {y:Int} {k:Nat} {d:Bool} (h:xs.length<=k) (ha:acc++(if d=true then xs.drop k else (xs.drop k).erase y)=r):acc=r:=by
 rw [Xi h] at ha;simpa using ha
section
variable {fs D R:LI} {q k:Nat} {f:Int} {r:LI × LI}
theorem Za8 (h:fs[k]? = some f) (h0:f≠0) (hm:((q+k:Nat):Int)∈D) (ha:UZ (fs.drop k) (q+k) D R=r):UZ (fs.drop (k+1)) (q+((k+1:Nat):Int)) (D.erase ((q+k:Nat):Int)) R=r:=by
 rw [Y7 h,UZ,Ze ⟨h0,by rw [<-Int.natCast_add];exact hm⟩,<-Int.natCast_add] at ha
 rw [<-ha];congr 1
theorem Za9 (h:fs[k]? = some f) (h0:f≠0) (hm:¬((q+k:Nat):Int)∈D) (ha:UZ (fs.drop k) (q+k) D R=r):UZ (fs.drop (k+1)) (q+((k+1:Nat):Int)) D (R++[((q+k:Nat):Int)])=r:=by
 rw [Y7 h,UZ,Z8 (fun z=>hm (by rw [Int.natCast_add];exact z.2)),Ze h0,<-Int.natCast_add] at ha
 rw [<-ha];congr 1
theorem Zaa (h:fs[k]? = some f) (h0:¬f≠0) (ha:UZ (fs.drop k) (q+k) D R=r):UZ (fs.drop (k+1)) (q+((k+1:Nat):Int)) D R=r:=by
 rw [Y7 h,UZ,Z8 (fun z=>h0 z.1),Z8 h0] at ha
 rw [<-ha];congr 1
theorem Za7 (h:fs.length<=k) (ha:UZ (fs.drop k) (q+k) D R=r):r=(D,R):=by
 rw [Xi h,UZ] at ha;exact ha.symm
end
theorem Z00 {xs:List Z5} {x:Int} {fs:LI} {q:Int} {D R:LI} (h1:x∈WB 15 (xs.take (XT xs))) (h2:fs.length≠0) (hr:Aj xs x fs q=(D,R)):D.map (Zx 14)++[Zx 16 x]++R.map (Zx 15)++xs.drop (XT xs)=AG xs x fs q:=by
 rw [AG,Ze ⟨h1,h2⟩,hr]
theorem Zcd {ds:List Zf} {xs:List Z5}:∀{m:Nat},K0 ds xs->∀s∈Tk ds m xs,YC s.op=true->∃a,s.args=[a]:=by
 induction xs with
 | nil=>intro m _ s hs;simp [Tk] at hs
 | cons t r ih=>
  intro m h s hs ho
  rw [Tk] at hs
  rcases YD.1 hs with rfl|hs
  ·rw [Lu] at ho ⊢
   exact (GO h.1 ho).2.2
  ·exact ih h.2 s hs ho
end Go.Abs
end
namespace Go.Abs
mutual
def Z1.sz:Z1->Nat
 | .mk _ _ kids=>1+Xx kids
def Xx:List Z1->Nat
 | []=>0
 | e::r=>e.sz+Xx r
end
theorem Z1.sz_eq (e:Z1):e.sz=1+Xx e.kids:=by cases e;rw [Z1.sz];rfl
theorem DB:∀xs ys:List Z1,Xx (xs++ys)=Xx xs+Xx ys
 | [],ys=>by simp [Xx]
 | x::r,ys=>by rw [Qt,Xx,Xx,DB r];omega
theorem BN:∀{xs:List Z1} {k:Nat} {e:Z1},xs[k]? = some e->e.sz<=Xx xs
 | [],k,e,h=>by simp at h
 | x::r,0,e,h=>by simp at h;subst h;rw [Xx];omega
 | x::r,k+1,e,h=>by have:=BN (xs:=r) (k:=k) (by simpa using h);rw [Xx];omega
theorem Nf:∀{xs:List Z1},xs.length<=Xx xs
 | []=>K3 _
 | x::r=>by have:=Nf (xs:=r);have:=x.sz_eq;rw [Xx,YR];omega
def JZ:Zf:=⟨0,0,[⟨[]⟩,⟨[0,1]⟩]⟩
def A0:Zf:=⟨0,0,[⟨[]⟩,⟨[3,0,3]⟩]⟩
def MX:List Zf:=[⟨0,0,[⟨[1,3]⟩]⟩,⟨1,0,[]⟩,⟨0,0,[⟨[1,1,0]⟩,⟨[0]⟩,⟨[3]⟩]⟩,⟨0,1,[]⟩]
def A9:List (List Zf):=[[JZ,⟨0,0,[]⟩,A0],[JZ,⟨0,0,[]⟩,A0,⟨0,0,[⟨[1,3]⟩]⟩],[JZ,⟨0,0,[]⟩,A0,⟨1,0,[]⟩],[JZ,⟨0,0,[]⟩,A0,⟨0,0,[⟨[1,1,0]⟩,⟨[0]⟩,⟨[3]⟩]⟩],[JZ,⟨0,0,[]⟩,A0,⟨0,1,[]⟩]]
def GD (ds:List Zf):Prop:=ds∈A9
theorem GD.ok {ds:List Zf} (h:GD ds):WI ds:=by
 have k:=(by decide:∀ds∈A9,ds.length<=4/\(∀d∈ds,d.cons.length<=3)/\∀d∈ds,∀c∈d.cons,c.fields.length<=3) ds h
 exact ⟨k.1,k.2.1,k.2.2⟩
theorem GD.len {ds:List Zf} (h:GD ds):3<=ds.length/\ds.length<=4:=by
 exact (by decide:∀ds∈A9,3<=ds.length/\ds.length<=4) ds h
def KO (t:Int):Prop:=t=0∨t=1∨t=3
instance (t:Int):Decidable (KO t):=inferInstanceAs (Decidable (_∨_∨_))
theorem GD.low {ds:List Zf} (h:GD ds):ZX ds 0=[]/\ZX ds 1=[0,1]/\ZX ds 2=[]/\ZX ds 3=[2,3]/\ZV ds 0=[]/\ZV ds 1=[0,1]/\ZV ds 2=[]/\ZV ds 3=[3,0,3]:=
 (by decide:∀ds∈A9,ZX ds 0=[]/\ZX ds 1=[0,1]/\ZX ds 2=[]/\ZX ds 3=[2,3]/\ZV ds 0=[]/\ZV ds 1=[0,1]/\ZV ds 2=[]/\ZV ds 3=[3,0,3]) ds h
theorem GD.fields {ds:List Zf} (h:GD ds):∀c∈ZX ds 1++(ZX ds 3++ZX ds 4),∀t∈ZV ds c,KO t:=
 (by decide:∀ds∈A9,∀c∈ZX ds 1++(ZX ds 3++ZX ds 4),∀t∈ZV ds c,KO t) ds h
theorem GD.cons_cases {ds:List Zf} (h:GD ds) {t:Int} {c:Int} (hc:c∈ZX ds t):(0<=c/\c<=9)/\(t=1∨t=3∨t=4)/\(ZV ds c).length<=3/\∀u∈ZV ds c,KO u:=by
 have ht:1<=t/\t<=ds.length:=by
  by_cases q:1<=t/\t<=ds.length
  ·exact q
  ·rw [ZX,Z8 q] at hc;cases hc
 have hl:=h.len
 have hlow:=h.low
 have key:∀c∈ZX ds 1++(ZX ds 3++ZX ds 4),0<=c/\c<=9:=
  (by decide:∀ds∈A9,∀c∈ZX ds 1++(ZX ds 3++ZX ds 4),0<=c/\c<=9) ds h
 have h4:t=1∨t=2∨t=3∨t=4:=by omega
 have hf:=h.fields
 have hd:=U6 h.ok c
 rcases h4 with rfl|rfl|rfl|rfl
 ·exact ⟨key c (Xa.2 (.inl hc)),.inl rfl,hd,hf c (Xa.2 (.inl hc))⟩
 ·rw [hlow.2.2.1] at hc;cases hc
 ·exact ⟨key c (Xa.2 (.inr (Xa.2 (.inl hc)))),.inr (.inl rfl),hd,hf c (Xa.2 (.inr (Xa.2 (.inl hc))))⟩
 ·exact ⟨key c (Xa.2 (.inr (Xa.2 (.inr hc)))),.inr (.inr rfl),hd,hf c (Xa.2 (.inr (Xa.2 (.inr hc))))⟩
def Jp:List (LI × Int):=[([],0),([1],0),([1,1],1),([1],1),([1,0],1),([2,1],1),([1,1],0),([3],0),([0],1),([0,1],1),([3,0],3),([3],1),([1,3,0],0),([0],0),([0,0],0),([1,0],0)]
def TA (f:Func):Prop:=(f.params,f.result)∈Jp
theorem TA.bd {f:Func} (h:TA f):f.params.length<=3/\(∀t∈f.params,0<=t/\t<=3)/\KO f.result:=by
 have key:∀q∈Jp,q.1.length<=3/\(∀t∈q.1,0<=t/\t<=3)/\KO q.2:=by decide
 exact key _ h
theorem TA.clo {ds:List Zf} {f:Func} (hd:GD ds) (h:TA f) (hp:0<Ud ds (gI f.params ((f.params.length:Int)-1)) f.result):∀t∈f.params.dropLast,KO t:=by
 have key:∀q∈Jp,0<Ud ds (gI q.1 ((q.1.length:Int)-1)) q.2->∀t∈q.1.dropLast,KO t:=
  (by decide +kernel:∀ds∈A9,∀q∈Jp,0<Ud ds (gI q.1 ((q.1.length:Int)-1)) q.2->∀t∈q.1.dropLast,KO t) ds hd
 exact key _ h hp
structure GP (p:W8):Prop where
 decls:GD p.decls
 len:1<=p.funcs.length/\p.funcs.length<=4
 sigs:∀f∈p.funcs,TA f
def TT (ds:List Zf) (op num:Int) (m:Nat) (k:Nat):Nat:=
 if op=13 then m+k else if op=8 then (if k=0 then m else m+(ZV ds (gI (ZX ds num) ((k:Int)-1))).length) else m
mutual
def eW (ds:List Zf) (nf:Nat):Nat->Z1->Prop
 | m,.mk op num kids=>(0<=op/\op<=13)/\(op=12->kids=[]/\0<=num/\num<m)/\(op=13->kids.length=2)/\(op=7->kids.length=3)/\(op=8->kids.length=1+(ZX ds num).length)/\(op=9->0<=num/\num<nf)/\(-2000<=num/\num<=2000)/\kids.length<=4 /\
  QD ds nf (TT ds op num m) 0 kids
def QD (ds:List Zf) (nf:Nat) (sc:Nat->Nat):Nat->List Z1->Prop
 | _,[]=>True
 | k,e::r=>eW ds nf (sc k) e/\QD ds nf sc (k+1) r
end
theorem Z3i {ds:List Zf} {nf m:Nat} (e:Z1):eW ds nf m e↔(0<=e.op/\e.op<=13)/\(e.op=12->e.kids=[]/\0<=e.num/\e.num<m)/\(e.op=13->e.kids.length=2)/\(e.op=7->e.kids.length=3)/\(e.op=8->e.kids.length=1+(ZX ds e.num).length)/\(e.op=9->0<=e.num/\e.num<nf)/\(-2000<=e.num/\e.num<=2000)/\e.kids.length<=4 /\
  QD ds nf (TT ds e.op e.num m) 0 e.kids:=by cases e;rw [eW];rfl
theorem Cw {ds:List Zf} {nf:Nat} {sc:Nat->Nat}:∀{xs:List Z1} {j k:Nat} {e:Z1},QD ds nf sc j xs->xs[k]? = some e->eW ds nf (sc (j+k)) e
 | [],j,k,e,_,h=>by simp at h
 | x::r,j,0,e,hw,h=>by simp at h;subst h;exact hw.1
 | x::r,j,k+1,e,hw,h=>by
  have:=Cw (xs:=r) (j:=j+1) (k:=k) hw.2 (by simpa using h)
  rw [show j+(k+1)=j+1+k by omega];exact this
theorem N8 {ds:List Zf} {nf:Nat} {sc:Nat->Nat}:∀{xs ys:List Z1} {j:Nat},QD ds nf sc j (xs++ys)↔QD ds nf sc j xs/\QD ds nf sc (j+xs.length) ys
 | [],ys,j=>by simp [QD]
 | x::r,ys,j=>by
  rw [Qt,QD,QD,N8 (xs:=r),and_assoc,YR,show j+1+r.length=j+(r.length+1) by omega]
theorem HR {ds:List Zf} {nf m:Nat} {sc:Nat->Nat} (hs:∀k,sc k=m):∀{xs:List Z1} {j:Nat},(∀e∈xs,eW ds nf m e)->QD ds nf sc j xs
 | [],_,_=>True.intro
 | x::r,j,h=>⟨by rw [hs];exact h x (Xh ..),HR hs fun e he=>h e (XB _ he)⟩
theorem BM {ds:List Zf} {nf m:Nat} {op num:Int} {kids:List Z1} (ho:0<=op/\op<=11/\op≠7/\op≠8) (hc:op=9->0<=num/\num<nf) (hn:-2000<=num/\num<=2000) (hl:kids.length<=4) (hk:∀e∈kids,eW ds nf m e):eW ds nf m (.mk op num kids):=by
 rw [eW]
 refine ⟨by omega,fun h=>by omega,fun h=>by omega,fun h=>by omega,fun h=>by omega,hc,hn,hl,HR (m:=m) (fun k=>?_) hk⟩
 rw [TT,Z8 om,Z8 om]
theorem Z3j {ds:List Zf} {nf m:Nat} {z:Int} (hz:-2000<=z/\z<=2000):eW ds nf m (.mk 0 z []):=BM om (fun h=>by omega) hz (by simp) (fun e he=>by cases he)
theorem Z3k {ds:List Zf} {nf m:Nat} {z:Int} (hz:0<=z/\z<m) (hm:m<=2000):eW ds nf m (.mk 12 z []):=by
 rw [eW]
 exact ⟨by omega,fun _=>⟨rfl,hz⟩,fun h=>by omega,fun h=>by omega,fun h=>by omega,fun h=>by omega,by omega,by simp,True.intro⟩
theorem N6 {ds:List Zf} {nf m:Nat} {num:Int} {kids:List Z1} (hn:-2000<=num/\num<=2000) (hl:kids.length=3) (hk:∀e∈kids,eW ds nf m e):eW ds nf m (.mk 7 num kids):=by
 rw [eW]
 refine ⟨by omega,fun h=>by omega,fun h=>by omega,fun _=>hl,fun h=>by omega,fun h=>by omega,hn,by omega,HR (m:=m) (fun k=>?_) hk⟩
 rw [TT,Z8 om,Z8 om]
theorem N7 {ds:List Zf} {nf m:Nat} {num:Int} {a b:Z1} (hn:-2000<=num/\num<=2000) (ha:eW ds nf m a) (hb:eW ds nf (m+1) b):eW ds nf m (.mk 13 num [a,b]):=by
 rw [eW]
 exact ⟨by omega,fun h=>by omega,fun _=>rfl,fun h=>by omega,fun h=>by omega,fun h=>by omega,hn,by simp,ha,hb,True.intro⟩
theorem HQ {ds:List Zf} {nf m:Nat} {num:Int} {a:Z1} {arms:List Z1} (hn:-2000<=num/\num<=2000) (h3:arms.length<=3) (hl:arms.length=(ZX ds num).length) (ha:eW ds nf m a) (hk:QD ds nf (TT ds 8 num m) 1 arms):eW ds nf m (.mk 8 num (a::arms)):=by
 rw [eW]
 refine ⟨by omega,fun h=>by omega,fun h=>by omega,fun h=>by omega,fun _=>by rw [YR];omega,fun h=>by omega,hn,by rw [YR];omega,?_,hk⟩
 rw [TT,Z8 om,Ze rfl,Ze rfl]
 exact ha
def bS (b:Nat):Nat:=max 4 (10*b-10)
def bC (b:Nat):Nat:=max 40 (100*b-100)
def YZ:List Z5->Nat
 | []=>0
 | s::r=>(if YC s.op=true then 0 else 1)+YZ r
theorem Jb:∀xs ys:List Z5,YZ (xs++ys)=YZ xs+YZ ys
 | [],ys=>by simp [YZ]
 | x::r,ys=>by rw [Qt,YZ,YZ,Jb r];omega
theorem BJ:∀xs:List Z5,YZ xs<=xs.length
 | []=>X5 _
 | x::r=>by have:=BJ r;rw [YZ,YR];split<;>omega
def Tj (ds:List Zf) (op num:Int) (m:Nat) (k:Nat):Nat:=if op=8 then m+(ZV ds (gI (ZX ds num) k)).length else m
mutual
def fS (ds:List Zf) (nf:Nat):Nat->Z5->Prop
 | m,.mk op num into args kids=>((0<=op/\op<=11)∨(14<=op/\op<=17))/\(∀a∈args,0<=a/\a<m)/\(14<=op->num=0/\into=0/\kids=[]/\∃a,args=[a])/\(op=7->kids.length=2)/\(op=8->kids.length=(ZX ds num).length)/\(op=7∨op=8->∃a,args=[a]) /\
  (op=9->0<=num/\num<nf)/\(-2000<=num/\num<=2000)/\(0<=into/\into<=m)/\args.length<=4/\(op≠7/\op≠8->kids=[])/\TM ds nf (Tj ds op num m) 0 kids
def TM (ds:List Zf) (nf:Nat) (sc:Nat->Nat):Nat->List Z9->Prop
 | _,[]=>True
 | k,b::r=>fB ds nf (sc k) b/\TM ds nf sc (k+1) r
def Tp (ds:List Zf) (nf:Nat):Nat->List Z5->Prop
 | _,[]=>True
 | m,s::r=>fS ds nf m s/\Tp ds nf (if YC s.op=true then m else m+1) r
def fB (ds:List Zf) (nf:Nat):Nat->Z9->Prop
 | m,.mk steps result=>Tp ds nf m steps/\0<=result/\result<(m+YZ steps:Nat)
end
section
variable {ds:List Zf} {nf:Nat}
structure FS (ds:List Zf) (nf m:Nat) (s:Z5):Prop where
 op:(0<=s.op/\s.op<=11)∨(14<=s.op/\s.op<=17)
 args:∀a∈s.args,0<=a/\a<m
 cnt:14<=s.op->s.num=0/\s.into=0/\s.kids=[]/\∃a,s.args=[a]
 k7:s.op=7->s.kids.length=2
 k8:s.op=8->s.kids.length=(ZX ds s.num).length
 one:s.op=7∨s.op=8->∃a,s.args=[a]
 call:s.op=9->0<=s.num/\s.num<nf
 num:-2000<=s.num/\s.num<=2000
 into:0<=s.into/\s.into<=m
 alen:s.args.length<=4
 kn:s.op≠7/\s.op≠8->s.kids=[]
 kids:TM ds nf (Tj ds s.op s.num m) 0 s.kids
theorem Fd {m:Nat} (s:Z5):fS ds nf m s↔FS ds nf m s:=by
 cases s
 rw [fS]
 exact ⟨fun ⟨h1,h2,h3,h4,h5,h6,h7,h8,h9,h10,h11,h12⟩=>⟨h1,h2,h3,h4,h5,h6,h7,h8,h9,h10,h11,h12⟩,fun h=>⟨h.op,h.args,h.cnt,h.k7,h.k8,h.one,h.call,h.num,h.into,h.alen,h.kn,h.kids⟩⟩
theorem DD {m:Nat} (b:Z9):fB ds nf m b↔Tp ds nf m b.steps/\0<=b.result/\b.result<(m+YZ b.steps:Nat):=by cases b;rw [fB];rfl
theorem DE {sc:Nat->Nat}:∀{xs:List Z9} {j k:Nat} {b:Z9},TM ds nf sc j xs->xs[k]? = some b->fB ds nf (sc (j+k)) b
 | [],j,k,b,_,h=>by simp at h
 | x::r,j,0,b,hw,h=>by simp at h;subst h;exact hw.1
 | x::r,j,k+1,b,hw,h=>by
  have:=DE (xs:=r) (j:=j+1) (k:=k) hw.2 (by simpa using h)
  rw [show j+(k+1)=j+1+k by omega];exact this
theorem Nh {sc:Nat->Nat}:∀{xs ys:List Z9} {j:Nat},TM ds nf sc j (xs++ys)↔TM ds nf sc j xs/\TM ds nf sc (j+xs.length) ys
 | [],ys,j=>by simp [TM]
 | x::r,ys,j=>by
  rw [Qt,TM,TM,Nh (xs:=r),and_assoc,YR,show j+1+r.length=j+(r.length+1) by omega]
theorem Ni {sc:Nat->Nat} {xs:List Z9} {b:Z9} (h:TM ds nf sc 0 xs) (hb:fB ds nf (sc xs.length) b):TM ds nf sc 0 (xs++[b]):=
 Nh.2 ⟨h,by rw [Vc];exact hb,True.intro⟩
theorem Cy:∀{xs ys:List Z5} {m:Nat},Tp ds nf m (xs++ys)↔Tp ds nf m xs/\Tp ds nf (m+YZ xs) ys
 | [],ys,m=>by simp [Tp,YZ]
 | x::r,ys,m=>by
  rw [Qt,Tp,Tp,Cy (xs:=r),and_assoc,YZ]
  by_cases h:YC x.op=true
  ·rw [Ze h,Ze h,Vc]
  ·rw [Z8 h,Z8 h,Au]
theorem Fe {xs:List Z5} {s:Z5} {m:Nat} (h:Tp ds nf m xs) (hs:fS ds nf (m+YZ xs) s):Tp ds nf m (xs++[s]):=Cy.2 ⟨h,hs,True.intro⟩
theorem DF:∀{xs:List Z5} {k m:Nat} {s:Z5},Tp ds nf m xs->xs[k]? = some s->fS ds nf (m+YZ (xs.take k)) s
 | [],k,m,s,_,h=>by simp at h
 | x::r,0,m,s,hw,h=>by simp at h;subst h;exact hw.1
 | x::r,k+1,m,s,hw,h=>by
  have:=DF (xs:=r) (k:=k) hw.2 (by simpa using h)
  rw [Bt,YZ]
  by_cases hc:YC x.op=true
  ·rw [Ze hc] at this ⊢;rw [Vc];exact this
  ·rw [Z8 hc] at this ⊢;rw [<-Au];exact this
mutual
theorem Zfb:∀(s:Z5) {m:Nat},fS ds nf m s->m+4*s.sz<=900000000->WI ds->wS ds s
 | .mk op num into args kids,m,h,hb,hd=>by
  rw [fS] at h
  obtain ⟨h1,h2,h3,h4,h5,h6,h7,h8,h9,h10,h11,h12⟩:=h
  rw [Z5.sz] at hb
  rw [wS]
  refine ⟨?_,fun hc=>h3 (show 14<=op/\op<=17 by simpa [YC] using hc).1,fun h8'=>⟨?_,h5 h8'⟩,Sm kids h12 (fun k=>?_) hd⟩
  ·rcases h1 with h1|h1
   ·have e1:YC op=false:=by simp [YC];omega
    have e2:XM op=true:=by simp [XM];omega
    rw [e1,e2];rfl
   ·have e1:YC op=true:=by simp [YC];omega
    have e2:XM op=false:=by simp [XM];omega
    rw [e1,e2];rfl
  ·obtain ⟨a,ha⟩:=h6 (.inr h8')
   have:=h2 a (by rw [ha];exact XC.2 rfl)
   exact ⟨a,ha,by omega⟩
  ·have hf:=U6 hd (gI (ZX ds num) k)
   show Tj ds op num m k+4*X9 kids<=900000003
   rw [Tj];split<;>omega
theorem Sm:∀(bs:List Z9) {sc:Nat->Nat} {k:Nat},TM ds nf sc k bs->(∀k,sc k+4*X9 bs<=900000003)->WI ds->Ap ds bs
 | [],_,_,_,_,_=>True.intro
 | b::r,sc,k,h,hb,hd=>by
  have hp:=b.sz_eq
  exact ⟨Sl b h.1 (by have:=hb k;rw [X9] at this;omega) hd,Sm r h.2 (fun j=>by have:=hb j;rw [X9] at this;omega) hd⟩
theorem Sn:∀(xs:List Z5) {m:Nat},Tp ds nf m xs->m+4*Y8 xs<=900000000->WI ds->K0 ds xs
 | [],_,_,_,_=>True.intro
 | s::r,m,h,hb,hd=>by
  rw [Y8] at hb
  have hp:=s.sz_pos
  refine ⟨Zfb s h.1 om hd,Sn r h.2 ?_ hd⟩
  split<;>omega
theorem Sl:∀(b:Z9) {m:Nat},fB ds nf m b->m+4*b.sz<=900000004->WI ds->wB ds b
 | .mk steps result,m,h,hb,hd=>by
  rw [Z9.sz] at hb
  rw [fB] at h
  rw [wB]
  exact Sn steps h.1 om hd
end
mutual
theorem Zav:∀(s:Z5) {m:Nat},fS ds nf m s->s.rng
 | .mk op num into args kids,m,h=>by
  rw [fS] at h
  obtain ⟨h1,h2,h3,h4,h5,h6,h7,h8,h9,h10,h11,h12⟩:=h
  rw [Z5.rng]
  exact ⟨by omega,PH kids h12⟩
theorem PH:∀(bs:List Z9) {sc:Nat->Nat} {k:Nat},TM ds nf sc k bs->Qy bs
 | [],_,_,_=>True.intro
 | b::r,sc,k,h=>⟨L9 b h.1,PH r h.2⟩
theorem PI:∀(xs:List Z5) {m:Nat},Tp ds nf m xs->Uv xs
 | [],_,_=>True.intro
 | s::r,m,h=>⟨Zav s h.1,PI r h.2⟩
theorem L9:∀(b:Z9) {m:Nat},fB ds nf m b->b.rng
 | .mk steps result,m,h=>by rw [fB] at h;rw [Z9.rng];exact PI steps h.1
end
end
structure FN (n:Zk) (q:Nat):Prop where
 decls:GD n.decls
 len:1<=n.routines.length/\n.routines.length<=4
 sigs:∀r∈n.routines,(r.params,r.result)∈Jp
 lent:∀r∈n.routines,r.lent.length<=3/\∀i∈r.lent,0<=i/\i<r.params.length
 body:∀r∈n.routines,fB n.decls n.routines.length r.params.length r.body/\r.body.sz<=q
theorem FN.ok {n:Zk} {q:Nat} (h:FN n q):X4 n:=
 ⟨h.decls.ok,h.len.2,fun r hr=>(TA.bd (f:=⟨r.params,r.result,default⟩) (h.sigs r hr)).1,fun r hr=>by have:=(h.lent r hr).1;omega⟩
def Pk (n k:Int):Prop:=0<=k/\(0<n->k<n)/\(n<=0->k=0)
theorem Pk.lt {n k:Int} (h:Pk n k) (hn:0<n):0<=k/\k<n:=⟨h.1,h.2.1 hn⟩
theorem Pk.zero {n:Int}:Pk n 0:=⟨Int.le_refl _,fun h=>h,fun _=>rfl⟩
theorem Pk.rem {n a:Int} (ha:0<=a) (hn:0<n):Pk n (a % n):=⟨Int.emod_nonneg _ om,fun _=>Int.emod_lt_of_pos _ hn,fun _=>by omega⟩
def AD (ds:List Zf):Prop:=ds.length<=8/\∀d∈ds,d.cons.length<=4/\∀c∈d.cons,c.fields.length<=4
theorem GD.ad {ds:List Zf} (h:GD ds):AD ds:=(by decide:∀ds∈A9,ds.length<=8/\∀d∈ds,d.cons.length<=4/\∀c∈d.cons,c.fields.length<=4) ds h
theorem AD.set {ds:List Zf} (h:AD ds) (k:Nat) {d:Zf} (hd:d.cons.length<=4/\∀c∈d.cons,c.fields.length<=4):AD (ds.set k d):=
 ⟨by rw [Uw];exact h.1,fun x hx=>(List.mem_or_eq_of_mem_set hx).elim (h.2 x) fun e=>by rw [e];exact hd⟩
theorem AD.app {ds es:List Zf} (h:AD ds) (hl:ds.length+es.length<=8) (hd:∀d∈es,d.cons.length<=4/\∀c∈d.cons,c.fields.length<=4):AD (ds++es):=
 ⟨by rw [Yw];exact hl,fun x hx=>(Xa.1 hx).elim (h.2 x) (hd x)⟩
theorem GD.three:GD [JZ,⟨0,0,[]⟩,A0]:=List.Mem.head _
theorem GD.four:∀{k:Nat} {x:Zf},MX[k]? = some x->GD ([JZ,⟨0,0,[]⟩,A0]++[x])
 | 0,x,h=>by cases h;exact .tail _ (.head _)
 | 1,x,h=>by cases h;exact .tail _ (.tail _ (.head _))
 | 2,x,h=>by cases h;exact .tail _ (.tail _ (.tail _ (.head _)))
 | 3,x,h=>by cases h;exact .tail _ (.tail _ (.tail _ (.tail _ (.head _))))
 | k+4,x,h=>by simp [MX] at h
theorem B6 {l:LI} {z a b:Int} (h:z∈l) (hl:l.all (fun x=>decide (a<=x/\x<=b))=true):a<=z/\z<=b:=by
 have:=Jm.1 hl z h
 exact of_decide_eq_true this
def rk (t:Int):Nat:=if KO t then 0 else 1
theorem L8 (t:Int):rk t<=1:=by rw [rk];split<;>omega
theorem PG {t:Int} (h:KO t):rk t=0:=Ze h
def SE (g:W8) (q:Nat) (e:Z1):Prop:=(∀m,eW g.decls g.funcs.length m e)/\e.sz<=q
def GE (g:W8) (m q:Nat) (e:Z1):Prop:=eW g.decls g.funcs.length m e/\e.sz<=q
theorem SE.ge {g:W8} {q q' m:Nat} {e:Z1} (h:SE g q e) (hq:q<=q'):GE g m q' e:=⟨h.1 m,VK h.2 hq⟩
theorem GE.le {g:W8} {m q q':Nat} {e:Z1} (h:GE g m q e) (hq:q<=q'):GE g m q' e:=⟨h.1,VK h.2 hq⟩
theorem Fc {m:Nat}:∀{xs:List Z1},(∀e∈xs,e.sz<=m)->Xx xs<=xs.length*m
 | [],_=>K3 _
 | x::r,h=>by
  have h1:=h x (Xh ..)
  have h2:=Fc (xs:=r) fun e he=>h e (XB _ he)
  rw [Xx,YR,Qe];omega
theorem Xz {α:Type} {p:α->Prop} {xs:List α} {a:α} (h:∀x∈xs,p x) (ha:p a):∀x∈xs++[a],p x:=fun x hx=>(Xa.1 hx).elim (h x) fun q=>by rw [XC.1 q];exact ha
theorem SE.int {g:W8} {z:Int} {q:Nat} (hz:-2000<=z/\z<=2000) (hq:1<=q):SE g q (.mk 0 z []):=⟨fun _=>Z3j hz,by simpa [Z1.sz,Xx] using hq⟩
theorem SE.node {g:W8} {op num:Int} {ys:List Z1} {q k:Nat} (ho:op=6∨op=10) (hn:0<=num/\num<=2000) (hy:∀e∈ys,SE g 1 e) (hl:ys.length<=k) (hk:k<=3) (hq:1+k<=q):SE g q (.mk op num ys):=by
 refine ⟨fun m=>BM om (fun h=>by omega) om om fun e he=>(hy e he).1 m,?_⟩
 have:=Fc (xs:=ys) (m:=1) fun e he=>(hy e he).2
 rw [Z1.sz];omega
def Az (ds:List Zf) (t c:Int):Prop:=(0<=c/\c<=9)/\(ZV ds c).length<=3*rk t/\∀u∈ZV ds c,KO u
instance (ds:List Zf) (t c:Int):Decidable (Az ds t c):=inferInstanceAs (Decidable (_/\_/\_))
theorem R6 {ds:List Zf} (h:GD ds):∀t∈[(1:Int),2,3,4],∀c∈ZX ds t,(t∈ZV ds c->∀c0,(ZX ds t)[0]? = some c0->Az ds t c0)/\(¬t∈ZV ds c->Az ds t c):=by
 intro t ht c hc
 have k1:=(by decide:∀ds∈A9,∀t∈[(1:Int),2,3,4],∀c∈ZX ds t,(t∈ZV ds c->Az ds t (gI (ZX ds t) 0))/\(¬t∈ZV ds c->Az ds t c)) ds h t ht c hc
 refine ⟨fun q c0 h0=>?_,k1.2⟩
 have:=k1.1 q
 rwa [Vh (i:=0) h0] at this
theorem MU {ds:List Zf} (h:GD ds) {t c:Int} (hc:c∈ZX ds t):t∈[(1:Int),2,3,4]:=by
 obtain ⟨_,h2,_⟩:=h.cons_cases hc
 rcases h2 with rfl|rfl|rfl<;>simp
theorem Zbt {ds:List Zf} (h:GD ds) {t c c0:Int} (hc:c∈ZX ds t) (ht:t∈ZV ds c) (h0:(ZX ds t)[0]? = some c0):Az ds t c0:=(R6 h t (MU h hc) c hc).1 ht c0 h0
theorem Zbs {ds:List Zf} (h:GD ds) {t c:Int} (hc:c∈ZX ds t) (ht:¬t∈ZV ds c):Az ds t c:=(R6 h t (MU h hc) c hc).2 ht
theorem Zau {ds:List Zf} (h:GD ds) {t:Int} (h0:(ZX ds t).length=0) (ht:0<t):rk t=1:=by
 rw [rk,Z8]
 rintro (q|q|q)
 ·omega
 ·rw [q,h.low.2.1] at h0;cases h0
 ·rw [q,h.low.2.2.2.1] at h0;cases h0
def JO (g:W8) (t i:Int):Prop:=0<=i/\∃f,g.funcs[i.toNat]? = some f/\0<f.params.length/\Ud g.decls (gI f.params ((f.params.length:Int)-1)) f.result=t
theorem JO.lt {g:W8} {t i:Int} (h:JO g t i):0<=i/\i<g.funcs.length:=by
 obtain ⟨h1,f,h2,_⟩:=h
 have:=(Xp.1 h2).1
 omega
theorem JO.mk {g:W8} {t x2:Int} {k:Nat} {f:Func} (hf:g.funcs[k]? = some f) (hl:0<f.params.length) (hx:f.params[f.params.length-1]? = some x2) (ha:Ud g.decls x2 f.result=t):JO g t (k:Int):=by
 refine ⟨by omega,f,by simpa using hf,hl,?_⟩
 rw [Vh (i:=(f.params.length:Int)-1) (by rw [show ((f.params.length:Int)-1).toNat=f.params.length-1 by omega];exact hx)]
 exact ha
theorem JO.low {g:W8} {t i u:Int} {f:Func} {j:Nat} (hg:GP g) (h:JO g t i) (ht:0<t) (hf:g.funcs[i.toNat]? = some f) (hj:j+1<f.params.length) (hu:f.params[j]? = some u):rk u=0:=by
 obtain ⟨_,f',h2,_,h4⟩:=h
 have e:f'=f:=Tz (h2.symm.trans hf)
 subst e
 have h5:=(hg.sigs f' (Y2 hf)).clo hg.decls (by rw [h4];exact ht)
 refine PG (h5 u ?_)
 rw [List.dropLast_eq_take]
 exact Y2 (i:=j) (by rw [List.getElem?_take_of_lt om];exact hu)
end Go.Abs
section
namespace Go.Abs
theorem Ju (b:Nat):bS b=max 4 (10*b-10):=rfl
theorem Jt (b:Nat):bC b=max 40 (100*b-100):=rfl
theorem DZ {L q b:Nat} (hL:L<=3) (hb:3<=b) (hq:L*q<=b-1):1+L*bS q<=bS b:=by
 rw [Ju,Ju]
 have:L=0∨L=1∨L=2∨L=3:=by omega
 rcases this with rfl|rfl|rfl|rfl<;>omega
theorem Z9c {L q b:Nat} (hL:L<=3) (hb:3<=b) (hq:L*q<=b-2):5+L*bS q<=bS b:=by
 rw [Ju,Ju]
 have:L=0∨L=1∨L=2∨L=3:=by omega
 rcases this with rfl|rfl|rfl|rfl<;>omega
theorem Z96 {b:Nat} (hb:3<=b):1+(bS (b / 2)+bS (b / 2))<=bS b:=by rw [Ju,Ju];omega
theorem Z02 {b:Nat} (hb:3<=b):5+bS (b-2)<=bS b:=by rw [Ju,Ju];omega
theorem Ai {L q b:Nat} (hL:L<=3) (hb:3<=b) (hq:L*q<=b-1):10+L*bC q<=bC b:=by
 rw [Jt,Jt]
 have:L=0∨L=1∨L=2∨L=3:=by omega
 rcases this with rfl|rfl|rfl|rfl<;>omega
theorem Z9b {L q b:Nat} (hL:L<=3) (hb:3<=b) (hq:L*q<=b-2):40+L*bC q<=bC b:=by
 rw [Jt,Jt]
 have:L=0∨L=1∨L=2∨L=3:=by omega
 rcases this with rfl|rfl|rfl|rfl<;>omega
theorem Z95 {b:Nat} (hb:3<=b):10+(bC (b / 2)+bC (b / 2))<=bC b:=by rw [Jt,Jt];omega
theorem Z01 {b:Nat} (hb:3<=b):40+bC (b-2)<=bC b:=by rw [Jt,Jt];omega
theorem Mv (b:Nat):4<=bS b:=by rw [Ju];omega
theorem Mu (b:Nat):40<=bC b:=by rw [Jt];omega
theorem Q1 (L b:Nat):L*(b / L)<=b:=Nat.mul_div_le b L
theorem P3 {k L C:Nat} (h:k<L):(k+1)*C=k*C+C/\(k+1)*C<=L*C:=⟨by rw [Qe,Nat.one_mul],Qu C h⟩
theorem D3 {ds:List Zf} {d x:Int} {m k:Nat} (h:(ZX ds d)[k]? = some x):TT ds 8 d m (1+k)=m+(ZV ds x).length:=by
 rw [TT,Z8 om,Ze rfl,Z8 om,Vh (i:=((1+k:Nat):Int)-1) (by rw [show (((1+k:Nat):Int)-1).toNat=k by omega];exact h)]
section
variable {g:W8} {m:Nat}
theorem GE.var {z:Int} {q:Nat} (hz:0<=z/\z<m) (hm:m<=2000) (hq:1<=q):GE g m q (.mk 12 z []):=⟨Z3k hz hm,by simpa [Z1.sz,Xx] using hq⟩
theorem GE.list {ys:List Z1} {L s:Nat} (h:∀e∈ys,GE g m s e) (hl:ys.length=L):Xx ys<=L*s:=by rw [<-hl];exact Fc fun e he=>(h e he).2
theorem GE.node {op num:Int} {ys:List Z1} {L s q:Nat} (ho:0<=op/\op<=11/\op≠7/\op≠8) (hc:op=9->0<=num/\num<g.funcs.length) (hn:-2000<=num/\num<=2000) (h:∀e∈ys,GE g m s e) (hl:ys.length=L) (hL:L<=3) (hq:1+L*s<=q):GE g m q (.mk op num ys):=by
 have:=GE.list h hl
 exact ⟨BM ho hc hn om fun e he=>(h e he).1,by rw [Z1.sz];omega⟩
theorem GE.if_ {num:Int} {ys:List Z1} {s q:Nat} (hn:-2000<=num/\num<=2000) (h:∀e∈ys,GE g m s e) (hl:ys.length=3) (hq:1+3*s<=q):GE g m q (.mk 7 num ys):=by
 have:=GE.list h hl
 exact ⟨N6 hn hl fun e he=>(h e he).1,by rw [Z1.sz];omega⟩
theorem GE.let_ {a b:Z1} {s q:Nat} (ha:GE g m s a) (hb:GE g (m+1) s b) (hq:1+(s+s)<=q):GE g m q (.mk 13 0 [a,b]):=by
 refine ⟨N7 om ha.1 hb.1,?_⟩
 have h1:=ha.2
 have h2:=hb.2
 simp only [Z1.sz,Xx];omega
theorem GE.two {op num:Int} {a b:Z1} {s1 s2 q:Nat} (ho:0<=op/\op<=11/\op≠7/\op≠8/\op≠9) (hn:-2000<=num/\num<=2000) (ha:GE g m s1 a) (hb:GE g m s2 b) (hq:1+(s1+s2)<=q):GE g m q (.mk op num [a,b]):=by
 refine ⟨BM om (fun h=>by omega) hn (by simp) fun e he=>?_,?_⟩
 ·rcases YD.1 he with rfl|he
  ·exact ha.1
  ·rw [XC.1 he];exact hb.1
 ·have h1:=ha.2
  have h2:=hb.2
  simp only [Z1.sz,Xx];omega
theorem GE.match_ {d:Int} {e:Z1} {ys:List Z1} {L s q:Nat} (hd:-2000<=d/\d<=2000) (he:GE g m 4 e) (hw:QD g.decls g.funcs.length (TT g.decls 8 d m) 1 ys) (hs:∀e∈ys,e.sz<=s) (hl:ys.length=L) (hL:L=(ZX g.decls d).length) (h3:L<=3) (hq:5+L*s<=q):GE g m q (.mk 8 d (e::ys)):=by
 refine ⟨HQ hd om om he.1 hw,?_⟩
 have h1:=Fc hs
 rw [hl] at h1
 have h2:=he.2
 rw [Z1.sz,Xx];omega
end
def NL (s:Nat) (left w:Int):Prop:=((s:Int)<=left/\w=left-s)∨(left<s/\w=-1)
end Go.Abs
namespace Go.Abs
theorem BX {L b p pp M:Nat} (hL:L<=3) (hb:3<=b) (h:pp<=p+8) (hp:p+(bC b-1)<=M):pp+L*bC ((b-1) / L)<=M:=by
 have:=Ai hL hb (Q1 L (b-1))
 omega
end Go.Abs
end
namespace Go.Abs
theorem Z3r (a b:Z1):Xx [a,b]=a.sz+b.sz:=by simp only [Xx];omega
theorem Fb (a b c:Z1):Xx [a,b,c]=a.sz+b.sz+c.sz:=by simp only [Xx];omega
theorem Dr:bS 3=20/\bS 4=30/\bS 12=110/\bS 16=150/\bS 18=170/\bC 3=200/\bC 4=300/\bC 16=1500:=by decide
theorem EG {b:Nat} (h:b<=20):bS b<=190/\bC b<=1900/\(b<=2->bS b<=10):=by rw [Ju,Jt];omega
section
variable {g:W8} {m:Nat}
theorem SE.ofs {op num:Int} {ys:List Z1} {q:Nat} (ho:0<=op/\op<=11/\op≠7/\op≠8/\op≠9) (hn:-2000<=num/\num<=2000) (hl:ys.length<=4) (hy:∀e∈ys,∃s,SE g s e) (hq:1+Xx ys<=q):SE g q (.mk op num ys):=
 ⟨fun m=>BM om (fun h=>by omega) hn hl fun e he=>let ⟨_,h⟩:=hy e he;h.1 m,by rw [Z1.sz];exact hq⟩
theorem SE.nil {op num:Int} {q:Nat} (ho:0<=op/\op<=11/\op≠7/\op≠8/\op≠9) (hn:-2000<=num/\num<=2000) (hq:1<=q):SE g q (.mk op num []):=
 SE.ofs ho hn (by simp) (fun e he=>by cases he) (by simpa [Xx] using hq)
theorem SE.two {op num:Int} {a b:Z1} {s1 s2 q:Nat} (ho:0<=op/\op<=11/\op≠7/\op≠8/\op≠9) (hn:-2000<=num/\num<=2000) (ha:SE g s1 a) (hb:SE g s2 b) (hq:1+(s1+s2)<=q):SE g q (.mk op num [a,b]):=by
 refine SE.ofs ho hn (by simp) (fun e he=>?_) ?_
 ·rcases YD.1 he with rfl|he
  ·exact ⟨_,ha⟩
  ·rw [XC.1 he];exact ⟨_,hb⟩
 ·have h1:=ha.2
  have h2:=hb.2
  rw [Z3r];omega
theorem SE.three {op num:Int} {a b c:Z1} {s1 s2 s3 q:Nat} (ho:0<=op/\op<=11/\op≠7/\op≠8/\op≠9) (hn:-2000<=num/\num<=2000) (ha:SE g s1 a) (hb:SE g s2 b) (hc:SE g s3 c) (hq:1+(s1+s2+s3)<=q):SE g q (.mk op num [a,b,c]):=by
 refine SE.ofs ho hn (by simp) (fun e he=>?_) ?_
 ·rcases YD.1 he with rfl|he
  ·exact ⟨_,ha⟩
  ·rcases YD.1 he with rfl|he
   ·exact ⟨_,hb⟩
   ·rw [XC.1 he];exact ⟨_,hc⟩
 ·have h1:=ha.2
  have h2:=hb.2
  have h3:=hc.2
  rw [Fb];omega
theorem GE.int {z:Int} {q:Nat} (hz:-2000<=z/\z<=2000) (hq:1<=q):GE g m q (.mk 0 z []):=(SE.int (g:=g) (q:=q) hz hq).ge (X5 _)
theorem GE.three {op num:Int} {a b c:Z1} {s1 s2 s3 q:Nat} (ho:0<=op/\op<=11/\op≠8/\op≠9) (hn:-2000<=num/\num<=2000) (ha:GE g m s1 a) (hb:GE g m s2 b) (hc:GE g m s3 c) (hq:1+(s1+s2+s3)<=q):GE g m q (.mk op num [a,b,c]):=by
 have hk:∀e∈[a,b,c],eW g.decls g.funcs.length m e:=fun e he=>by
  rcases YD.1 he with rfl|he
  ·exact ha.1
  ·rcases YD.1 he with rfl|he
   ·exact hb.1
   ·rw [XC.1 he];exact hc.1
 refine ⟨?_,?_⟩
 ·by_cases h7:op=7
  ·subst h7;exact N6 hn rfl hk
  ·exact BM om (fun h=>by omega) hn (by simp) hk
 ·have h1:=ha.2
  have h2:=hb.2
  have h3:=hc.2
  rw [Z1.sz,Fb];omega
theorem GE.one {op num:Int} {a:Z1} {s1 q:Nat} (ho:0<=op/\op<=11/\op≠7/\op≠8/\op≠9) (hn:-2000<=num/\num<=2000) (ha:GE g m s1 a) (hq:1+s1<=q):GE g m q (.mk op num [a]):=by
 refine ⟨BM om (fun h=>by omega) hn (by simp) fun e he=>?_,?_⟩
 ·rw [XC.1 he];exact ha.1
 ·have h1:=ha.2
  simp only [Z1.sz,Xx];omega
theorem GE.letS {a b:Z1} {s1 s2 q:Nat} (ha:GE g m s1 a) (hb:GE g (m+1) s2 b) (hq:1+(s1+s2)<=q):GE g m q (.mk 13 0 [a,b]):=by
 refine ⟨N7 om ha.1 hb.1,?_⟩
 have h1:=ha.2
 have h2:=hb.2
 simp only [Z1.sz,Xx];omega
theorem GE.matchL (hg:GP g) {e a b:Z1} {s1 s2 s3 q:Nat} (he:GE g m s1 e) (ha:GE g m s2 a) (hb:GE g (m+2) s3 b) (hq:1+(s1+s2+s3)<=q):GE g m q (.mk 8 1 [e,a,b]):=by
 have hl:=hg.decls.low
 refine ⟨HQ om (by simp) (by rw [hl.2.1];rfl) he.1 ⟨?_,?_,True.intro⟩,?_⟩
 ·rw [D3 (k:=0) (x:=0) (by rw [hl.2.1];rfl),hl.2.2.2.2.1];exact ha.1
 ·rw [D3 (k:=1) (x:=1) (by rw [hl.2.1];rfl),hl.2.2.2.2.2.1];exact hb.1
 ·have h1:=he.2
  have h2:=ha.2
  have h3:=hb.2
  rw [Z1.sz,Fb];omega
theorem GE.matchT (hg:GP g) {e a b:Z1} {s1 s2 s3 q:Nat} (he:GE g m s1 e) (ha:GE g m s2 a) (hb:GE g (m+3) s3 b) (hq:1+(s1+s2+s3)<=q):GE g m q (.mk 8 3 [e,a,b]):=by
 have hl:=hg.decls.low
 refine ⟨HQ om (by simp) (by rw [hl.2.2.2.1];rfl) he.1 ⟨?_,?_,True.intro⟩,?_⟩
 ·rw [D3 (k:=0) (x:=2) (by rw [hl.2.2.2.1];rfl),hl.2.2.2.2.2.2.1];exact ha.1
 ·rw [D3 (k:=1) (x:=3) (by rw [hl.2.2.2.1];rfl),hl.2.2.2.2.2.2.2];exact hb.1
 ·have h1:=he.2
  have h2:=ha.2
  have h3:=hb.2
  rw [Z1.sz,Fb];omega
theorem He {α:Type} {p:α->Prop} {a:α} (h:p a):∀x∈[a],p x:=fun x hx=>by rw [XC.1 hx];exact h
end
structure H2 (g:W8):Prop where
 gp:GP g
 body:∀f∈g.funcs,eW g.decls g.funcs.length f.params.length f.body/\f.body.sz<=30
structure GL (ds:List Zf) (k j:Nat) (rq:List Func):Prop where
 len:rq.length=4
 sigs:∀f∈rq,TA f
 zero:∀f,rq[0]? = some f->f.params.length=0
 body:∀i f,j<=i->i<k->rq[i]? = some f->eW ds k f.params.length f.body/\f.body.sz<=30
theorem GL.gp {ds:List Zf} {k j:Nat} {rq:List Func} (h:GL ds k j rq) (hd:GD ds) (hk:1<=k/\k<=4):GP ⟨ds,rq.take k⟩:=
 ⟨hd,by show 1<=(rq.take k).length/\_;rw [WH,h.len];omega,fun f hf=>h.sigs f (TX hf)⟩
theorem GL.len_take {ds:List Zf} {k j:Nat} {rq:List Func} (h:GL ds k j rq) (hk:k<=4):(rq.take k).length=k:=by rw [WH,h.len];omega
theorem GL.set {ds:List Zf} {k j:Nat} {rq:List Func} {f:Func} {e:Z1} (h:GL ds k j rq) (hj:1<=j) (hf:rq[j-1]? = some f) (he:eW ds k f.params.length e/\e.sz<=30):GL ds k (j-1) (rq.set (j-1) ⟨f.params,f.result,e⟩):=by
 have hl:=(Xp.1 hf).1
 refine ⟨by rw [Uw];exact h.len,fun x hx=>?_,fun x hx=>?_,fun i x h1 h2 hx=>?_⟩
 ·rcases List.mem_or_eq_of_mem_set hx with hx|rfl
  ·exact h.sigs x hx
  ·exact h.sigs f (Y2 hf)
 ·rw [List.getElem?_set] at hx
  split at hx
  ·rename_i h0
   cases hx
   exact h.zero f (by rw [<-h0];exact hf)
  ·exact h.zero x hx
 ·rw [List.getElem?_set] at hx
  split at hx
  ·cases hx
   exact he
  ·exact h.body i x om h2 hx
theorem GL.done {ds:List Zf} {k:Nat} {rq:List Func} (h:GL ds k 0 rq) (hd:GD ds) (hk:1<=k/\k<=4):H2 ⟨ds,rq.take k⟩:=by
 refine ⟨h.gp hd hk,fun f hf=>?_⟩
 show eW ds (rq.take k).length _ _/\_
 rw [h.len_take hk.2]
 obtain ⟨i,hi⟩:=M0 hf
 have hi2:i<(rq.take k).length:=(Xp.1 hi).1
 rw [h.len_take hk.2] at hi2
 rw [List.getElem?_take_of_lt hi2] at hi
 exact h.body i f om hi2 hi
theorem Lo {l:List Func} {f:Func} {k:Nat} (h:l[k]? = some f) (hl:l.all (fun f=>decide ((f.params,f.result)∈Jp))=true):TA f:=show (f.params,f.result)∈Jp from of_decide_eq_true (Jm.1 hl f (Y2 h))
theorem GL.start {ds:List Zf} {k:Nat} {e:Z1} {a b c:Func} (ha:TA a) (hb:TA b) (hc:TA c):GL ds k k [⟨[],0,e⟩,a,b,c]:=by
 refine ⟨rfl,fun f hf=>?_,fun f hf=>?_,fun i f h1 h2=>by omega⟩
 ·rcases YD.1 hf with rfl|hf
  ·exact List.Mem.head _
  ·rcases YD.1 hf with rfl|hf
   ·exact ha
   ·rcases YD.1 hf with rfl|hf
    ·exact hb
    ·rw [XC.1 hf];exact hc
 ·cases hf;rfl
theorem Z9p {l:LI} {k:Nat} {a b:Nat} (h:(k:Int)∈l) (hl:l.all (fun x=>decide ((a:Int)<=x/\x<=b))=true):a<=k/\k<=b:=by
 have:=of_decide_eq_true (Jm.1 hl _ h)
 omega
mutual
def QP (p:Int->Prop):Z5->Prop
 | .mk op _ _ _ kids=>p op/\QO p kids
def QO (p:Int->Prop):List Z9->Prop
 | []=>True
 | b::r=>Vm p b/\QO p r
def TQ (p:Int->Prop):List Z5->Prop
 | []=>True
 | s::r=>QP p s/\TQ p r
def Vm (p:Int->Prop):Z9->Prop
 | .mk steps _=>TQ p steps
end
section
variable {p q:Int->Prop}
theorem E4 (s:Z5):QP p s↔p s.op/\QO p s.kids:=by cases s;rw [QP];rfl
theorem G4 (b:Z9):Vm p b↔TQ p b.steps:=by cases b;rw [Vm];rfl
theorem CV:∀{xs:List Z9},QO p xs↔∀b∈xs,Vm p b
 | []=>by simp [QO]
 | b::r=>by rw [QO,CV];simp
theorem C0:∀{xs:List Z5},TQ p xs↔∀b∈xs,QP p b
 | []=>by simp [TQ]
 | b::r=>by rw [TQ,C0];simp
theorem G5 {xs ys:List Z5}:TQ p (xs++ys)↔TQ p xs/\TQ p ys:=by simp only [C0,Xa];exact ⟨fun h=>⟨fun b hb=>h b (.inl hb),fun b hb=>h b (.inr hb)⟩,fun h b hb=>hb.elim (h.1 b) (h.2 b)⟩
theorem Pj {xs:List Z9} {b:Z9} (h:QO p xs) (hb:Vm p b):QO p (xs++[b]):=CV.2 (Xz (CV.1 h) hb)
theorem G6 {xs:List Z5} {b:Z5} (h:TQ p xs) (hb:QP p b):TQ p (xs++[b]):=C0.2 (Xz (C0.1 h) hb)
end
def WR (op:Int):Prop:=op<=11
def VC (op:Int):Prop:=op<=15
end Go.Abs
section
namespace Go.Abs
structure LW (ds:List Zf) (nf q:Nat) (e:Z1) (ys:List Z5) (v:Int):Prop where
 fs:Tp ds nf q ys
 v:0<=v/\v<(q+YZ ys:Nat)
 sz:Y8 ys<=6*e.sz
 op:TQ WR ys
theorem LW.dn {ds:List Zf} {nf q:Nat} {e:Z1} {ys:List Z5} {v:Int} (h:LW ds nf q e ys v):YZ ys<=6*e.sz/\ys.length<=6*e.sz:=by
 have h1:=BJ ys
 have h2:=KV ys
 have h3:=h.sz
 omega
structure LB (ds:List Zf) (nf q:Nat) (e:Z1) (b:Z9):Prop where
 fb:fB ds nf q b
 sz:b.sz<=1+6*e.sz
 op:Vm WR b
section
variable {ds:List Zf} {nf q:Nat}
theorem Dt:∀xs ys:List Z9,X9 (xs++ys)=X9 xs+X9 ys
 | [],ys=>by simp [X9]
 | x::r,ys=>by rw [Qt,X9,X9,Dt r];omega
theorem LW.block {e:Z1} {ys:List Z5} {v:Int} (h:LW ds nf q e ys v):LB ds nf q e ⟨ys,v⟩:=
 ⟨by rw [fB];exact ⟨h.fs,h.v⟩,by rw [Z9.sz];have:=h.sz;omega,by rw [Vm];exact h.op⟩
theorem LW.var {e:Z1} {v:Int} (hv:0<=v/\v<q):LW ds nf q e [] v:=⟨True.intro,by simpa [YZ] using hv,by simp [Y8],True.intro⟩
theorem LW.let_ {e a b:Z1} {ys zs:List Z5} {v1 v2:Int} (ha:LW ds nf q a ys v1) (hb:LW ds nf (q+YZ ys) b zs v2) (he:a.sz+b.sz<e.sz):LW ds nf q e (ys++zs) v2:=by
 refine ⟨Cy.2 ⟨ha.fs,hb.fs⟩,by rw [Jb,<-Au];exact hb.v,?_,G5.2 ⟨ha.op,hb.op⟩⟩
 have h1:=ha.sz
 have h2:=hb.sz
 rw [Ty];omega
theorem Dy {ys:List Z5} {s:Z5} (h:YC s.op=false):YZ (ys++[s])=YZ ys+1:=by
 rw [Jb]
 simp [YZ,h]
theorem LW.node {e:Z1} {ys:List Z5} {as1:LI} (ho:0<=e.op/\e.op<=11/\e.op≠7/\e.op≠8) (hc:e.op=9->0<=e.num/\e.num<nf) (hn:-2000<=e.num/\e.num<=2000) (hf:Tp ds nf q ys) (ha:∀a∈as1,0<=a/\a<(q+YZ ys:Nat)) (hl:as1.length<=4) (hs:Y8 ys<=6*Xx e.kids) (hop:TQ WR ys) :
  LW ds nf q e (ys++[⟨e.op,e.num,0,as1,[]⟩]) ((q+YZ ys:Nat):Int):=by
 have hcb:YC e.op=false:=by simp [YC];omega
 refine ⟨Fe hf ?_,?_,?_,G6 hop (by rw [QP];exact ⟨by show e.op<=11;omega,True.intro⟩)⟩
 ·rw [fS]
  exact ⟨.inl ⟨by omega,by omega⟩,ha,fun h=>by omega,fun h=>by omega,fun h=>by omega,fun h=>by omega,hc,hn,by omega,hl,fun _=>rfl,True.intro⟩
 ·rw [Dy (show YC (Z5.mk e.op e.num 0 as1 []).op=false from hcb)];omega
 ·rw [Ty,e.sz_eq]
  simp only [Y8,Z5.sz,X9]
  omega
theorem LW.branch {e:Z1} {ys:List Z5} {v:Int} {bs:List Z9} {s0 sr:Nat} (ho:e.op=7∨e.op=8) (h7:e.op=7->bs.length=2) (h8:e.op=8->bs.length=(ZX ds e.num).length) (hn:-2000<=e.num/\e.num<=2000) (hf:Tp ds nf q ys) (hv:0<=v/\v<(q+YZ ys:Nat))
  (hb:TM ds nf (Tj ds e.op e.num (q+YZ ys)) 0 bs) (hl:bs.length<=3) (h0:Y8 ys<=6*s0) (h1:X9 bs<=bs.length+6*sr) (hs:s0+sr<=Xx e.kids) (hop:TQ WR ys) (hob:QO WR bs):LW ds nf q e (ys++[⟨e.op,e.num,0,[v],bs⟩]) ((q+YZ ys:Nat):Int):=by
 have hcb:YC e.op=false:=by simp [YC];omega
 refine ⟨Fe hf ?_,?_,?_,G6 hop (by rw [QP];exact ⟨by show e.op<=11;omega,hob⟩)⟩
 ·rw [fS]
  exact ⟨.inl ⟨by omega,by omega⟩,fun a ha=>by rw [XC.1 ha];exact hv,fun h=>by omega,h7,h8,fun _=>⟨v,rfl⟩,fun h=>by omega,hn,by omega,by simp,fun h=>by omega,hb⟩
 ·rw [Dy (show YC (Z5.mk e.op e.num 0 [v] bs).op=false from hcb)];omega
 ·rw [Ty,e.sz_eq]
  simp only [Y8,Z5.sz,YR,Xu]
  omega
theorem R4 {ds:List Zf} {op num:Int} {m k:Nat} (h:op=13):TT ds op num m k=m+k:=Ze h
theorem Zbq {ds:List Zf} {op num:Int} {m:Nat} (h:op≠13):TT ds op num m 0=m:=by simp [TT,h]
theorem R5 {ds:List Zf} {op num:Int} {m k:Nat} (h:op≠13/\op≠8):TT ds op num m k=m:=by simp [TT,h.1,h.2]
theorem Zbr {ds:List Zf} {op num x:Int} {m k j:Nat} (h:op=8) (hk:k=j+1) (hx:(ZX ds num)[j]? = some x):TT ds op num m k=m+(ZV ds x).length:=by
 subst h;subst hk;rw [Nat.add_comm j 1];exact D3 hx
theorem Lj {ds:List Zf} {op num x:Int} {m j:Nat} (h:op=8) (hx:(ZX ds num)[j]? = some x):Tj ds op num m j=m+(ZV ds x).length:=by
 rw [Tj,Ze h,Vh (i:=(j:Int)) (by simpa using hx)]
theorem Lk {ds:List Zf} {op num:Int} {m j:Nat} (h:op≠8):Tj ds op num m j=m:=Z8 h
theorem AO {xs:List Z1} {k:Nat} {e:Z1} (h:xs[k]? = some e):Xx (xs.take (k+1))=Xx (xs.take k)+e.sz:=by rw [V7 h,DB,Xx,Xx];rfl
theorem A5 {xs:List Z1} (k:Nat):Xx (xs.take k)<=Xx xs:=by
 have h:=Ym Xx (Ux k xs)
 rw [DB] at h;omega
theorem Ng {xs:List Z1} {a b:Z1} (ha:xs[0]? = some a) (hb:xs[1]? = some b):a.sz+b.sz<=Xx xs:=by
 have h1:Xx (xs.take 1)=Xx (xs.take 0)+a.sz:=AO ha
 have h2:Xx (xs.take 2)=Xx (xs.take 1)+b.sz:=AO hb
 have h3:=A5 (xs:=xs) 2
 omega
theorem Eo {us:LI} {v:Int} {d:Nat} (hu:∀a∈us,0<=a/\a<(q:Int)) (hv:0<=v/\v<(q+d:Nat)):∀a∈us++[v],0<=a/\a<((q+d:Nat):Int):=
 Xz (fun a ha=>by have:=hu a ha;omega) hv
theorem GK {us:LI} {d:Nat} (hu:∀a∈us,0<=a/\a<(q:Int)):∀a∈us,0<=a/\a<((q+d:Nat):Int):=fun a ha=>by have:=hu a ha;omega
theorem Zet {us ns:LI} {d mf:Nat} (hu:∀a∈us,0<=a/\a<(q:Int)) (hn:∀i∈ns,((q+d:Nat):Int)<=i/\i<((q+d:Nat):Int)+mf):∀a∈us++ns,0<=a/\a<((q+d+mf:Nat):Int):=fun a ha=>by
 rcases Xa.1 ha with h|h
 ·have:=hu a h;omega
 ·have:=hn a h;omega
theorem EL:∀bs:List Z9,bs.length<=X9 bs
 | []=>X5 _
 | b::r=>by have:=EL r;have:=b.sz_pos;rw [X9,YR];omega
end
end Go.Abs
namespace Go.Abs
structure RF (ds:List Zf) (nf q:Nat) (p:Int->Prop) (r:Yf):Prop where
 sig:(r.params,r.result)∈Jp
 lent:r.lent.length<=3/\∀i∈r.lent,0<=i/\i<r.params.length
 body:fB ds nf r.params.length r.body/\r.body.sz<=q
 op:Vm p r.body
structure FO (n:Zk) (q:Nat) (p:Int->Prop):Prop where
 fn:FN n q
 op:∀r∈n.routines,Vm p r.body
theorem FO.rf {n:Zk} {q:Nat} {p:Int->Prop} (h:FO n q p) {r:Yf} (hr:r∈n.routines):RF n.decls n.routines.length q p r:=⟨h.fn.sigs r hr,h.fn.lent r hr,h.fn.body r hr,h.op r hr⟩
theorem FO.all {n:Zk} {q:Nat} {p:Int->Prop} (hd:GD n.decls) (hl:1<=n.routines.length/\n.routines.length<=4) (h:∀r∈n.routines,RF n.decls n.routines.length q p r):FO n q p:=
 ⟨⟨hd,hl,fun r hr=>(h r hr).sig,fun r hr=>(h r hr).lent,fun r hr=>(h r hr).body⟩,fun r hr=>(h r hr).op⟩
structure RN (ds:List Zf) (nf:Nat) (r:Yf):Prop where
 sig:(r.params,r.result)∈Jp
 lent:r.lent=[]
 body:fB ds nf r.params.length r.body/\r.body.sz<=181
 op:Vm WR r.body
theorem RN.all {n:Zk} {q:Nat} (hd:GD n.decls) (hl:1<=n.routines.length/\n.routines.length<=4) (h:∀r∈n.routines,RN n.decls n.routines.length r) (hq:181<=q):FO n q WR:=
 FO.all hd hl fun r hr=>⟨(h r hr).sig,by rw [(h r hr).lent];exact ⟨by simp,fun i hi=>by cases hi⟩,⟨(h r hr).body.1,VK (h r hr).body.2 hq⟩,(h r hr).op⟩
end Go.Abs
namespace Go.Abs
theorem RN.of {ds:List Zf} {nf:Nat} {ps:LI} {rt:Int} {b:Z9} {e:Z1} (hs:(ps,rt)∈Jp) (h:LB ds nf ps.length e b) (he:e.sz<=30):RN ds nf ⟨ps,[],rt,Z9.mk b.steps b.result⟩:=by
 have e1:Z9.mk b.steps b.result=b:=by cases b;rfl
 rw [e1]
 exact ⟨hs,rfl,⟨h.fb,by have:=h.sz;show b.sz<=181;omega⟩,h.op⟩
end Go.Abs
end
namespace Go.Abs
theorem LD:∀{xs:List Z5} {s:Z5},s∈xs->s.sz<=Y8 xs
 | [],s,h=>by cases h
 | x::r,s,h=>by
  rw [Y8]
  rcases YD.1 h with rfl|h
  ·omega
  ·have:=LD h;omega
theorem Hm:∀{xs:List Z9} {b:Z9},b∈xs->b.sz<=X9 xs
 | [],b,h=>by cases h
 | x::r,b,h=>by
  rw [X9]
  rcases YD.1 h with rfl|h
  ·omega
  ·have:=Hm h;omega
structure LC (n:Zk) (k:Nat) (xs:List LI):Prop where
 len:xs.length=k
 ok:∀(i:Nat) (l:LI),xs[i]? = some l->l.length<=3/\∀r,n.routines[i]? = some r->∀v∈l,0<=v/\v<(r.params.length:Int)
theorem LC.nil {n:Zk}:LC n 0 []:=⟨rfl,fun i l h=>by simp at h⟩
theorem LC.snoc {n:Zk} {k:Nat} {xs:List LI} {l:LI} (h:LC n k xs) (hl:l.length<=3) (hv:∀r,n.routines[k]? = some r->∀v∈l,0<=v/\v<(r.params.length:Int)):LC n (k+1) (xs++[l]):=by
 refine ⟨by rw [Yw,h.len];rfl,fun i l' hi=>?_⟩
 by_cases hk:i<xs.length
 ·rw [Dg hk] at hi
  exact h.ok i l' hi
 ·rw [Dh om] at hi
  have h0:i-xs.length=0:=by
   cases e:i-xs.length with
   | zero=>rfl
   | succ q=>rw [e] at hi;simp at hi
  rw [h0] at hi
  cases hi
  have e:i=k:=by have:=h.len;omega
  subst e
  exact ⟨hl,hv⟩
def U8:LI->Int->LI
 | [],y=>[y]
 | x::r,y=>if x>y then y::x::r else if x=y then x::r else x::U8 r y
def Q7 (d:Bool) (xs:LI) (y:Int):LI:=if d=true then xs else U8 xs y
theorem FF {xs:LI} {y:Int}:Q7 true xs y=xs:=rfl
theorem FE {xs:LI} {y:Int}:Q7 false xs y=U8 xs y:=rfl
theorem Oe {xs acc r:LI} {y x:Int} {k:Nat} {d:Bool} (hx:xs[k]? = some x) (hd:d=true) (h:acc++Q7 d (xs.drop k) y=r):(acc++[x])++Q7 d (xs.drop (k+1)) y=r:=by
 subst hd
 rw [FF,Y7 hx] at h
 rw [FF,<-h];simp
theorem Z7s {xs acc r:LI} {y x:Int} {k:Nat} {d:Bool} (hx:xs[k]? = some x) (hd:¬d=true) (hl:¬x>=y) (h:acc++Q7 d (xs.drop k) y=r):(acc++[x])++Q7 d (xs.drop (k+1)) y=r:=by
 have hd:=J5.2 hd
 subst hd
 rw [FE,Y7 hx,U8,Z8 om,Z8 om] at h
 rw [FE,<-h];simp
theorem Z7t {xs acc r:LI} {y x:Int} {k:Nat} {d:Bool} (hx:xs[k]? = some x) (hd:¬d=true) (hl:x>y) (h:acc++Q7 d (xs.drop k) y=r):((acc++[y])++[x])++Q7 true (xs.drop (k+1)) y=r:=by
 have hd:=J5.2 hd
 subst hd
 rw [FE,Y7 hx,U8,Ze hl] at h
 rw [FF,<-h];simp
theorem Z7u {xs acc r:LI} {y x:Int} {k:Nat} {d:Bool} (hx:xs[k]? = some x) (hd:¬d=true) (hl:x=y) (h:acc++Q7 d (xs.drop k) y=r):(acc++[x])++Q7 true (xs.drop (k+1)) y=r:=by
 have hd:=J5.2 hd
 subst hd
 rw [FE,Y7 hx,U8,Z8 om,Ze hl] at h
 rw [FF,<-h];simp
theorem Z7r {xs acc acc2 r:LI} {y x:Int} {k:Nat} {d d2:Bool} (hx:xs[k]? = some x) (h:acc++Q7 d (xs.drop k) y=r)
  (hc:(acc2=acc/\d2=d/\(d=true∨¬x>=y))∨(acc2=acc++[y]/\d2=true/\¬d=true/\x>y)∨(acc2=acc/\d2=true/\¬d=true/\x=y)):(acc2++[x])++Q7 d2 (xs.drop (k+1)) y=r:=by
 rcases hc with ⟨rfl,rfl,h3⟩|⟨rfl,rfl,h3,h4⟩|⟨rfl,rfl,h3,h4⟩
 ·rcases h3 with h3|h3
  ·exact Oe hx h3 h
  ·by_cases q:d2=true
   ·exact Oe hx q h
   ·exact Z7s hx q h3 h
 ·exact Z7t hx h3 h4 h
 ·exact Z7u hx h3 h4 h
theorem Z7q {xs acc r:LI} {y:Int} {k:Nat} {d:Bool} (hk:xs.length<=k) (h:acc++Q7 d (xs.drop k) y=r):(if d=true then acc else acc++[y])=r:=by
 rw [Xi hk] at h
 by_cases q:d=true
 ·rw [Q7,Ze q,JM] at h;rw [Ze q];exact h
 ·rw [Q7,Z8 q,U8] at h;rw [Z8 q];exact h
theorem CJ:∀(xs:LI) (y:Int),(U8 xs y).length<=xs.length+1
 | [],y=>X5 _
 | x::r,y=>by
  have:=CJ r y
  rw [U8]
  split
  ·simp
  ·split
   ·simp
   ·simp only [YR];omega
theorem DR:∀{xs:LI} {y z:Int},z∈U8 xs y↔z∈xs∨z=y
 | [],y,z=>by simp [U8]
 | x::r,y,z=>by
  rw [U8]
  split
  ·simp only [YD];exact ⟨fun h=>h.elim .inr .inl,fun h=>h.elim .inr .inl⟩
  ·split
   ·rename_i h;subst h;simp only [YD];exact ⟨fun h=>.inl h,fun h=>h.elim id .inl⟩
   ·simp only [YD,DR (xs:=r)];exact ⟨fun h=>by rcases h with h|h|h<;>simp [h],fun h=>by rcases h with (h|h)|h<;>simp [h]⟩
def Bz (xs:LI):Prop:=xs.Pairwise (·<·)
theorem Od:∀{xs:LI} {y:Int},Bz xs->Bz (U8 xs y)
 | [],y,_=>by simp [U8,Bz]
 | x::r,y,h=>by
  obtain ⟨h1,h2⟩:=WQ.1 h
  rw [U8]
  split
  ·rename_i q
   refine WQ.2 ⟨fun z hz=>?_,h⟩
   rcases YD.1 hz with rfl|hz
   ·omega
   ·have:=h1 z hz;omega
  ·split
   ·exact h
   ·refine WQ.2 ⟨fun z hz=>?_,Od h2⟩
    rcases DR.1 hz with hz|rfl
    ·exact h1 z hz
    ·omega
def TR:LI->Int->LI
 | [],_=>[]
 | x::r,y=>if x=y then TR r y else x::TR r y
theorem E6:∀(xs:LI) (y:Int),(TR xs y).length<=xs.length
 | [],y=>X5 _
 | x::r,y=>by
  have:=E6 r y
  rw [TR]
  split
  ·rw [YR];omega
  ·rw [YR,YR];omega
theorem CW:∀{xs:LI} {y z:Int},z∈TR xs y->z∈xs
 | [],y,z,h=>by rw [TR] at h;exact h
 | x::r,y,z,h=>by
  rw [TR] at h
  split at h
  ·exact XB _ (CW h)
  ·rcases YD.1 h with rfl|h
   ·exact Xh ..
   ·exact XB _ (CW h)
theorem Zac {xs acc r:LI} {y x:Int} {k:Nat} (hx:xs[k]? = some x) (h:acc++TR (xs.drop k) y=r):(if x≠y then acc++[x] else acc)++TR (xs.drop (k+1)) y=r:=by
 rw [Y7 hx,TR] at h
 by_cases q:x=y
 ·rw [Ze q] at h;rw [Z8 (fun z=>z q)];exact h
 ·rw [Z8 q] at h;rw [Ze q,<-h];simp
theorem Zab {xs acc r:LI} {y:Int} {k:Nat} (hk:xs.length<=k) (h:acc++TR (xs.drop k) y=r):acc=r:=by
 rw [Xi hk,TR,JM] at h;exact h
def UL (n:Int) (xs:LI) (a:Int):LI:=if 0<=a/\a<n then U8 xs a else xs
def Qr (n:Int):LI->LI->LI
 | [],xs=>xs
 | a::r,xs=>Qr n r (UL n xs a)
mutual
def Jk (n:Int):Z5->LI->LI
 | .mk op _ _ args kids,xs=>if YC op=true then xs else KZ n kids (Qr n args xs)
def KZ (n:Int):List Z9->LI->LI
 | [],xs=>xs
 | b::r,xs=>KZ n r (T3 n b xs)
def T4 (n:Int):List Z5->LI->LI
 | [],xs=>xs
 | s::r,xs=>T4 n r (Jk n s xs)
def T3 (n:Int):Z9->LI->LI
 | .mk steps result,xs=>UL n (T4 n steps xs) result
end
section
variable {n:Int}
theorem Sd (s:Z5) (xs:LI):Jk n s xs=if YC s.op=true then xs else KZ n s.kids (Qr n s.args xs):=by cases s;rw [Jk];rfl
theorem Sb (b:Z9) (xs:LI):T3 n b xs=UL n (T4 n b.steps xs) b.result:=by cases b;rw [T3];rfl
theorem GJ (xs:LI) (a:Int):(UL n xs a).length<=xs.length+1:=by
 rw [UL];split
 ·exact CJ xs a
 ·omega
theorem Sa:∀(as1 xs:LI),(Qr n as1 xs).length<=xs.length+as1.length
 | [],xs=>X5 _
 | a::r,xs=>by
  have h1:=Sa r (UL n xs a)
  have h2:=GJ (n:=n) xs a
  rw [Qr,YR];omega
mutual
theorem Se:∀(s:Z5) (xs:LI),(Jk n s xs).length<=xs.length+s.sz
 | .mk op num into args kids,xs=>by
  have h1:=Sc kids (Qr n args xs)
  have h2:=Sa (n:=n) args xs
  rw [Jk,Z5.sz];split<;>omega
theorem Sc:∀(bs:List Z9) (xs:LI),(KZ n bs xs).length<=xs.length+X9 bs
 | [],xs=>X5 _
 | b::r,xs=>by
  have h1:=Sc r (T3 n b xs)
  have h2:=GI b xs
  rw [KZ,X9];omega
theorem LS:∀(bs:List Z5) (xs:LI),(T4 n bs xs).length<=xs.length+Y8 bs
 | [],xs=>X5 _
 | b::r,xs=>by
  have h1:=LS r (Jk n b xs)
  have h2:=Se b xs
  rw [T4,Y8];omega
theorem GI:∀(b:Z9) (xs:LI),(T3 n b xs).length<=xs.length+b.sz
 | .mk steps result,xs=>by
  have h1:=LS steps xs
  have h2:=GJ (n:=n) (T4 n steps xs) result
  rw [T3,Z9.sz];omega
end
theorem Zeo {as1 ys r:LI} {k:Nat} {a:Int} (h:as1[k]? = some a) (ha:Qr n (as1.drop k) ys=r):Qr n (as1.drop (k+1)) (UL n ys a)=r:=by
 rw [Y7 h,Qr] at ha;exact ha
theorem Zeq {bs:List Z9} {ys r:LI} {k:Nat} {b:Z9} (h:bs[k]? = some b) (ha:KZ n (bs.drop k) ys=r):KZ n (bs.drop (k+1)) (T3 n b ys)=r:=by
 rw [Y7 h,KZ] at ha;exact ha
theorem Zes {bs:List Z5} {ys r:LI} {k:Nat} {b:Z5} (h:bs[k]? = some b) (ha:T4 n (bs.drop k) ys=r):T4 n (bs.drop (k+1)) (Jk n b ys)=r:=by
 rw [Y7 h,T4] at ha;exact ha
theorem Zen {as1 ys r:LI} {k:Nat} (h:as1.length<=k) (ha:Qr n (as1.drop k) ys=r):ys=r:=by rw [Xi h,Qr] at ha;exact ha
theorem Zep {bs:List Z9} {ys r:LI} {k:Nat} (h:bs.length<=k) (ha:KZ n (bs.drop k) ys=r):ys=r:=by rw [Xi h,KZ] at ha;exact ha
theorem Zer {bs:List Z5} {ys r:LI} {k:Nat} (h:bs.length<=k) (ha:T4 n (bs.drop k) ys=r):ys=r:=by rw [Xi h,T4] at ha;exact ha
end
theorem M3 {s:Z5} (h:Cn s):∃a,s.args=[a]:=⟨gI s.args 0,by have:=Ym Z5.args h;exact this⟩
section
variable {xs:LI} {v:Int} {lo hi:Nat}
end
section
variable {m:Int} {xs du dr:List Z5} {lf:LI} {d:Bool} {k:Nat} {s:Z5} {W:List Z5 × List Z5 × LI}
end
def YW:List Z5->Nat
 | []=>0
 | s::r=>if YC s.op=true then YW r+1 else 0
def W9 (op x:Int):List Z5->Int->Int
 | [],_=>-1
 | s::r,k=>if s.op=op/\gI s.args 0=x then k else W9 op x r (k+1)
def Ka (many:Nat) (s:Z5):Prop:=(s.op=6/\s.into=0)/\s.args.length=many
instance (many:Nat) (s:Z5):Decidable (Ka many s):=by unfold Ka;infer_instance
def Wu (many:Nat):List Z5->Int->Int
 | [],_=>-1
 | s::r,k=>if Ka many s then k else Wu many r (k+1)
def AR (xs:List Z5) (i:Int):Z5:=xs[i.toNat]?.getD (Zx 0 0)
def QJ (v:Int) (s:Z5):Z5:=.mk s.op s.num v s.args s.kids
def Vx (xs:List Z5) (x:Int):Int:=W9 16 x (xs.take (YW xs)) 0
def WJ (xs:List Z5) (many:Nat):Int:=Wu many (xs.drop (YW xs)) (YW xs)
def Ut (xs:List Z5) (x:Int) (many:Nat):List Z5:=
 if Vx xs x<0∨WJ xs many<0 then xs else (xs.set (Vx xs x).toNat (Zx 17 x)).set (WJ xs many).toNat (QJ (1+x) (AR xs (WJ xs many)))
def Ui (b:Z9) (x:Int) (many:Nat):Z9:=.mk (Ut b.steps x many) b.result
mutual
def QT (ds:List Zf) (kept:LI):Z5->Z5
 | .mk op num into args kids=>.mk op num into args (T0 ds kept op num args kids 0)
def T0 (ds:List Zf) (kept:LI) (op num:Int) (args:LI):List Z9->Nat->List Z9
 | [],_=>[]
 | b::r,k=>(if op=8/\¬gI args 0∈kept then Ui (WP ds (if Vx b.steps (gI args 0)<0∨WJ b.steps (UU ds num k).length<0 then kept else gI args 0::kept) b) (gI args 0) (UU ds num k).length else WP ds kept b)::T0 ds kept op num args r (k+1)
def T1 (ds:List Zf) (kept:LI):List Z5->List Z5
 | []=>[]
 | s::r=>QT ds kept s::T1 ds kept r
def WP (ds:List Zf) (kept:LI):Z9->Z9
 | .mk steps result=>.mk (T1 ds kept steps) result
end
def FK (ds:List Zf) (kept:LI) (num:Int) (args:LI) (k:Nat) (b:Z9):LI:=if Vx b.steps (gI args 0)<0∨WJ b.steps (UU ds num k).length<0 then kept else gI args 0::kept
def TS (ds:List Zf) (kept:LI) (op num:Int) (args:LI) (k:Nat) (b:Z9):Z9:=if op=8/\¬gI args 0∈kept then Ui (WP ds (FK ds kept num args k b) b) (gI args 0) (UU ds num k).length else WP ds kept b
theorem Bb (ds:List Zf) (kept:LI) (s:Z5):QT ds kept s=.mk s.op s.num s.into s.args (T0 ds kept s.op s.num s.args s.kids 0):=by cases s;rw [QT];rfl
theorem Gf (ds:List Zf) (kept:LI) (b:Z9):WP ds kept b=.mk (T1 ds kept b.steps) b.result:=by cases b;rw [WP];rfl
theorem Gh (ds:List Zf) (kept:LI):∀xs:List Z5,T1 ds kept xs=xs.map (QT ds kept)
 | []=>rfl
 | s::r=>by rw [T1,Gh ds kept r];rfl
section
variable {ds:List Zf} {kept:LI}
theorem Zbd {xs acc r:List Z5} {k:Nat} {s:Z5} (h:xs[k]? = some s) (ha:acc++T1 ds kept (xs.drop k)=r) :
  (acc++[.mk s.op s.num s.into s.args (T0 ds kept s.op s.num s.args s.kids 0)])++T1 ds kept (xs.drop (k+1))=r:=by
 rw [Y7 h,T1,Bb] at ha
 rw [<-ha];simp
theorem Zbc {xs acc r:List Z5} {k:Nat} (h:xs.length<=k) (ha:acc++T1 ds kept (xs.drop k)=r):acc=r:=by
 rw [Xi h,T1,JM] at ha;exact ha
theorem Zb7 {op num:Int} {args:LI} {bs acc r:List Z9} {k:Nat} {b:Z9} (h:bs[k]? = some b) (ha:acc++T0 ds kept op num args (bs.drop k) k=r) :
  (acc++[TS ds kept op num args k b])++T0 ds kept op num args (bs.drop (k+1)) (k+1)=r:=by
 rw [Y7 h,T0] at ha
 rw [<-ha,TS,FK];simp
theorem Zb6 {op num:Int} {args:LI} {bs acc r:List Z9} {k j:Nat} (h:bs.length<=k) (ha:acc++T0 ds kept op num args (bs.drop k) j=r):acc=r:=by
 rw [Xi h,T0,JM] at ha;exact ha
end
section
variable {ds:List Zf}
mutual
theorem Zba:∀(s:Z5) {K K':LI},(∀z,z∈K↔z∈K')->QT ds K s=QT ds K' s
 | .mk op num into args kids,K,K',h=>by rw [QT,QT,PR kids h]
theorem PR:∀(bs:List Z9) {K K':LI} {op num:Int} {args:LI} {k:Nat},(∀z,z∈K↔z∈K')->T0 ds K op num args bs k=T0 ds K' op num args bs k
 | [],_,_,_,_,_,_,_=>by rw [T0,T0]
 | b::r,K,K',op,num,args,k,h=>by
  have h1:=PR r (op:=op) (num:=num) (args:=args) (k:=k+1) h
  have h2:=Ld b h
  have h3:∀z,z∈(gI args 0::K)↔z∈(gI args 0::K'):=fun z=>by rw [YD,YD,h z]
  have h4:=Ld b h3
  rw [T0,T0,h1,h2]
  congr 1
  by_cases hq:op=8/\¬gI args 0∈K
  ·have hq':op=8/\¬gI args 0∈K':=⟨hq.1,fun z=>hq.2 ((h _).2 z)⟩
   rw [Ze hq,Ze hq']
   congr 1
   split
   ·exact h2
   ·exact h4
  ·have hq':¬(op=8/\¬gI args 0∈K'):=fun z=>hq ⟨z.1,fun y=>z.2 ((h _).1 y)⟩
   rw [Z8 hq,Z8 hq']
theorem PT:∀(xs:List Z5) {K K':LI},(∀z,z∈K↔z∈K')->T1 ds K xs=T1 ds K' xs
 | [],_,_,_=>by rw [T1,T1]
 | s::r,K,K',h=>by rw [T1,T1,Zba s h,PT r h]
theorem Ld:∀(b:Z9) {K K':LI},(∀z,z∈K↔z∈K')->WP ds K b=WP ds K' b
 | .mk steps result,K,K',h=>by rw [WP,WP,PT steps h]
end
end
theorem DV:∀xs:List Z5,YW xs<=xs.length
 | []=>X5 _
 | s::r=>by have:=DV r;rw [YW];split<;>simp<;>omega
section
variable {f:Z5->Z5} (hop:∀s,(f s).op=s.op) (hin:∀s,(f s).into=s.into) (har:∀s,(f s).args=s.args)
include hop
theorem IB:∀xs:List Z5,YW (xs.map f)=YW xs
 | []=>rfl
 | s::r=>by rw [Um,YW,YW,hop,IB r]
include har
theorem Mq {op x:Int}:∀(xs:List Z5) (k:Int),W9 op x (xs.map f) k=W9 op x xs k
 | [],_=>rfl
 | s::r,k=>by rw [Um,W9,W9,hop,har,Mq r]
theorem Za5 (xs:List Z5) (x:Int):Vx (xs.map f) x=Vx xs x:=by rw [Vx,IB hop,<-List.map_take,Mq hop har,Vx]
include hin
theorem MQ {many:Nat}:∀(xs:List Z5) (k:Int),Wu many (xs.map f) k=Wu many xs k
 | [],_=>rfl
 | s::r,k=>by
  have e:Ka many (f s)↔Ka many s:=by rw [Ka,Ka,hop,hin,har]
  rw [Um,Wu,Wu,MQ r]
  by_cases h:Ka many s
  ·rw [Ze h,Ze (e.2 h)]
  ·rw [Z8 h,Z8 (fun z=>h (e.1 z))]
theorem Z1u (xs:List Z5) (many:Nat):WJ (xs.map f) many=WJ xs many:=by rw [WJ,IB hop,<-List.map_drop,MQ hop hin har,WJ]
end
theorem Mp {op x:Int}:∀{xs:List Z5} {k:Int},¬W9 op x xs k<0->0<=k->k<=W9 op x xs k/\W9 op x xs k<k+xs.length/\∃s,xs[(W9 op x xs k-k).toNat]? = some s/\s.op=op/\gI s.args 0=x
 | [],k,h,_=>by simp [W9] at h
 | s::r,k,h,hk=>by
  rw [W9] at h ⊢
  split
  ·rename_i q
   refine ⟨Int.le_refl _,by rw [YR];omega,s,?_,q⟩
   rw [Int.sub_self];rfl
  ·rename_i q
   rw [Z8 q] at h
   obtain ⟨h1,h2,t,h3,h4⟩:=Mp (xs:=r) (k:=k+1) h om
   refine ⟨by omega,by rw [YR];omega,t,?_,h4⟩
   rw [show (W9 op x r (k+1)-k).toNat=(W9 op x r (k+1)-(k+1)).toNat+1 by omega,List.getElem?_cons_succ]
   exact h3
theorem MP {many:Nat}:∀{xs:List Z5} {k:Int},¬Wu many xs k<0->0<=k->k<=Wu many xs k/\Wu many xs k<k+xs.length/\∃s,xs[(Wu many xs k-k).toNat]? = some s/\Ka many s
 | [],k,h,_=>by simp [Wu] at h
 | s::r,k,h,hk=>by
  rw [Wu] at h ⊢
  split
  ·rename_i q
   refine ⟨Int.le_refl _,by rw [YR];omega,s,?_,q⟩
   rw [Int.sub_self];rfl
  ·rename_i q
   rw [Z8 q] at h
   obtain ⟨h1,h2,t,h3,h4⟩:=MP (xs:=r) (k:=k+1) h om
   refine ⟨by omega,by rw [YR];omega,t,?_,h4⟩
   rw [show (Wu many r (k+1)-k).toNat=(Wu many r (k+1)-(k+1)).toNat+1 by omega,List.getElem?_cons_succ]
   exact h3
theorem E5 {xs:List Z5} {x:Int} (h:¬Vx xs x<0):0<=Vx xs x/\Vx xs x<YW xs/\∃s,xs[(Vx xs x).toNat]? = some s/\s.op=16/\gI s.args 0=x:=by
 obtain ⟨h1,h2,s,h3,h4⟩:=Mp h (Int.le_refl 0)
 have hl:=DV xs
 rw [WH,VB hl] at h2
 have h2':Vx xs x<YW xs:=by unfold Vx;omega
 have h1':0<=Vx xs x:=h1
 refine ⟨h1',h2',s,?_,h4⟩
 rw [Int.sub_zero] at h3
 have h5:(Vx xs x).toNat<YW xs:=by omega
 rwa [show W9 16 x (xs.take (YW xs)) 0=Vx xs x from rfl,List.getElem?_take_of_lt h5] at h3
theorem AK {xs:List Z5} {many:Nat} (h:¬WJ xs many<0):(YW xs:Int)<=WJ xs many/\WJ xs many<xs.length/\∃s,xs[(WJ xs many).toNat]? = some s/\Ka many s/\AR xs (WJ xs many)=s:=by
 obtain ⟨h1,h2,s,h3,h4⟩:=MP h om
 have hl:=DV xs
 rw [Bn] at h2
 have h1':(YW xs:Int)<=WJ xs many:=h1
 have h2':WJ xs many<xs.length:=by unfold WJ;omega
 rw [Bm,show Wu many (xs.drop (YW xs)) (YW xs)=WJ xs many from rfl,show YW xs+(WJ xs many-(YW xs:Int)).toNat=(WJ xs many).toNat by omega] at h3
 exact ⟨h1',h2',s,h3,h4,by rw [AR,h3];rfl⟩
theorem Zar {f:Z5->Z5} (hop:∀s,(f s).op=s.op) (hin:∀s,(f s).into=s.into) (har:∀s,(f s).args=s.args) (hc:∀x,f (Zx 17 x)=Zx 17 x) (hi:∀v s,f (QJ v s)=QJ v (f s)) (xs:List Z5) (x:Int) (many:Nat) :
  Ut (xs.map f) x many=(Ut xs x many).map f:=by
 rw [Ut,Za5 hop har,Z1u hop hin har,Ut]
 split
 ·rfl
 ·rename_i hq
  obtain ⟨_,_,s,h3,_,h5⟩:=AK (fun z=>hq (.inr z))
  have e:AR (xs.map f) (WJ xs many)=f (AR xs (WJ xs many)):=by rw [AR,T6,h3,h5];rfl
  rw [e,List.map_set,List.map_set,hc,hi]
theorem PP {ds:List Zf} {K:LI} {b:Z9} {x:Int} {many:Nat}:WP ds K (Ui b x many)=Ui (WP ds K b) x many:=by
 rw [Ui,WP,Ui,Gf,Gh,Gh]
 show Z9.mk _ _=Z9.mk (Ut (b.steps.map (QT ds K)) x many) b.result
 rw [Zar (f:=QT ds K) (fun s=>by rw [Bb];rfl) (fun s=>by rw [Bb];rfl) (fun s=>by rw [Bb];rfl) (fun x=>by rw [Bb];rfl) (fun v s=>by rw [Bb,Bb];rfl)]
structure CB (c:LI) (q:Int):Prop where
 len:c.length=4
 bd:∀x∈c,0<=x/\x<=q
mutual
def BZ:Z5->Prop
 | .mk op _ _ _ kids=>op≠17/\B0 kids
def B0:List Z9->Prop
 | []=>True
 | b::r=>QN b/\B0 r
def B1:List Z5->Prop
 | []=>True
 | s::r=>BZ s/\B1 r
def QN:Z9->Prop
 | .mk steps _=>B1 steps
end
theorem CU (s:Z5):BZ s↔s.op≠17/\B0 s.kids:=by cases s;rw [BZ];rfl
theorem E0 (b:Z9):QN b↔B1 b.steps:=by cases b;rw [QN];rfl
theorem E1:∀{xs:List Z5},B1 xs↔∀s∈xs,BZ s
 | []=>by simp [B1]
 | s::r=>by rw [B1,E1];simp
theorem FZ:∀{xs:List Z9},B0 xs↔∀s∈xs,QN s
 | []=>by simp [B0]
 | s::r=>by rw [B0,FZ];simp
theorem Gz:∀{xs:List Z5} {i:Nat} {s:Z5} (t:Z5),xs[i]? = some s->Y8 (xs.set i t)+s.sz=Y8 xs+t.sz
 | [],_,_,_,h=>by simp at h
 | x::r,0,s,t,h=>by simp at h;subst h;rw [List.set_cons_zero,Y8,Y8];omega
 | x::r,i+1,s,t,h=>by
  have:=Gz (xs:=r) (i:=i) t (by simpa using h)
  rw [List.set_cons_succ,Y8,Y8];omega
theorem Z80 (v:Int) (s:Z5):(QJ v s).sz=s.sz:=by cases s;rw [QJ,Z5.sz,Z5.sz];rfl
theorem MR {xs:List Z5} {x:Int} {many:Nat} (h:¬(Vx xs x<0∨WJ xs many<0)):(Vx xs x).toNat<(WJ xs many).toNat:=by
 obtain ⟨h1,h2,_⟩:=E5 (fun z=>h (.inl z))
 obtain ⟨h3,h4,_⟩:=AK (fun z=>h (.inr z))
 omega
theorem Ge {xs:List Z5} {x:Int} {many:Nat} (h:¬(Vx xs x<0∨WJ xs many<0)) {t:Z5} {s:Z5} (hs:xs[(WJ xs many).toNat]? = some s):(xs.set (Vx xs x).toNat t)[(WJ xs many).toNat]? = some s:=by
 have:=MR h
 rw [List.getElem?_set_ne om];exact hs
theorem PF {xs:List Z5} {x:Int} {many:Nat} (h:∀s∈xs,YC s.op=true->2<=s.sz):Y8 (Ut xs x many)<=Y8 xs:=by
 rw [Ut]
 split
 ·exact X5 _
 ·rename_i hq
  obtain ⟨_,_,s,h3,h4,_⟩:=E5 (fun z=>hq (.inl z))
  obtain ⟨_,_,t,h5,_,h6⟩:=AK (fun z=>hq (.inr z))
  have e1:=Gz (Zx 17 x) h3
  have e2:=Gz (QJ (1+x) (AR xs (WJ xs many))) (Ge hq (t:=Zx 17 x) h5)
  have h7:=h s (Y2 h3) (by rw [h4];rfl)
  rw [ER] at e1
  rw [Z80,h6] at e2
  rw [h6]
  omega
section
variable {ds:List Zf}
theorem Zfa {v:Int} {s:Z5} (h:wS ds s) (h6:s.op=6):wS ds (QJ v s):=by
 obtain ⟨h1,h2,h3,h4⟩:=(Jl s).1 h
 exact (Jl _).2 ⟨h1,fun hc=>absurd hc (by show ¬YC s.op=true;rw [h6];decide),h3,h4⟩
theorem Zf7 {v:Int}:wS ds (Zx 17 v):=(Jl _).2 ⟨rfl,fun _=>⟨rfl,rfl,rfl,v,rfl⟩,fun e=>absurd e (show (17:Int)≠8 by decide),True.intro⟩
theorem Zf6 {xs:List Z5} {x:Int} {many:Nat} (h:K0 ds xs):K0 ds (Ut xs x many):=by
 rw [Ut]
 split
 ·exact h
 ·rename_i hq
  obtain ⟨_,_,t,h5,h7,h6⟩:=AK (fun z=>hq (.inr z))
  rw [Aq]
  intro s hs
  rcases List.mem_or_eq_of_mem_set hs with hs|rfl
  ·rcases List.mem_or_eq_of_mem_set hs with hs|rfl
   ·exact Aq.1 h s hs
   ·exact Zf7
  ·rw [h6];exact Zfa (Aq.1 h t (Y2 h5)) h7.1.1
theorem Zf5 {b:Z9} {x:Int} {many:Nat} (h:wB ds b):wB ds (Ui b x many):=by rw [Ui,J4];exact Zf6 ((J4 b).1 h)
variable (hd:WI ds)
mutual
theorem Zbb:∀(s:Z5) {K:LI},wS ds s->(QT ds K s).sz<=s.sz
 | .mk op num into args kids,K,h=>by
  have:=PS kids (K:=K) (op:=op) (num:=num) (args:=args) (k:=0) h.2.2.2
  rw [QT,Z5.sz,Z5.sz];omega
theorem PS:∀(bs:List Z9) {K:LI} {op num:Int} {args:LI} {k:Nat},Ap ds bs->X9 (T0 ds K op num args bs k)<=X9 bs
 | [],_,_,_,_,_,_=>X5 _
 | b::r,K,op,num,args,k,h=>by
  have h2:=PS r (K:=K) (op:=op) (num:=num) (args:=args) (k:=k+1) h.2
  have key:∀K2:LI,(Ui (WP ds K2 b) (gI args 0) (UU ds num k).length).sz<=b.sz:=fun K2=>by
   have h1:=Le b (K:=K2) h.1
   have h3:=PF (xs:=(WP ds K2 b).steps) (x:=gI args 0) (many:=(UU ds num k).length) (by
    rw [Gf,Gh]
    intro s hs hc
    obtain ⟨t,ht,rfl⟩:=Wd.1 hs
    rw [Bb] at hc ⊢
    obtain ⟨_,_,a,ha⟩:=GO (Aq.1 ((J4 b).1 h.1) t ht) hc
    rw [Z5.sz,ha];simp)
   rw [Ui,Z9.sz]
   rw [Z9.sz_eq] at h1
   omega
  rw [T0,X9,X9]
  split
  ·have:=key (if Vx b.steps (gI args 0)<0∨WJ b.steps (UU ds num k).length<0 then K else gI args 0::K)
   omega
  ·have:=Le b (K:=K) h.1
   omega
theorem PU:∀(xs:List Z5) {K:LI},K0 ds xs->Y8 (T1 ds K xs)<=Y8 xs
 | [],_,_=>X5 _
 | s::r,K,h=>by
  have h1:=Zbb s (K:=K) h.1
  have h2:=PU r (K:=K) h.2
  rw [T1,Y8,Y8];omega
theorem Le:∀(b:Z9) {K:LI},wB ds b->(WP ds K b).sz<=b.sz
 | .mk steps result,K,h=>by
  have:=PU steps (K:=K) h
  rw [WP,Z9.sz,Z9.sz];omega
end
end
theorem IC:∀{xs:List Z5} {i:Nat} {s t:Z5},xs[i]? = some s->YC t.op=YC s.op->YW (xs.set i t)=YW xs
 | [],_,_,_,h,_=>by simp at h
 | x::r,0,s,t,h,e=>by simp at h;subst h;rw [List.set_cons_zero,YW,YW,e]
 | x::r,i+1,s,t,h,e=>by
  rw [List.set_cons_succ,YW,YW,IC (xs:=r) (i:=i) (by simpa using h) e]
theorem Z8p {xs:List Z5} {x:Int} {many:Nat}:YW (Ut xs x many)=YW xs:=by
 rw [Ut]
 split
 ·rfl
 ·rename_i hq
  obtain ⟨_,_,s,h3,h4,_⟩:=E5 (fun z=>hq (.inl z))
  obtain ⟨_,_,t,h5,_,h6⟩:=AK (fun z=>hq (.inr z))
  rw [IC (Ge hq (t:=Zx 17 x) h5) (by rw [h6];rfl),IC h3 (by rw [h4];rfl)]
theorem Ms {op x:Int}:∀{xs:List Z5} {k:Int},(∀s∈xs,s.op≠op)->W9 op x xs k=-1
 | [],_,_=>rfl
 | s::r,k,h=>by
  rw [W9,Z8 (fun z=>h s (Xh ..) z.1)]
  exact Ms fun t ht=>h t (XB _ ht)
theorem Mt {op x:Int}:∀{xs:List Z5} {k:Int},0<=k->(∃s∈xs,s.op=op/\gI s.args 0=x)->0<=W9 op x xs k
 | [],_,_,h=>by obtain ⟨s,hs,_⟩:=h;cases hs
 | s::r,k,hk,h=>by
  rw [W9]
  split
  ·exact hk
  ·rename_i q
   obtain ⟨t,ht,h1⟩:=h
   rcases YD.1 ht with rfl|ht
   ·exact absurd h1 q
   ·exact Mt om ⟨t,ht,h1⟩
theorem S1 {xs:List Z5} {x:Int} {many:Nat} (hn:B1 xs):0<=W9 17 x ((Ut xs x many).take (YW (Ut xs x many))) 0↔¬(Vx xs x<0∨WJ xs many<0):=by
 rw [Z8p]
 constructor
 ·intro h hq
  rw [Ut,Ze hq,Ms (fun s hs=>((CU s).1 (E1.1 hn s (TX hs))).1)] at h
  omega
 ·intro hq
  obtain ⟨h1,h2,s,h3,h4,_⟩:=E5 (fun z=>hq (.inl z))
  have hap:=MR hq
  refine Mt (Int.le_refl 0) ⟨Zx 17 x,?_,rfl,rfl⟩
  rw [Ut,Z8 hq]
  refine Y2 (i:=(Vx xs x).toNat) ?_
  rw [List.getElem?_take_of_lt om,List.getElem?_set_ne om,List.getElem?_set_self (Xp.1 h3).1]
def B3 (b:Z9):Prop:=∀s∈b.steps,B0 s.kids
theorem BY {b:Z9} (h:QN b):B3 b:=fun s hs=>((CU s).1 (E1.1 ((E0 b).1 h) s hs)).2
theorem Z9l {b:Z9} {k j:Nat} {s:Z5} {c:Z9} (h:B3 b) (hs:b.steps[k]? = some s) (hc:s.kids[j]? = some c):QN c:=FZ.1 (h s (Y2 hs)) c (Y2 hc)
theorem P9 {b:Z9} {x:Int} {many:Nat} (h:QN b):B3 (Ui b x many):=by
 intro s hs
 have hs:s∈Ut b.steps x many:=hs
 rw [Ut] at hs
 split at hs
 ·exact BY h s hs
 ·rename_i hq
  obtain ⟨_,_,t,h5,_,h6⟩:=AK (fun z=>hq (.inr z))
  rcases List.mem_or_eq_of_mem_set hs with hs|rfl
  ·rcases List.mem_or_eq_of_mem_set hs with hs|rfl
   ·exact BY h s hs
   ·exact True.intro
  ·rw [h6];exact BY h t (Y2 h5)
theorem Zaq {ds:List Zf} {b:Z9} {x:Int} {many:Nat} (h:wB ds b):(Ui b x many).sz<=b.sz:=by
 have:=PF (xs:=b.steps) (x:=x) (many:=many) fun s hs hc=>by
  have h7:=H0 ((J4 b).1 h) s hs hc
  rw [h7,ER];omega
 rw [Ui,Z9.sz,b.sz_eq];omega
def Ba (ds:List Zf) (r:Yf):Yf:=⟨r.params,r.lent,r.result,WP ds [] r.body⟩
def Gg (n:Zk):Zk:=⟨n.decls,n.routines.map (Ba n.decls)⟩
end Go.Abs
