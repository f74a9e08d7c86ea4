/-
  A part of the proofs of several laws (see the last file): no condition.
-/
import Derived.Test.YtfjgjacklgaioaaGreatVlA
import Derived.Test.YtfjgjacklgaioaaGreatRows
import Derived.Deep.Slices
import Derived.ChangeArms
set_option linter.all false
set_option linter.unusedVariables false
set_option linter.unusedSimpArgs false
set_option linter.unusedSectionVars false
set_option maxRecDepth 10000
set_option maxHeartbeats 4000000
namespace Go.Abs
theorem KZ.mono {w:World} {G G':Yi} {v:Value} {k:Nat} {ls:List AV} (hA:VZ G w w G') (h:KZ w G v k ls):KZ w G' v k ls:=by
 rcases h with ⟨rfl,h0⟩|⟨g,len,cap,cur,el,rfl,h1,h2,h3,h4,h5⟩
 ·exact .inl ⟨rfl,h0⟩
 ·exact .inr ⟨g,len,cap,cur,el,rfl,h1,h2,h3,h4,h5.mono hA⟩
theorem Qt.same {w:World} {G G':Yi} {r:Res} (hA:VZ G w w G') (h:Qt w G r):Qt w G' r:=by
 cases r with
 | obj b ls=>obtain ⟨cs,e,h1,h2⟩:=h;exact ⟨cs,e,h1,h2.mono hA⟩
 | tail v k=>exact h
 | ge s=>exact h
 | vec v ls=>
  rcases h with ⟨rfl,h0⟩|⟨g,cap,cur,el,rfl,h1,h2,h3,h4⟩
  ·exact .inl ⟨rfl,h0⟩
  ·exact .inr ⟨g,cap,cur,el,rfl,h1,h2,h3,h4.mono hA⟩
 | many ts=>exact h
 | own B m=>exact h
 | row v k ls=>exact h.mono hA
theorem YE.alloc_rrow {w:World} {G:Yi} {h:List Res} (hh:YE w G h) (cs:Array Value) (t:TypeId) {ls:List AV} {len cap k:Nat} (hcap:len<=cap) (Xn:cs.size=cap*k) (hl:ls.length=len*k)
  (hls:YW w G ls (cs.toList.take (len*k))) :
  YE (w.alloc (.cells cs t)) G (.row (.slice (some ⟨w.heap.size,0,none⟩) len cap) k ls::h)/\X1 w G h (w.alloc (.cells cs t)) G (.row (.slice (some ⟨w.heap.size,0,none⟩) len cap) k ls::h):=by
 have hA:VZ G w (w.alloc (.cells cs t)) G:=⟨fun b j hg=>Ei w _ (hh.lt b j hg),fun _ _ h=>h⟩
 refine hh.alloc (.cells cs t) (h':=[.row (.slice (some ⟨w.heap.size,0,none⟩) len cap) k ls]) (fun _ _ h=>h) (fun _ _ h=>.inl h) ?_ ?_ (C5 _ _) ?_
 ·intro r hr
  rw [XZ.1 hr]
  exact .inr ⟨_,len,cap,cs,t,rfl,Dx w _,hcap,Xn,hl,hls.mono hA⟩
 ·intro r hr b j hf
  rw [XZ.1 hr] at hf
  exact hf
 ·intro r hr b j hf hg
  rw [XZ.1 hr] at hf
  have:=hh.lt b j hg
  have:b=w.heap.size:=hf
  omega
theorem YE.rwrite {w:World} {G:Yi} {h2:List Res} {g len cap k:Nat} {ls ls':List AV} (hh:YE w G (.row (.slice (some ⟨g,0,none⟩) len cap) k ls::h2)) {cs cs':Array Value} {e:TypeId}
  (hb:w.heap[g]? = some (.cells cs e (0,0))) (Xn:cs'.size=cs.size) (hle:len<=cap) (hcap:cs.size=cap*k) (hl:ls'.length=len*k) (hls:YW w G ls' (cs'.toList.take (len*k))) :
  YE (w.setRow g cs') G (.row (.slice (some ⟨g,0,none⟩) len cap) k ls'::h2) /\
   X1 w G (.row (.slice (some ⟨g,0,none⟩) len cap) k ls::h2) (w.setRow g cs') G (.row (.slice (some ⟨g,0,none⟩) len cap) k ls'::h2):=by
 have hmem:Res.row (.slice (some ⟨g,0,none⟩) len cap) k ls∈Res.row (.slice (some ⟨g,0,none⟩) len cap) k ls::h2:=Xl ..
 have hA:VZ G w (w.setRow g cs') G:=⟨fun c j hg=>by
  have hne:c≠g:=fun he=>hh.prot _ hmem c j he hg
  simp [World.cell?,VY w g c cs' hne],fun _ _ h=>h⟩
 have hpw:=WI.1 hh.apart
 have hother:∀r∈h2,∀c j,r.fp c j->c≠g:=fun r hr c j hf hc=>hpw.1 r hr c j hc hf
 have e1:X1 w G [.row (.slice (some ⟨g,0,none⟩) len cap) k ls] (w.setRow g cs') G [.row (.slice (some ⟨g,0,none⟩) len cap) k ls']:=by
  refine ⟨rfl,rfl,rfl,by simp [World.setRow],fun _ _ h=>h,?_,fun _ _ _ h=>.inl h,?_⟩
  ·intro c hc
   by_cases hcb:c=g
   ·subst hcb
    exact .inr ⟨cs,cs',e,(0,0),hb,setRow_heap w c cs cs' e (0,0) hb,Xn,fun j hj=>absurd ⟨_,Xl ..,rfl⟩ hj⟩
   ·exact .inl (VY w g c cs' hcb)
  ·rintro c j _ ⟨r,hr,hf⟩
   rw [XZ.1 hr] at hf
   exact ⟨_,Xl ..,hf⟩
 have e2:YE (w.setRow g cs') G [.row (.slice (some ⟨g,0,none⟩) len cap) k ls']:=by
  refine ⟨fun r hr=>?_,C5 _ _,fun r hr c j hf hg=>?_,fun c j hg=>?_⟩
  ·rw [XZ.1 hr]
   exact .inr ⟨g,len,cap,cs',e,rfl,setRow_heap w g cs cs' e (0,0) hb,hle,Xn.trans hcap,hl,hls.mono hA⟩
  ·rw [XZ.1 hr] at hf
   exact hh.prot _ hmem c j hf hg
  ·have:=hh.lt c j hg
   simpa [World.setRow] using this
 exact YE.frame (h:=[.row (.slice (some ⟨g,0,none⟩) len cap) k ls]) (k:=h2) hh e1 e2
theorem Zh3 {w:World} {G:Yi} {h:List Res} {k:Nat} (hh:YE w G h):YE w G (.row (.slice none 0 0) k []::h)/\X1 w G h w G (.row (.slice none 0 0) k []::h):=
 ⟨⟨fun r hr=>by
   rcases YM.1 hr with rfl|hr
   ·exact .inl ⟨rfl,rfl⟩
   ·exact hh.ok r hr,WI.2 ⟨fun _ _ _ _ hf=>hf.elim,hh.apart⟩,fun r hr b o hf hg=>by
   rcases YM.1 hr with rfl|hr
   ·exact hf.elim
   ·exact hh.prot r hr b o hf hg,hh.lt⟩,
  ⟨rfl,rfl,rfl,Xa _,fun _ _ h=>h,fun _ _=>.inl rfl,fun _ _ _ h=>.inl h,fun b o _ ⟨r,hr,hf⟩=>by
   rcases YM.1 hr with rfl|hr
   ·exact hf.elim
   ·exact ⟨r,hr,hf⟩⟩⟩
theorem KZ.form {w:World} {G:Yi} {v:Value} {k:Nat} {ls:List AV} (h:KZ w G v k ls):∃a len cap,v=.slice a len cap/\ls.length=len*k:=by
 rcases h with ⟨rfl,rfl⟩|⟨g,len,cap,cur,e,rfl,_,_,_,h4,_⟩
 ·exact ⟨none,0,0,rfl,by simp⟩
 ·exact ⟨_,len,cap,rfl,h4⟩
theorem BM {w:World} {G:Yi} {v:Value} {k:Nat} {es:List AV} {h2:List Res} (hh:YE w G (.row v k (Za es)::h2)) (hes:∀y∈es,y.leaves.length=k) (hk:0<k) :
  ∃G',YE w G' (.tail v k::h2)/\X1 w G (.row v k (Za es)::h2) w G' (.tail v k::h2)/\RV w G' (.sl es (some v)) v:=by
 have hpw:=WI.1 hh.apart
 have hfl:=UB es hes
 rcases hh.ok _ (Xl ..) with ⟨rfl,h0⟩|⟨g,len,cap,cur,e,rfl,h1,h3,h4,h5,h6⟩
 ·have hes0:es=[]:=by
   cases es with
   | nil=>rfl
   | cons y r=>
    have h7:0<(r.length+1)*k:=Nat.mul_pos om hk
    rw [h0,YR] at hfl
    rw [<-hfl] at h7
    simp at h7
  subst hes0
  obtain ⟨k1,k2⟩:=MW (sz:=k) (hh.sub (Bg _ _))
  refine ⟨G,k1,⟨rfl,rfl,rfl,Xa _,fun _ _ h=>h,fun _ _=>.inl rfl,fun _ _ _ h=>.inl h,?_⟩,.nil (by simp)⟩
  rintro b o _ ⟨r,hr,hf⟩
  rcases YM.1 hr with rfl|hr
  ·exact hf.elim
  ·exact ⟨r,XC _ hr,hf⟩
 ·have hlen:len=es.length:=I3 hk (h5.symm.trans hfl)
  subst hlen
  let G':Yi:=fun b o=>G b o∨(b=g/\o<es.length*k)
  have hA:VZ G w w G':=⟨fun _ _ _=>rfl,fun _ _ h=>.inl h⟩
  have hmem:Res.row (.slice (some ⟨g,0,none⟩) es.length cap) k (Za es)∈Res.row (.slice (some ⟨g,0,none⟩) es.length cap) k (Za es)::h2:=Xl ..
  refine ⟨G',⟨fun r hr=>?_,WI.2 ⟨fun r hr b o f1 f2=>hpw.1 r hr b o f1.1 f2,hpw.2⟩,fun r hr b o hf hg=>?_,fun b o hg=>?_⟩,
   ⟨rfl,rfl,rfl,Xa _,fun _ _ h=>.inl h,fun _ _=>.inl rfl,fun b o _ hg=>hg.imp id fun ⟨e1,_⟩=>⟨_,hmem,e1⟩,?_⟩,?_⟩
  ·rcases YM.1 hr with rfl|hr
   ·exact .inr ⟨g,es.length,cap,cur,e,rfl,h1,h3,h4⟩
   ·exact (hh.ok r (XC _ hr)).same hA
  ·rcases YM.1 hr with rfl|hr2
   ·obtain ⟨hbg,hf2⟩:=hf
    rcases hg with hg|⟨_,hg⟩
    ·exact hh.prot _ hmem b o hbg hg
    ·omega
   ·rcases hg with hg|⟨hbg,_⟩
    ·exact hh.prot r (XC _ hr2) b o hf hg
    ·exact hpw.1 r hr2 b o hbg hf
  ·rcases hg with hg|⟨rfl,_⟩
   ·exact hh.lt b o hg
   ·exact (T0.1 h1).1
  ·rintro b o _ ⟨r,hr,hf⟩
   rcases YM.1 hr with rfl|hr
   ·exact ⟨_,hmem,hf.1⟩
   ·exact ⟨r,XC _ hr,hf⟩
  ·refine .sl (k:=k) (fun x hx=>by cases hx;rfl) h3 (Vg.of_flat es hes (WD.of_cells (h6.mono hA) fun j u hj=>?_))
   have hjl:j<es.length*k:=by
    have:=(Xj.1 hj).1
    have h7:=h6.length
    omega
   rw [Q5,Zg hjl] at hj
   refine ⟨?_,.inr ⟨rfl,by omega⟩⟩
   rw [Vf,cell_of_row w g j cur e (0,0) h1]
   simpa using hj
section
variable {P:Program} {n:Nat} {ops:Array Oper} {B:Fr->List Res->Prop} {k:Nat} {F:Fr} {h h2:List Res}
theorem DY {k:Nat}:T2 h (.row (.slice none 0 0) k []::h):=fun _ _ hh=>let ⟨a,b⟩:=Zh3 hh;⟨_,a,b⟩
theorem Zk3 (j:Nat) {v:Value} {kk m:Nat} {ls:List AV} (hl:DE P ops F k=some (.val v)) (hj:h[j]? = some (.row v kk ls)) (hm:ls.length=m*kk) (hk:0<kk):XG P (ZD ops k) F h [] (.val (.int .i64 m)):=by
 unfold DE at hl
 generalize hoo:ZD ops k=o at hl
 obtain ⟨dst,op,type,pos,after,guard⟩:=o
 cases op<;>simp only at hl<;>try (cases hl)
 rename_i c
 obtain ⟨callee,args,tys⟩:=c
 simp only at hl
 split at hl
 ·rename_i x t hargs htys
  split at hl
  ·rename_i el hu
   simp only [Wm] at hl
   intro n w G a hF hh
   have hv:=hF.ev x
   rw [hl] at hv
   have hv:=hv.val_inv
   obtain ⟨ad,len,cap,rfl,hlen⟩:=KZ.form (hh.ok _ (ZY hj))
   have:len=m:=I3 hk (hlen.symm.trans hm)
   subst this
   have e1:args=#[x]:=by rw [<-Uv (xs:=args),hargs]
   have e2:tys=#[t]:=by rw [<-Uv (xs:=tys),htys]
   subst e1;subst e2
   exact ⟨_,.val,fun w' _ _=>by simp [execOp,resolve,invoke,builtin,hv,Builtin.len_,VP hu,goInt]⟩
  ·cases hl
 ·cases hl
def M1 (ops:Array Oper) (F:Fr) (k:Nat):Option (TypeId × AV):=
 match (ZD ops k).op with
 | .load t x=>some (t,F.ev x)
 | _=>none
theorem Zk4 (j:Nat) {g len cap kk o:Nat} {ls zs:List AV} {t:TypeId} {y:AV} (hl:M1 ops F k=some (t,.val (.pointer (some ⟨g,o,none⟩)))) (hj:h[j]? = some (.row (.slice (some ⟨g,0,none⟩) len cap) kk ls))
  (hz:(ls.drop o).take zs.length=zs) (hy:B1 P t zs=some y):XG P (ZD ops k) F h [g] y:=by
 unfold M1 at hl
 generalize hoo:ZD ops k=q at hl
 obtain ⟨dst,op,type,pos,after,guard⟩:=q
 cases op<;>simp only at hl<;>try (cases hl)
 rename_i t' x
 intro n w G a hF hh
 simp only [Wm,Prod.mk.injEq] at hl
 obtain ⟨rfl,hl⟩:=hl
 have hv:=hF.ev x
 rw [hl] at hv
 have hv:=hv.val_inv
 rcases hh.ok _ (ZY hj) with ⟨h0,_⟩|⟨g',len',cap',cur,e,h0,h1,h2,h3,h4,h5⟩
 ·cases h0
 ·cases h0
  have hc:=(h5.drop o).take zs.length
  rw [hz] at hc
  obtain ⟨v,j1,j2⟩:=HC (P:=P) (b:=g) (o:=o) hy hc
  refine ⟨v,j1,fun w' _ hw=>?_⟩
  have hrow:=hw g (by simp)
  rw [h1] at hrow
  simp only [execOp,hv]
  refine Vc ?_
  simp only [Instr.loadAt,Instr.sureAddr,Sem.run_bind,Sem.run_pure,Result.andThen_ok]
  refine j2 w' fun j u hj=>?_
  rw [cell_of_row w' g (o+j) cur e (0,0) hrow]
  rw [Q5] at hj
  split at hj
  ·rw [E3,Q5] at hj
   split at hj
   ·simpa using hj
   ·cases hj
  ·cases hj
theorem Sv {K:Fr->List Res->Prop} {g len cap kk:Nat} {ls xs:List AV} {i:Nat} (hs:storeAt P ops F k=some (g,i,xs)) (hlt:i+xs.length<=ls.length)
  (hK:K F (.row (.slice (some ⟨g,0,none⟩) len cap) kk (ls.take i++xs++ls.drop (i+xs.length))::h2)):WC P n (ZD ops k) F (.row (.slice (some ⟨g,0,none⟩) len cap) kk ls::h2) K:=by
 unfold storeAt at hs
 generalize hoo:ZD ops k=q at hs
 obtain ⟨dst,op,type,pos,after,guard⟩:=q
 cases op<;>simp only at hs<;>try (cases hs)
 rename_i t x z
 split at hs
 ·rename_i b' o' inf hx hi
  split at hs
  ·rename_i hc
   simp only [Xi] at hc
   simp only [Wm,Prod.mk.injEq] at hs
   obtain ⟨rfl,rfl,hz⟩:=hs
   intro Q w G a hF hh
   have hvx:=hF.ev x
   rw [hx] at hvx
   have hvx:=hvx.val_inv
   have hvy:=hF.ev z
   have hcs:=hvy.cells hc.2.1
   rw [hz] at hcs hc
   have hone:=hcs.one_cells hc.2.2
   have Xn:inf.size=xs.length:=UG hc.1
   have hlen:(a.eval z).cells.size=xs.length:=by have:=hcs.length;simpa using this
   rcases hh.ok (.row (.slice (some ⟨b',0,none⟩) len cap) kk ls) (Xl ..) with ⟨h0,_⟩|⟨g',len',cap',cur,e,h0,h1,h2',h3,h4,h5⟩
   ·cases h0
   ·cases h0
    have hlc:len*kk<=cap*kk:=K3 _ h2'
    have hst:=run_storeCells_at P b' o' e (a.eval z).cells.toList 0 cur w h1 (by simp [hlen];omega) hone
    simp only [C7,KV] at hst
    have hr:(execOp a.eval { dst:=none,op:=.store t x z,type:=type,pos:=pos,after:=after,guard:=guard }).run P w =
      .ok .skip (w.setRow b' (cur.toList.take o'++(a.eval z).cells.toList++cur.toList.drop (o'+(a.eval z).cells.size)).toArray):=by
     simp only [execOp,hvx]
     simp [Instr.storeAt,Instr.sureAddr,storeVar,QI hi,hlen,Xn,hst]
    unfold Oper.wp
    rw [hr]
    have hcl:(a.eval z).cells.toList.length=xs.length:=by simpa using hlen
    obtain ⟨j1,j2⟩:=hh.rwrite (ls':=ls.take o'++xs++ls.drop (o'+xs.length)) (cs':=(cur.toList.take o'++(a.eval z).cells.toList++cur.toList.drop (o'+(a.eval z).cells.size)).toArray) h1
     (by simp [hlen];omega) h2' h3 (by simp;omega) (by
      rw [E6,hlen]
      have e1:(cur.toList.take o'++(a.eval z).cells.toList++cur.toList.drop (o'+xs.length)).take (len*kk) =
        (cur.toList.take (len*kk)).take o'++(a.eval z).cells.toList++(cur.toList.take (len*kk)).drop (o'+xs.length):=by
       have q1:(cur.toList.take o'++(a.eval z).cells.toList).length=o'+xs.length:=by simp [hlen];omega
       rw [List.take_append,q1,WM om,List.take_take,Vn om,List.drop_take]
      rw [e1]
      exact ((h5.take o').append hcs).append (h5.drop _))
    refine ⟨F,_,G,hK,?_,j1,j2⟩
    have:=hF.mono (j2.agree hh)
    simpa [Act.put] using this
  ·cases hs
 ·cases hs
theorem Zfb {K:Fr->List Res->Prop} {sz:Nat} (hd:Vw n (ZD ops k)=true) (ha:TK P ops F k=some ([],0,sz))
  (hK:∀g,K (F.put (ZD ops k).dst (.val (.slice (some ⟨g,0,none⟩) 0 0))) (.row (.slice (some ⟨g,0,none⟩) 0 0) sz []::h)):WC P n (ZD ops k) F h K:=by
 unfold TK at ha
 generalize hoo:ZD ops k=q at ha hd hK
 obtain ⟨dst,op,type,pos,after,guard⟩:=q
 cases op<;>simp only at ha<;>try (cases ha)
 rename_i t ln parts
 split at ha
 case h_2=>cases ha
 rename_i e ht
 split at ha
 case h_2=>cases ha
 rename_i i hi
 split at ha
 case h_2=>cases ha
 rename_i hc
 simp only [Xi] at hc
 split at ha
 case h_2=>cases ha
 rename_i ls' hf
 simp only [Wm,Prod.mk.injEq] at ha
 obtain ⟨rfl,rfl,Xn⟩:=ha
 intro Q w G a hF hh
 obtain ⟨cs,h1,h2⟩:=HB hF parts ht hi rfl hc.1 hc.2 hf
 have hr:(execOp a.eval { dst:=dst,op:=.buildSlice t 0 parts,type:=type,pos:=pos,after:=after,guard:=guard }).run P w =
   .ok (.value (.slice (some ⟨w.heap.size,0,none⟩) 0 0)) (w.alloc (.cells cs e)):=by
  simp only [execOp]
  exact Vc h2
 unfold Oper.wp
 rw [hr]
 have hlc:=h1.length
 simp only [KV] at hlc
 obtain ⟨j1,j2⟩:=hh.alloc_rrow cs e (ls:=[]) (len:=0) (cap:=0) (k:=sz) (Xa _) (by simpa using hlc) (by simp) (by simpa using YW.nil)
 exact ⟨_,_,G,hK _,(hF.mono (j2.agree hh)).put (US hd) .val,j1,j2⟩
theorem Zf9 {K:Fr->List Res->Prop} {g sz:Nat} {xs:List AV} {hx:Option Value} (hd:Vw n (ZD ops k)=true) (ha:UP P ops F k=some (.val (.slice (some ⟨g,0,none⟩) 0 0),.sl xs hx,sz))
  (hxs:∀y∈xs,y.leaves.length=sz) (hbound:xs.length<=4294967296)
  (hK:∀v:Hd,K (F.put (ZD ops k).dst (.val v.v)) (.row v.v sz (Za xs)::h2)):WC P n (ZD ops k) F (.row (.slice (some ⟨g,0,none⟩) 0 0) sz []::h2) K:=by
 unfold UP at ha
 generalize hoo:ZD ops k=o at ha hd hK
 obtain ⟨dst,op,type,pos,after,guard⟩:=o
 cases op<;>simp only at ha<;>try (cases ha)
 rename_i c
 obtain ⟨callee,args,tys⟩:=c
 simp only at ha
 split at ha
 case h_2=>cases ha
 rename_i s x t t' hargs htys
 split at ha
 case h_2=>cases ha
 rename_i e htt ht
 have:=UG htt
 subst this
 split at ha
 case h_2=>cases ha
 rename_i i hinfo
 split at ha
 case h_2=>cases ha
 rename_i z hz
 split at ha
 case h_2=>cases ha
 rename_i hb
 simp only [Xi] at hb
 simp only [Wm,Prod.mk.injEq] at ha
 obtain ⟨h3,h4,hk1⟩:=ha
 have e1:args=#[s,x]:=by rw [<-Uv (xs:=args),hargs]
 have e2:tys=#[t,t]:=by rw [<-Uv (xs:=tys),htys]
 subst e1;subst e2
 have hzs:z.cells.size=sz:=by rw [UG hb.1,hk1]
 have hby:=V8 hb.2
 intro Q w G a hF hh
 have v1:=hF.ev s
 have v2:=hF.ev x
 rw [h3] at v1
 rw [h4] at v2
 have v1:=v1.val_inv
 have v2:=v2.forget
 have finish:∀(v':Hd) w',(Builtin.append_ #[t,t] type #[.slice (some ⟨g,0,none⟩) 0 0,a.eval x]).run P w=.ok v'.v w'->YE w' G (.row v'.v sz (Za xs)::h2) ->
   X1 w G (.row (.slice (some ⟨g,0,none⟩) 0 0) sz []::h2) w' G (.row v'.v sz (Za xs)::h2) ->
   ({ dst:=dst,op:=.call { callee:=.builtin .append,args:=#[s,x],argTypes:=#[t,t] },type:=type,pos:=pos,after:=after,guard:=guard }:Oper).wp P a w
    (fun a' w'=>∃F' h' G',K F' h'/\FR w' G' n F' a'/\YE w' G' h'/\X1 w G (.row (.slice (some ⟨g,0,none⟩) 0 0) sz []::h2) w' G' h') Q:=by
  intro v' w' hr j1 j2
  have hrun:(execOp a.eval { dst:=dst,op:=.call { callee:=.builtin .append,args:=#[s,x],argTypes:=#[t,t] },type:=type,pos:=pos,after:=after,guard:=guard }).run P w=.ok (.value v'.v) w':=by
   simp only [execOp,resolve,invoke,builtin,Sem.run_bind,Sem.run_pure,Result.andThen_ok,CX,Ve,C3,v1,hr]
  unfold Oper.wp
  rw [hrun]
  exact ⟨_,_,G,hK v',(hF.mono (j2.agree hh)).put (US hd) .val,j1,j2⟩
 by_cases hxe:xs=[]
 ·subst hxe
  cases v2q:a.eval x with
  | slice ad' l' c'=>
   rw [v2q] at v2
   cases v2<;>exact finish ⟨some ⟨g,0,none⟩,0,0⟩ _ (by rw [v2q];exact DQ ht hinfo (Xa _) w) hh (X1.refl w G _)
  | _=>rw [v2q] at v2;cases v2
 ·generalize hax:a.eval x=ax at v2 finish
  cases v2 with
  | nil _=>exact absurd rfl hxe
  | sl hq hcc hm=>
   rename_i b o' k' c
   have hpos:0<xs.length:=I1.2 hxe
   have hfm:=hm.flat_mem
   obtain ⟨news,hn,hnc⟩:=hfm.cells
   have hfl:=UB xs hxs
   have hnl:news.length=xs.length*i.size:=by rw [hn.length,hfl,hk1]
   have hnews:∀j u,news[j]? = some u->w.cell? ((⟨b,o',none⟩:Addr).add j)=some u:=fun j u hj=>by rw [J2];exact (hnc j u hj).1
   have hbb:(0+xs.length)*i.bytes<=140737488355328:=by
    have:=Nat.mul_le_mul hbound hby
    rw [Vf]
    omega
   have hr:=run_append_grow (P:=P) w t type e i z ht hinfo hz ⟨g,0,none⟩ 0 0 [] (by simp) (fun j u hj=>by simp at hj) ⟨b,o',none⟩ xs.length c news hnl hnews om om (growslice_fits om hbb)
   simp only [Vf] at hr
   have Xp:=grownCap_ge w xs.length 0 e
   obtain ⟨j1,j2⟩:=hh.drew.alloc_rrow ([].toArray++news.toArray++Builtin.zeroCells z.cells (grownCap w xs.length 0 e-xs.length)) e
    (ls:=Za xs) (len:=xs.length) (cap:=grownCap w xs.length 0 e) (k:=sz) Xp
    (by
     have q2:(grownCap w xs.length 0 e-xs.length)*sz=grownCap w xs.length 0 e*sz-xs.length*sz:=Nat.sub_mul ..
     have q3:xs.length*sz<=grownCap w xs.length 0 e*sz:=K3 _ Xp
     simp only [Array.size_append,E5,size_zeroCells,hzs,Xx,Vf,hnl,hk1]
     omega) hfl
    (by
     have q1:([].toArray++news.toArray++Builtin.zeroCells z.cells (grownCap w xs.length 0 e-xs.length)).toList.take (xs.length*sz)=news:=by
      simp only [E2,C4]
      rw [<-hk1,<-hnl]
      exact Am
     rw [q1]
     exact hn.mono (Bp w G))
   have hs:List.Sublist (.row (.slice (some ⟨w.drew.heap.size,0,none⟩) xs.length (grownCap w xs.length 0 e)) sz (Za xs)::h2)
     (.row (.slice (some ⟨w.drew.heap.size,0,none⟩) xs.length (grownCap w xs.length 0 e)) sz (Za xs)::.row (.slice (some ⟨g,0,none⟩) 0 0) sz []::h2):=List.Sublist.cons_cons _ (Bg _ _)
   exact finish ⟨some ⟨w.heap.size,0,none⟩,xs.length,grownCap w xs.length 0 e⟩ _ hr (j1.sub hs) ((X1.drew w G _).trans (j2.sub' hs))
def M5 (P:Program) (ops:Array Oper) (F:Fr) (k:Nat):Option (Int × Int × List AV):=
 match (ZD ops k).op with
 | .makeSlice t l c=>match P.underlying t with
  | some (.slice e)=>match P.info? e with
   | some i=>match i.zero with
    | some z=>match Nat.beq i.size z.cells.toList.length&&Nat.ble i.bytes 32768,F.ev l,F.ev c with
     | true,.val (.int _ l),.val (.int _ c)=>some (l,c,z.cells.toList.map AV.ofVal)
     | _,_,_=>none
    | none=>none
   | none=>none
  | _=>none
 | _=>none
theorem S4 (zs:List Value) (hz:0<zs.length):∀n:Nat,(madeCells zs.toArray (n*zs.length)).toList=(List.replicate n zs).flatten
 | 0=>by simp [madeCells]
 | n+1=>by
  have ih:=S4 zs hz n
  have hlen:∀m,(madeCells zs.toArray m).toList.length=m:=fun m=>by simp [madeCells]
  have hget:∀m i,i<m->(madeCells zs.toArray m).toList[i]? = some (zs.toArray[i % zs.toArray.size]!):=fun m i hi=>by simp [madeCells,hi]
  rw [List.replicate_succ',List.flatten_append,<-ih]
  apply List.ext_getElem?
  intro i
  simp only [List.flatten_cons,List.flatten_nil,Qp]
  by_cases h1:i<n*zs.length
  ·rw [CW (by rw [hlen];exact h1),hget _ i h1,hget _ i (by rw [TR];omega)]
  ·rw [C2 (by rw [hlen];omega),hlen]
   by_cases h2:i<(n+1)*zs.length
   ·rw [hget _ i h2]
    rw [TR] at h2
    have e:i=(i-n*zs.length)+zs.length*n:=by rw [Nat.mul_comm zs.length n];omega
    have e2:i % zs.length=i-n*zs.length:=by
     conv=>lhs;rw [e,Nat.add_mul_mod_self_left]
     exact Nat.mod_eq_of_lt om
    have h3:i-n*zs.length<zs.length:=by omega
    simp [e2,h3]
   ·rw [Qr (by rw [hlen];omega),Qr (by rw [TR] at h2;omega)]
theorem Z08 {w:World} {G:Yi} {xs:List AV} {vs:List Value} (h:YW w G xs vs):∀n,YW w G (List.replicate n xs).flatten (List.replicate n vs).flatten
 | 0=>by simpa using YW.nil
 | n+1=>by simp only [C6,List.flatten_cons];exact h.append (Z08 h n)
theorem Z07 {w:World} {G:Yi}:∀vs:List Value,YW w G (vs.map AV.ofVal) vs
 | []=>.nil
 | v::r=>.cons (RV.ofVal v) (Z07 r)
theorem Zfc {K:Fr->List Res->Prop} {l:Nat} {zs:List AV} (hd:Vw n (ZD ops k)=true) (hm:M5 P ops F k=some ((l:Int),(l:Int),zs)) (hl:l<=4294967296) (hz:0<zs.length)
  (hK:∀g,K (F.put (ZD ops k).dst (.val (.slice (some ⟨g,0,none⟩) l l))) (.row (.slice (some ⟨g,0,none⟩) l l) zs.length (List.replicate l zs).flatten::h)):WC P n (ZD ops k) F h K:=by
 unfold M5 at hm
 generalize hoo:ZD ops k=o at hm hd hK
 obtain ⟨dst,op,type,pos,after,guard⟩:=o
 cases op<;>simp only at hm<;>try (cases hm)
 rename_i t lo co
 split at hm
 case h_2=>cases hm
 rename_i e ht
 split at hm
 case h_2=>cases hm
 rename_i i hi
 split at hm
 case h_2=>cases hm
 rename_i z hzz
 split at hm
 case h_2=>cases hm
 rename_i k1 l' k2 c' hb hlo hco
 simp only [Xi] at hb
 simp only [Wm,Prod.mk.injEq] at hm
 obtain ⟨rfl,rfl,rfl⟩:=hm
 intro Q w G a hF hh
 have v1:=hF.ev lo
 have v2:=hF.ev co
 rw [hlo] at v1
 rw [hco] at v2
 have v1:=v1.val_inv
 have v2:=v2.val_inv
 have hs:=UG hb.1
 have hbytes:=V8 hb.2
 have hr:=run_make (P:=P) w t e i z ht hi hzz k1 k2 (l:Int) (l:Int) om om (by
  have h1:(i.bytes:Int)<=32768:=by omega
  have h2:(i.bytes:Int)*(l:Int)<=32768*(l:Int):=Int.mul_le_mul_of_nonneg_right h1 om
  omega) om
 have hzl:(z.cells.toList.map AV.ofVal).length=z.cells.toList.length:=by simp
 have hr2:(execOp a.eval { dst:=dst,op:=.makeSlice t lo co,type:=type,pos:=pos,after:=after,guard:=guard }).run P w =
   .ok (.value (.slice (some ⟨w.heap.size,0,none⟩) l l)) (w.alloc (.cells (madeCells z.cells (l*i.size)) e)):=by
  simp only [execOp,v1,v2]
  simpa using Vc hr
 unfold Oper.wp
 rw [hr2]
 have hmc:(madeCells z.cells (l*i.size)).toList=(List.replicate l z.cells.toList).flatten:=by
  rw [hs,<-S4 _ (by rw [hzl] at hz;exact hz) l]
 rw [hzl] at hK
 obtain ⟨j1,j2⟩:=hh.alloc_rrow (madeCells z.cells (l*i.size)) e (ls:=(List.replicate l (z.cells.toList.map AV.ofVal)).flatten) (len:=l) (cap:=l) (k:=z.cells.toList.length) (Xa _)
  (by rw [size_madeCells,hs]) (by simp) (by
   rw [hmc,WM (by simp)]
   exact Z08 (Z07 _) l)
 exact ⟨_,_,G,hK _,(hF.mono (j2.agree hh)).put (US hd) .val,j1,j2⟩
theorem Ms {w:World} {G:Yi} {v:Hd} {kk m:Nat} {ls:List AV} (h:KZ w G v.v kk ls) (hm:ls.length=m*kk) (hk:0<kk) (h0:0<m):∃g c,v=⟨some ⟨g,0,none⟩,m,c⟩:=by
 obtain ⟨a,l,c⟩:=v
 rcases h with ⟨h1,h2⟩|⟨g,len,cap,cur,e,h1,h2,h3,h4,h5,h6⟩
 ·subst h2
  have:=Nat.mul_pos h0 hk
  rw [Xx] at hm
  omega
 ·cases h1
  have:l=m:=I3 hk (h5.symm.trans hm)
  subst this
  exact ⟨g,c,rfl⟩
theorem Z3l (j m:Nat) {v:Hd} {kk:Nat} {ls:List AV} {c:Code} {A:V2} (hj:h[j]? = some (.row v.v kk ls)) (hm:ls.length=m*kk) (hk:0<kk) (h0:0<m)
  (H:∀g c',v=⟨some ⟨g,0,none⟩,m,c'⟩->YD P n c A F h):YD P n c A F h:=by
 intro w G a hF hh
 obtain ⟨g,c',e⟩:=Ms (hh.ok _ (ZY hj)) hm hk h0
 exact H g c' e w G a hF hh
theorem Z3k (t j:Nat) {v:Hd} {kk:Nat} {es:List AV} {c:Code} {A:V2} (hF':F.get t=.h v) (hp:Wo [j] h=some [.row v.v kk (Za es)]) (hes:∀y∈es,y.leaves.length=kk) (hk:0<kk)
  (H:YD P n c A ((t,.sl es (some v.v))::F) (.tail v.v kk::XN [j] h)):YD P n c A F h:=by
 intro w G a hF hh
 have hp':=Us (VB hp)
 obtain ⟨G',h1,h2',h3⟩:=BM (hh.perm hp') hes hk
 have e:=h2'.perm hp'.symm (QL _)
 have hF2:=hF.mono (e.agree hh)
 have hv:=hF2.get t
 rw [hF'] at hv
 have hv:=hv.val_inv
 refine wp_mono (H w G' a ⟨hF2.defers,hF2.size,fun s=>?_⟩ h1) fun e' a' w' hc=>hc.trans e
 show RV w G' (match Nat.beq t s with|true=>_|false=>Fr.get F s) _
 cases hb:Nat.beq t s with
 | true=>
  have:=UG hb
  subst this
  rw [hv]
  exact h3
 | false=>exact hF2.get s
theorem Z2j (j i p:Nat) {u v:Value} {kk kv:Nat} {es ls:List AV} (hp:Wo [j,i] h=some [.row u kk (Za es),.row v kv ls]) (hes:∀y∈es,y.leaves.length=kk) (hk:0<kk) (hl:ls[p]? = some (.val u)) :
  T2 h (.row v kv (ls.set p (.sl es (some u)))::.tail u kk::XN [j,i] h):=by
 intro w G hh
 have hp':=Us (VB hp)
 have hh':=hh.perm hp'
 obtain ⟨G',h1,h2',h3⟩:=BM (h2:=.row v kv ls::XN [j,i] h) hh' hes hk
 have e:=h2'.perm hp'.symm (QL _)
 have h1:YE w G' (.tail u kk::.row v kv ls::XN [j,i] h):=h1
 have perm:(Res.tail u kk::.row v kv ls::XN [j,i] h).Perm (.row v kv ls::.tail u kk::XN [j,i] h):=List.Perm.swap ..
 have h4:=h1.perm perm
 have e4:=e.perm (QL _) perm
 have hset:∀{w:World} {G:Yi},RV w G (.sl es (some u)) u->KZ w G v kv ls->KZ w G v kv (ls.set p (.sl es (some u))):=by
  intro w G hu hr
  rcases hr with ⟨rfl,h0⟩|⟨g,len,cap,cur,el,rfl,k1,k2,k3,k4,k5⟩
  ·exact .inl ⟨rfl,by rw [h0];rfl⟩
  ·refine .inr ⟨g,len,cap,cur,el,rfl,k1,k2,k3,by rw [T1];exact k4,?_⟩
   obtain ⟨c,c1,c2⟩:=k5.get p _ hl
   have:=c2.val_inv
   subst this
   have h6:=k5.set p hu
   rwa [show (cur.toList.take (len*kv)).set p c=cur.toList.take (len*kv) from by
    apply List.ext_getElem?
    intro q
    rw [List.getElem?_set]
    split
    ·rename_i hq;subst hq;split
     ·exact c1.symm
     ·rename_i hq2;rw [Qr om]
    ·rfl] at h6
 refine ⟨G',⟨fun r hr=>?_,?_,fun r hr=>?_,h4.lt⟩,⟨e4.os,e4.tape,e4.output,e4.size,e4.sub,e4.same,e4.newG,fun b o hb ⟨r,hr,hf⟩=>e4.newfp b o hb ?_⟩⟩
 ·rcases YM.1 hr with rfl|hr
  ·exact hset h3 (h4.ok _ (Xl ..))
  ·exact h4.ok r (XC _ hr)
 ·have:=WI.1 h4.apart
  refine WI.2 ⟨fun r hr b o f1 f2=>this.1 r hr b o ?_ f2,this.2⟩
  cases v with
  | slice a _ _=>cases a with
   | none=>exact f1.elim
   | some a=>exact f1
  | _=>exact f1.elim
 ·rcases YM.1 hr with rfl|hr
  ·intro b o f1 hg
   refine h4.prot (.row v kv ls) (Xl ..) b o ?_ hg
   cases v with
   | slice a _ _=>cases a with
    | none=>exact f1.elim
    | some a=>exact f1
   | _=>exact f1.elim
  ·exact h4.prot r (XC _ hr)
 ·rcases YM.1 hr with rfl|hr
  ·refine ⟨.row v kv ls,Xl ..,?_⟩
   cases v with
   | slice a _ _=>cases a with
    | none=>exact hf.elim
    | some a=>exact hf
   | _=>exact hf.elim
  ·exact ⟨r,XC _ hr,hf⟩
def K8:List Res->Option (List (Value × Nat))
 | []=>some []
 | .tail v k::r=>(K8 r).map ((v,k)::·)
 | .many ts::r=>(K8 r).map (ts++·)
 | _=>none
theorem Ch {b o:Nat}:∀{hs:List Res} {L:List (Value × Nat)},K8 hs=some L->((∃p∈L,Fw p.1 p.2 b o)↔Vb hs b o)
 | [],L,h=>by cases h;simp [Vb]
 | .tail v k::r,L,h=>by
  rw [K8] at h
  cases hr:K8 r with
  | none=>rw [hr] at h;cases h
  | some L'=>
   rw [hr] at h
   cases h
   have ih:=Ch (b:=b) (o:=o) hr
   have ht:Res.fp (.tail v k) b o↔Fw v k b o:=by
    cases v with
    | slice a _ _=>cases a<;>exact Iff.rfl
    | _=>exact Iff.rfl
   simp only [Vb,YM,exists_eq_or_imp] at ih ⊢
   rw [ht,ih]
 | .many ts::r,L,h=>by
  rw [K8] at h
  cases hr:K8 r with
  | none=>rw [hr] at h;cases h
  | some L'=>
   rw [hr] at h
   cases h
   have ih:=Ch (b:=b) (o:=o) hr
   simp only [Vb,YM,exists_eq_or_imp] at ih ⊢
   rw [<-ih]
   simp only [Xv,Res.fp]
   constructor
   ·rintro ⟨p,hp|hp,hf⟩
    ·exact .inl ⟨p,hp,hf⟩
    ·exact .inr ⟨p,hp,hf⟩
   ·rintro (⟨p,hp,hf⟩|⟨p,hp,hf⟩)
    ·exact ⟨p,.inl hp,hf⟩
    ·exact ⟨p,.inr hp,hf⟩
 | .obj _ _::_,_,h=>by cases h
 | .ge _::_,_,h=>by cases h
 | .vec _ _::_,_,h=>by cases h
 | .own _ _::_,_,h=>by cases h
 | .row _ _ _::_,_,h=>by cases h
theorem Ip {w:World} {G:Yi}:∀{hs:List Res} {L:List (Value × Nat)},K8 hs=some L->(∀r∈hs,Qt w G r)->hs.Pairwise Aq->Qt w G (.many L)
 | [],L,h,_,_=>by cases h;exact ⟨by simp,.nil⟩
 | .tail v k::r,L,h,h1,h2=>by
  rw [K8] at h
  cases hr:K8 r with
  | none=>rw [hr] at h;cases h
  | some L'=>
   rw [hr] at h
   cases h
   have hpw:=WI.1 h2
   obtain ⟨i1,i2⟩:=Ip (w:=w) (G:=G) hr (fun q hq=>h1 q (XC _ hq)) hpw.2
   refine ⟨fun p hp=>?_,WI.2 ⟨fun p hp b o f1 f2=>?_,i2⟩⟩
   ·rcases YM.1 hp with rfl|hp
    ·exact h1 (.tail v k) (Xl ..)
    ·exact i1 p hp
   ·obtain ⟨q,hq,hf⟩:=(Ch hr).1 ⟨p,hp,f2⟩
    refine hpw.1 q hq b o ?_ hf
    cases v with
    | slice a _ _=>cases a<;>exact f1
    | _=>exact f1
 | .many ts::r,L,h,h1,h2=>by
  rw [K8] at h
  cases hr:K8 r with
  | none=>rw [hr] at h;cases h
  | some L'=>
   rw [hr] at h
   cases h
   have hpw:=WI.1 h2
   obtain ⟨i1,i2⟩:=Ip (w:=w) (G:=G) hr (fun q hq=>h1 q (XC _ hq)) hpw.2
   obtain ⟨t1,t2⟩:=h1 (.many ts) (Xl ..)
   refine ⟨fun p hp=>?_,JL.2 ⟨t2,i2,fun p hp q hq b o f1 f2=>?_⟩⟩
   ·rcases Xv.1 hp with hp|hp
    ·exact t1 p hp
    ·exact i1 p hp
   ·obtain ⟨s,hs,hf⟩:=(Ch hr).1 ⟨q,hq,f2⟩
    exact hpw.1 s hs b o ⟨p,hp,f1⟩ hf
 | .obj _ _::_,_,h,_,_=>by cases h
 | .ge _::_,_,h,_,_=>by cases h
 | .vec _ _::_,_,h,_,_=>by cases h
 | .own _ _::_,_,h,_,_=>by cases h
 | .row _ _ _::_,_,h,_,_=>by cases h
theorem Zkm (is:List Nat) {L:List (Value × Nat)} {hs:List Res} (hp:Wo is h=some hs) (hb:K8 hs=some L):T2 h (.many L::XN is h):=by
 intro w G hh
 have hp':=Us (VB hp)
 have hh':=hh.perm hp'
 have hpw:=JL.1 hh'.apart
 have hmany:=Ip (w:=w) (G:=G) hb (fun r hr=>hh'.ok r (Xv.2 (.inl hr))) hpw.1
 refine ⟨G,⟨fun r hr=>?_,WI.2 ⟨fun r hr b o f1 f2=>?_,hpw.2.1⟩,fun r hr b o hf hg=>?_,hh'.lt⟩,
  ⟨rfl,rfl,rfl,Xa _,fun _ _ h=>h,fun _ _=>.inl rfl,fun _ _ _ h=>.inl h,fun b o _ ⟨r,hr,hf⟩=>?_⟩⟩
 ·rcases YM.1 hr with rfl|hr
  ·exact hmany
  ·exact hh'.ok r (Xv.2 (.inr hr))
 ·exact hh'.cross ((Ch hb).1 f1) ⟨r,hr,f2⟩
 ·rcases YM.1 hr with rfl|hr
  ·obtain ⟨q,hq,hf⟩:=(Ch hb).1 hf
   exact hh'.prot q (Xv.2 (.inl hq)) b o hf hg
  ·exact hh'.prot r (Xv.2 (.inr hr)) b o hf hg
 ·refine (AO hp').2 ?_
  rcases YM.1 hr with rfl|hr
  ·exact A6.2 (.inl ((Ch hb).1 hf))
  ·exact A6.2 (.inr ⟨r,hr,hf⟩)
end
end Go.Abs
section
namespace Go.Abs
structure Vu where
 fields:LI
 fv:Value
structure Vv where
 frm:Int
 to_:Int
 cons:List Vu
 cv:Value
mutual
inductive Cb where
 | mk (op num into:Int) (args:LI) (av:Value) (kids:List Bl) (kv:Value)
inductive Bl where
 | mk (steps:List Cb) (sv:Value) (result:Int)
end
namespace Cb
end Cb
namespace Bl
end Bl
structure FF where
 params:LI
 pv:Value
 lent:LI
 lv:Value
 result:Int
 body:Bl
structure Nj where
 decls:List Vv
 dv:Value
 routines:List FF
 rv:Value
abbrev RE (c:Vu):List AV:=[ZX c.fields c.fv]
abbrev Nl (c:Vu):AV:=.agg (RE c)
def Uo (cs:List Vu):List AV:=cs.map Nl
abbrev F8 (xs:List Vu) (v:Value):AV:=.sl (Uo xs) (some v)
abbrev RG (d:Vv):List AV:=[.i d.frm,.i d.to_,F8 d.cons d.cv]
abbrev Nm (d:Vv):AV:=.agg (RG d)
def Vq (ds:List Vv):List AV:=ds.map Nm
abbrev Zex (xs:List Vv) (v:Value):AV:=.sl (Vq xs) (some v)
@[simp] theorem Zm2 (xs:List Vu):(Uo xs).length=xs.length:=by simp [Uo]
theorem Z79 (xs ys:List Vu):Uo (xs++ys)=Uo xs++Uo ys:=by simp [Uo]
theorem OF (xs:List Vu):∀y∈Uo xs,y.leaves.length=1:=by intro y hy;simp only [Uo,XD] at hy;obtain ⟨x,_,rfl⟩:=hy;rfl
@[simp] theorem Zm3 (xs:List Vv):(Vq xs).length=xs.length:=by simp [Vq]
theorem Z7a (xs ys:List Vv):Vq (xs++ys)=Vq xs++Vq ys:=by simp [Vq]
theorem OG (xs:List Vv):∀y∈Vq xs,y.leaves.length=3:=by intro y hy;simp only [Vq,XD] at hy;obtain ⟨x,_,rfl⟩:=hy;rfl
def EJ (c:Vu):List (Value × Nat):=[(c.fv,1)]
def QB (cs:List Vu):List (Value × Nat):=cs.flatMap EJ
def EK (d:Vv):List (Value × Nat):=QB d.cons++[(d.cv,1)]
def QR (ds:List Vv):List (Value × Nat):=ds.flatMap EK
mutual
def EM:Cb->List (Value × Nat)
 | .mk _ _ _ _ av kids kv=>(av,1)::(Kg kids++[(kv,2)])
def Dw:Bl->List (Value × Nat)
 | .mk steps sv _=>Kh steps++[(sv,5)]
def Kh:List Cb->List (Value × Nat)
 | []=>[]
 | s::r=>EM s++Kh r
def Kg:List Bl->List (Value × Nat)
 | []=>[]
 | b::r=>Dw b++Kg r
end
def EL (r:FF):List (Value × Nat):=(r.pv,1)::(r.lv,1)::Dw r.body
def AX (rs:List FF):List (Value × Nat):=rs.flatMap EL
def GG (n:Nj):List (Value × Nat):=QR n.decls++((n.dv,3)::(AX n.routines++[(n.rv,5)]))
theorem EN:∀(xs:List Cb) (ys:List Cb),Kh (xs++ys)=Kh xs++Kh ys
 | [],ys=>by simp [Kh]
 | x::r,ys=>by rw [K1,Kh,Kh,EN r ys,Uj]
theorem EI:∀(xs:List Bl) (ys:List Bl),Kg (xs++ys)=Kg xs++Kg ys
 | [],ys=>by simp [Kg]
 | x::r,ys=>by rw [K1,Kg,Kg,EI r ys,Uj]
theorem GI:Kh []=[]:=by rw [Kh]
theorem Gz:Kg []=[]:=by rw [Kg]
theorem GC (xs ys:List Vu):QB (xs++ys)=QB xs++QB ys:=by simp [QB]
theorem GF (xs ys:List Vv):QR (xs++ys)=QR xs++QR ys:=by simp [QR]
theorem GH (xs ys:List FF):AX (xs++ys)=AX xs++AX ys:=by simp [AX]
def Vu.er (c:Vu):Yl:=⟨c.fields⟩
def Vv.er (d:Vv):Zf:=⟨d.frm,d.to_,d.cons.map Vu.er⟩
inductive UM:List AV->List AV->Prop
 | nil:UM [] []
 | cons {x y:AV} {xs ys:List AV} (hl:x.leaves.length=y.leaves.length) (h:Wx x.leaves y.leaves) (t:UM xs ys):UM (x::xs) (y::ys)
theorem UM.length:∀{xs ys:List AV},UM xs ys->xs.length=ys.length
 | _,_,.nil=>rfl
 | _,_,.cons _ _ t=>by simp [t.length]
theorem UM.els {w:World} {G:Yi} {k b:Nat}:∀{o:Nat} {xs ys:List AV},UM xs ys->Vg w G k b o xs->Vg w G k b o ys
 | _,_,_,.nil,_=>.nil
 | _,_,_,.cons hl h t,.cons hk hm r=>.cons (hl▸hk) (h.mem hm) (t.els r)
theorem Zd.els {es es':List AV} (hv:Option Value) (h:UM es es'):Zd (.sl es hv) (.sl es' none):=by
 intro w G v hr
 cases hr with
 | nil _=>cases h;exact .nil (by simp)
 | sl _ hc hm=>rw [h.length] at hc ⊢;exact .sl (by simp) hc (h.els hm)
theorem UM.map {α β:Type} {f:α->AV} {g:β->AV} {e:α->β} (h:∀x,(f x).leaves.length=(g (e x)).leaves.length/\Wx (f x).leaves (g (e x)).leaves):∀xs:List α,UM (xs.map f) ((xs.map e).map g)
 | []=>.nil
 | x::r=>.cons (h x).1 (h x).2 (UM.map h r)
theorem Zea (c:Vu):Wx (RE c) (DD c.er):=.cons (Zd.forget _ _) .nil
theorem Z7p (cs:List Vu):UM (Uo cs) (XU (cs.map Vu.er)):=UM.map (f:=Nl) (g:=D0) (e:=Vu.er) (fun c=>⟨rfl,Zea c⟩) cs
theorem Zeb (d:Vv):Wx (RG d) (TJ d.er):=.cons (Zd.refl _) (.cons (Zd.refl _) (.cons (Zd.els _ (Z7p _)) .nil))
theorem Z7q (ds:List Vv):UM (Vq ds) (YH (ds.map Vv.er)):=UM.map (f:=Nm) (g:=As) (e:=Vv.er) (fun c=>⟨rfl,Zeb c⟩) ds
theorem Qf {es:List AV} {k:Nat} (h:es.all (fun y=>Nat.beq y.leaves.length k)=true):∀y∈es,y.leaves.length=k:=fun y hy=>UG (JJ.1 h y hy)
abbrev rK (g:Hd) (k:Nat) (ls:List AV):Res:=.row g.v k ls
section
variable {P:Program} {n:Nat} {c:Code} {A:V2} {F:Fr} {h:List Res} {ops:Array Oper} {B:Fr->List Res->Prop} {k:Nat}
variable {T:List (Nat × List Nat)} {fuel:Nat} {done:List Nat}
theorem tB (is:List Nat) (hs:List Res) (L' L:List (Value × Nat)) (e:L'=L) (hp:Wo is h=some hs:=by kernel_rfl) (hb:K8 hs=some L':=by kernel_rfl):T2 h (.many L::XN is h):=e▸Zkm is hp hb
theorem rr {v:Value} {q:Nat} {ls ls':List AV} {t t':List Res} (h:ls=ls') (e:t=t'):Res.row v q ls::t=.row v q ls'::t':=h▸e▸rfl
theorem Ri (j m:Nat) (v:Hd) (kk:Nat) (ls:List AV) (hm:ls.length=m*kk) (hk:0<kk:=by omega) (hl:DE P ops F k=some (.h v):=by kernel_rfl) (hj:h[j]? = some (rK v kk ls):=by kernel_rfl):XG P (ZD ops k) F h [] (.i m):=
 Zk3 j hl hj hm hk
theorem XQ (b l c' q sz:Nat) (j:Int) (hq:j=(q:Int)/\q<l:=by omega) (hi:BC P ops F k=some (.val (.slice (some ⟨b,0,none⟩) l c'),j,sz):=by kernel_rfl):XG P (ZD ops k) F h [] (.val (.pointer (some ⟨b,q*sz,none⟩))):=by
 have:=Z22 (P:=P) (F:=F) (h:=h) hi om om
 rw [hq.1,Uw,Vf] at this
 exact this
theorem WQ (j g len cap kk o:Nat) (ls zs:List AV) (t:TypeId) (y:AV) (hz:(ls.drop o).take zs.length=zs) (hl:M1 ops F k=some (t,.val (.pointer (some ⟨g,o,none⟩))):=by kernel_rfl) (hj:h[j]? = some (.row (.slice (some ⟨g,0,none⟩) len cap) kk ls):=by kernel_rfl)
  (hy:B1 P t zs=some y:=by kernel_rfl):XG P (ZD ops k) F h [g] y:=Zk4 j hl hj hz hy
theorem AY (j g len cap kk o:Nat) (xs ls:List AV) (ls':List AV) (hlt:o+xs.length<=ls.length) (he:ls.take o++xs++ls.drop (o+xs.length)=ls') (H:SI P n ops B (k+1) F (.row (.slice (some ⟨g,0,none⟩) len cap) kk ls'::XN [j] h)) (hk:Xk n ops F k=true:=by kernel_rfl)
  (hs:storeAt P ops F k=some (g,o,xs):=by kernel_rfl) (hp:Wo [j] h=some [.row (.slice (some ⟨g,0,none⟩) len cap) kk ls]:=by kernel_rfl):SI P n ops B k F h:=
 Q0 hk (WC.perm (Us (VB hp)) (Sv hs hlt (by rw [he];exact H)))
theorem JW (i j:Nat) (js bs:List Nat) (g len cap kk o:Nat) (xs ls:List AV) (ls':List AV) (hlt:o+xs.length<=ls.length) (he:ls.take o++xs++ls.drop (o+xs.length)=ls')
  (H:YZ P n ops B (T.filter fun t=>!Va ops i t.1) fuel (done++[i]) F (.row (.slice (some ⟨g,0,none⟩) len cap) kk ls'::XN [j] h)) (hk:Xk n ops F i=true:=by kernel_rfl)
  (hs:storeAt P ops F i=some (g,o,xs):=by kernel_rfl) (hp:Wo [j] h=some [.row (.slice (some ⟨g,0,none⟩) len cap) kk ls]:=by kernel_rfl) (ho:Uf ops i T=bs:=by kernel_rfl)
  (hj:js.map (fun q=>(WS (XN [j] h))[q]?)=bs.map some:=by kernel_rfl):VD P n ops B T fuel done F h i:=
 KF [j] js bs hk (VB hp) ho hj (Sv (h2:=[]) hs hlt (by rw [he];exact H))
theorem CC (sz:Nat) (hK:∀g,SI P n ops B (k+1) (F.put (ZD ops k).dst (.val (.slice (some ⟨g,0,none⟩) 0 0))) (.row (.slice (some ⟨g,0,none⟩) 0 0) sz []::h)) (hk:Xk n ops F k=true:=by kernel_rfl)
  (ha:TK P ops F k=some ([],0,sz):=by kernel_rfl):SI P n ops B k F h:=Q0 hk (Zfb (VX hk).2.1 ha hK)
theorem GQ (j g sz:Nat) (xs:List AV) (hx:Option Value) (hxs:∀y∈xs,y.leaves.length=sz) (hbound:xs.length<=4294967296) (hK:∀v:Hd,SI P n ops B (k+1) (F.put (ZD ops k).dst (.h v)) (rK v sz (Za xs)::XN [j] h))
  (hk:Xk n ops F k=true:=by kernel_rfl) (ha:UP P ops F k=some (.val (.slice (some ⟨g,0,none⟩) 0 0),.sl xs hx,sz):=by kernel_rfl) (hp:Wo [j] h=some [.row (.slice (some ⟨g,0,none⟩) 0 0) sz []]:=by kernel_rfl):SI P n ops B k F h:=
 Q0 hk (WC.perm (Us (VB hp)) (Zf9 (VX hk).2.1 ha hxs hbound hK))
theorem iKM (l:Nat) (zs:List AV) (kk:Nat) (hK:∀g,SI P n ops B (k+1) (F.put (ZD ops k).dst (.val (.slice (some ⟨g,0,none⟩) l l))) (.row (.slice (some ⟨g,0,none⟩) l l) kk (List.replicate l zs).flatten::h)) (hl:l<=4294967296:=by omega)
  (hk:Xk n ops F k=true:=by kernel_rfl) (hm:M5 P ops F k=some ((l:Int),(l:Int),zs):=by kernel_rfl) (hz:zs.length=kk:=by rfl) (hk0:0<kk:=by omega):SI P n ops B k F h:=by
 subst hz
 exact Q0 hk (Zfc (VX hk).2.1 hm hl hk0 hK)
theorem Rf (j m:Nat) {v:Hd} {kk:Nat} {ls:List AV} (hm:ls.length=m*kk) (h0:0<m) (H:∀g c',v=⟨some ⟨g,0,none⟩,m,c'⟩->YD P n c A F h) (hk:0<kk:=by omega) (hj:h[j]? = some (rK v kk ls):=by kernel_rfl):YD P n c A F h:=
 Z3l j m hj hm hk h0 H
theorem Rh (t j:Nat) {v:Hd} {kk:Nat} (es:List AV) (hes:∀y∈es,y.leaves.length=kk) (H:YD P n c A ((t,.sl es (some v.v))::F) (.tail v.v kk::XN [j] h)) (hk:0<kk:=by omega) (hF':F.get t=.h v:=by kernel_rfl)
  (hp:Wo [j] h=some [rK v kk (Za es)]:=by kernel_rfl):YD P n c A F h:=Z3k t j hF' hp hes hk H
theorem Zkl (j i p:Nat) (u v:Value) (kk kv:Nat) (es ls:List AV) (hes:∀y∈es,y.leaves.length=kk) (hl:ls[p]? = some (.val u)) (hk:0<kk:=by omega) (hp:Wo [j,i] h=some [.row u kk (Za es),.row v kv ls]:=by kernel_rfl) :
  T2 h (.row v kv (ls.set p (.sl es (some u)))::.tail u kk::XN [j,i] h):=Z2j j i p hp hes hk hl
theorem DP {A xs ys B:List AV} {o:Nat} (hA:A.length=o) (hl:xs.length=ys.length):(A++(xs++B)).take o++ys++(A++(xs++B)).drop (o+ys.length)=A++(ys++B):=by
 subst hA
 rw [Am,<-hl,<-List.drop_drop,List.drop_left,List.drop_left,Uj]
theorem Mt {A xs B:List AV} {o:Nat} (hA:A.length=o):((A++(xs++B)).drop o).take xs.length=xs:=by
 subst hA
 rw [List.drop_left,Am]
theorem VT (xs ys:List AV):Za (xs++ys)=Za xs++Za ys:=by simp [Za]
theorem Z8b:Za []=[]:=rfl
theorem DW (j:Nat) (v:Value) (q:Nat) (ls ls':List AV) (e:ls=ls') (hp:Wo [j] h=some [.row v q ls]:=by kernel_rfl):T2 h (.row v q ls'::XN [j] h):=by
 subst e
 intro w G hh
 have hp':=Us (VB hp)
 exact ⟨G,hh.perm hp',(X1.refl w G h).perm (QL _) hp'⟩
end
end Go.Abs
end
section
namespace Go.Abs
theorem YE.rgrow {w:World} {G:Yi} {h2:List Res} {g len len' cap k:Nat} {ls ls':List AV} (hh:YE w G (.row (.slice (some ⟨g,0,none⟩) len cap) k ls::h2)) {cs cs':Array Value} {e:TypeId}
  (hb:w.heap[g]? = some (.cells cs e (0,0))) (Xn:cs'.size=cs.size) (hle:len'<=cap) (hcap:cs.size=cap*k) (hl:ls'.length=len'*k) (hls:YW w G ls' (cs'.toList.take (len'*k))) :
  YE (w.setRow g cs') G (.row (.slice (some ⟨g,0,none⟩) len' cap) k ls'::h2) /\
   X1 w G (.row (.slice (some ⟨g,0,none⟩) len cap) k ls::h2) (w.setRow g cs') G (.row (.slice (some ⟨g,0,none⟩) len' cap) k ls'::h2):=by
 have hmem:Res.row (.slice (some ⟨g,0,none⟩) len cap) k ls∈Res.row (.slice (some ⟨g,0,none⟩) len cap) k ls::h2:=Xl ..
 have hA:VZ G w (w.setRow g cs') G:=⟨fun c j hg=>by
  have hne:c≠g:=fun he=>hh.prot _ hmem c j he hg
  simp [World.cell?,VY w g c cs' hne],fun _ _ h=>h⟩
 have e1:X1 w G [.row (.slice (some ⟨g,0,none⟩) len cap) k ls] (w.setRow g cs') G [.row (.slice (some ⟨g,0,none⟩) len' cap) k ls']:=by
  refine ⟨rfl,rfl,rfl,by simp [World.setRow],fun _ _ h=>h,?_,fun _ _ _ h=>.inl h,?_⟩
  ·intro c hc
   by_cases hcb:c=g
   ·subst hcb
    exact .inr ⟨cs,cs',e,(0,0),hb,setRow_heap w c cs cs' e (0,0) hb,Xn,fun j hj=>absurd ⟨_,Xl ..,rfl⟩ hj⟩
   ·exact .inl (VY w g c cs' hcb)
  ·rintro c j _ ⟨r,hr,hf⟩
   rw [XZ.1 hr] at hf
   exact ⟨_,Xl ..,hf⟩
 have e2:YE (w.setRow g cs') G [.row (.slice (some ⟨g,0,none⟩) len' cap) k ls']:=by
  refine ⟨fun r hr=>?_,C5 _ _,fun r hr c j hf hg=>?_,fun c j hg=>?_⟩
  ·rw [XZ.1 hr]
   exact .inr ⟨g,len',cap,cs',e,rfl,setRow_heap w g cs cs' e (0,0) hb,hle,Xn.trans hcap,hl,hls.mono hA⟩
  ·rw [XZ.1 hr] at hf
   exact hh.prot _ hmem c j hf hg
  ·have:=hh.lt c j hg
   simpa [World.setRow] using this
 exact YE.frame (h:=[.row (.slice (some ⟨g,0,none⟩) len cap) k ls]) (k:=h2) hh e1 e2
section
variable {P:Program} {n:Nat} {ops:Array Oper} {k:Nat} {F:Fr} {h2:List Res}
theorem St {K:Fr->List Res->Prop} {v:Hd} {sz m:Nat} {ls xs:List AV} {hx:Option Value} (hd:Vw n (ZD ops k)=true) (ha:UP P ops F k=some (.val v.v,.sl xs hx,sz))
  (hxs:∀y∈xs,y.leaves.length=sz) (hone:(Za xs).all AV.one=true) (hm0:ls.length=m*sz) (hk0:0<sz) (hne:xs≠[]) (hbound:m+xs.length<=4294967296)
  (hK:∀v':Hd,K (F.put (ZD ops k).dst (.val v'.v)) (.row v'.v sz (ls++Za xs)::h2)):WC P n (ZD ops k) F (.row v.v sz ls::h2) K:=by
 unfold UP at ha
 generalize hoo:ZD ops k=o at ha hd hK
 obtain ⟨dst,op,type,pos,after,guard⟩:=o
 cases op<;>simp only at ha<;>try (cases ha)
 rename_i c
 obtain ⟨callee,args,tys⟩:=c
 simp only at ha
 split at ha
 case h_2=>cases ha
 rename_i s x t t' hargs htys
 split at ha
 case h_2=>cases ha
 rename_i e htt ht
 have:=UG htt
 subst this
 split at ha
 case h_2=>cases ha
 rename_i i hinfo
 split at ha
 case h_2=>cases ha
 rename_i z hz
 split at ha
 case h_2=>cases ha
 rename_i hb
 simp only [Xi] at hb
 simp only [Wm,Prod.mk.injEq] at ha
 obtain ⟨h3,h4,hk1⟩:=ha
 have e1:args=#[s,x]:=by rw [<-Uv (xs:=args),hargs]
 have e2:tys=#[t,t]:=by rw [<-Uv (xs:=tys),htys]
 subst e1;subst e2
 have hzs:z.cells.size=sz:=by rw [UG hb.1,hk1]
 have hby:=V8 hb.2
 have hfl:=UB xs hxs
 intro Q w G a hF hh
 have v1:=hF.ev s
 have v2:=hF.ev x
 rw [h3] at v1
 rw [h4] at v2
 have v1:=v1.val_inv
 have v2:=v2.forget
 have finish:∀(v':Hd) w',(Builtin.append_ #[t,t] type #[v.v,a.eval x]).run P w=.ok v'.v w'->YE w' G (.row v'.v sz (ls++Za xs)::h2)->X1 w G (.row v.v sz ls::h2) w' G (.row v'.v sz (ls++Za xs)::h2) ->
   ({ dst:=dst,op:=.call { callee:=.builtin .append,args:=#[s,x],argTypes:=#[t,t] },type:=type,pos:=pos,after:=after,guard:=guard }:Oper).wp P a w
    (fun a' w'=>∃F' h' G',K F' h'/\FR w' G' n F' a'/\YE w' G' h'/\X1 w G (.row v.v sz ls::h2) w' G' h') Q:=by
  intro v' w' hr j1 j2
  have hrun:(execOp a.eval { dst:=dst,op:=.call { callee:=.builtin .append,args:=#[s,x],argTypes:=#[t,t] },type:=type,pos:=pos,after:=after,guard:=guard }).run P w=.ok (.value v'.v) w':=by
   simp only [execOp,resolve,invoke,builtin,Sem.run_bind,Sem.run_pure,Result.andThen_ok,CX,Ve,C3,v1,hr]
  unfold Oper.wp
  rw [hrun]
  exact ⟨_,_,G,hK v',(hF.mono (j2.agree hh)).put (US hd) .val,j1,j2⟩
 have hrow0:=hh.ok (.row v.v sz ls) (Xl ..)
 have hsub2:∀r:Res,List.Sublist (r::h2) (r::.row v.v sz ls::h2):=fun r=>List.Sublist.cons_cons _ (Bg _ _)
 have grown:∀(olds news:List Value) (old:Nat),YW w G ls olds->YW w G (Za xs) news ->
   YE (w.drew.alloc (.cells (olds.toArray++news.toArray++Builtin.zeroCells z.cells (grownCap w (m+xs.length) old e-(m+xs.length))) e)) G
    (.row (.slice (some ⟨w.heap.size,0,none⟩) (m+xs.length) (grownCap w (m+xs.length) old e)) sz (ls++Za xs)::h2) /\
   X1 w G (.row v.v sz ls::h2) (w.drew.alloc (.cells (olds.toArray++news.toArray++Builtin.zeroCells z.cells (grownCap w (m+xs.length) old e-(m+xs.length))) e)) G
    (.row (.slice (some ⟨w.heap.size,0,none⟩) (m+xs.length) (grownCap w (m+xs.length) old e)) sz (ls++Za xs)::h2):=by
  intro olds news old ho hn
  have Xp:=grownCap_ge w (m+xs.length) old e
  have hol:=ho.length
  have hnl:=hn.length
  have hlen:(ls++Za xs).length=(m+xs.length)*sz:=by rw [YF,hm0,hfl,TR]
  obtain ⟨j1,j2⟩:=hh.drew.alloc_rrow (olds.toArray++news.toArray++Builtin.zeroCells z.cells (grownCap w (m+xs.length) old e-(m+xs.length))) e
   (ls:=ls++Za xs) (len:=m+xs.length) (cap:=grownCap w (m+xs.length) old e) (k:=sz) Xp
   (by
    have q2:(grownCap w (m+xs.length) old e-(m+xs.length))*sz=grownCap w (m+xs.length) old e*sz-(m+xs.length)*sz:=Nat.sub_mul ..
    have q3:(m+xs.length)*sz<=grownCap w (m+xs.length) old e*sz:=K3 _ Xp
    have q4:(m+xs.length)*sz=m*sz+xs.length*sz:=TR ..
    simp only [Array.size_append,E5,size_zeroCells,hzs,hol,hnl,hm0,hfl]
    omega) hlen
   (by
    have:(olds.toArray++news.toArray++Builtin.zeroCells z.cells (grownCap w (m+xs.length) old e-(m+xs.length))).toList.take ((m+xs.length)*sz)=olds++news:=by
     simp only [E2]
     rw [<-hlen,YF,<-hol,<-hnl,<-YF]
     exact Am
    rw [this]
    exact (ho.append hn).mono (Bp w G))
  exact ⟨j1.sub (hsub2 _),(X1.drew w G _).trans (j2.sub' (hsub2 _))⟩
 generalize hax:a.eval x=ax at v2 finish
 cases v2 with
 | nil _=>exact absurd rfl hne
 | sl hq hcc hm=>
  rename_i b o' k' c
  have hpos:0<xs.length:=I1.2 hne
  have hfm:=hm.flat_mem
  obtain ⟨news,hn,hnc⟩:=hfm.cells
  have hnl:news.length=xs.length*i.size:=by rw [hn.length,hfl,hk1]
  have hone':=hn.one_cells hone
  have hnews:∀j u,news[j]? = some u->w.cell? ((⟨b,o',none⟩:Addr).add j)=some u:=fun j u hj=>by rw [J2];exact (hnc j u hj).1
  have hbb:(m+xs.length)*i.bytes<=140737488355328:=by
   have:=Nat.mul_le_mul hbound hby
   omega
  rcases hrow0 with ⟨hv0,hl0⟩|⟨g,len,cap,cur,el,hv0,hrow,hlc,hcur,hll,hcells⟩
  ·subst hl0
   have hm1:m=0:=by
    have:m*sz=0:=by simpa using hm0.symm
    rcases Nat.mul_eq_zero.1 this with h|h
    ·exact h
    ·omega
   subst hm1
   rw [hv0] at finish hh ⊢
   have hr:=run_append_nil (P:=P) w t type e i z ht hinfo hz ⟨b,o',none⟩ xs.length c news hnl hnews hpos om (by simp only [Vf] at hbb;omega)
   obtain ⟨j1,j2⟩:=grown [] news 0 .nil hn
   simp only [Vf,Array.empty_append,C4] at j1 j2
   rw [hv0] at j2
   exact finish ⟨some ⟨w.heap.size,0,none⟩,xs.length,grownCap w xs.length 0 e⟩ _ hr (by simpa using j1) (by simpa using j2)
  ·have hlm:len=m:=I3 hk0 (hll.symm.trans hm0)
   subst hlm
   rw [hv0] at finish hh ⊢
   have q5:len*sz<=cap*sz:=K3 _ hlc
   have h1:(cur.toList.take (len*sz)).length=len*sz:=by rw [W2,KV,hcur,Vn q5]
   have hcl:cur.toList.length=cap*sz:=by rw [KV,hcur]
   by_cases hroom:len+xs.length<=cap
   ·have q1:(len+xs.length)*sz<=cap*sz:=K3 _ hroom
    have q2:(len+xs.length)*sz=len*sz+xs.length*sz:=TR ..
    have hfit:len*i.size+news.length<=cur.size:=by rw [hnl,hcur,hk1];omega
    have hr:=HA (P:=P) w t type e el i ht hinfo g len cap cur hrow ⟨b,o',none⟩ xs.length c news hnl hnews hone' hroom hfit
    rw [hk1] at hr
    have hnl':news.length=xs.length*sz:=by rw [hnl,hk1]
    obtain ⟨j1,j2⟩:=hh.rgrow (ls':=ls++Za xs) (len':=len+xs.length) (cs':=(cur.toList.take (len*sz)++news++cur.toList.drop (len*sz+news.length)).toArray) hrow
     (by simp only [E5,YF,h1,hnl',Jn,hcl,hcur];omega) hroom hcur (by rw [YF,hll,hfl,q2]) (by
      have:(cur.toList.take (len*sz)++news++cur.toList.drop (len*sz+news.length)).toArray.toList.take ((len+xs.length)*sz)=cur.toList.take (len*sz)++news:=by
       rw [E6,q2,<-hnl']
       conv=>lhs;arg 1;rw [show len*sz+news.length=(cur.toList.take (len*sz)++news).length from by rw [YF,h1]]
       exact Am
      rw [this]
      exact hcells.append hn)
    exact finish ⟨some ⟨g,0,none⟩,len+xs.length,cap⟩ _ hr j1 j2
   ·have hr:=run_append_grow (P:=P) w t type e i z ht hinfo hz ⟨g,0,none⟩ len cap (cur.toList.take (len*sz)) (by rw [hk1];exact h1) (fun j u hj=>by
     rw [J2,cell_of_row w g _ cur el (0,0) hrow]
     rw [Q5] at hj
     split at hj
     ·simpa using hj
     ·cases hj) ⟨b,o',none⟩ xs.length c news hnl hnews om om (growslice_fits om hbb)
    obtain ⟨j1,j2⟩:=grown (cur.toList.take (len*sz)) news cap hcells hn
    rw [hv0] at j2
    exact finish ⟨some ⟨w.heap.size,0,none⟩,len+xs.length,grownCap w (len+xs.length) cap e⟩ _ hr j1 j2
end
section
variable {P:Program} {n:Nat} {ops:Array Oper} {B:Fr->List Res->Prop} {k:Nat} {F:Fr} {h:List Res}
theorem GO (j m:Nat) (v:Hd) (sz:Nat) (ls xs:List AV) (hx:Option Value) (hm0:ls.length=m*sz) (hxs:∀y∈xs,y.leaves.length=sz) (hone:(Za xs).all AV.one=true) (hne:xs≠[]) (hbound:m+xs.length<=4294967296)
  (hK:∀v':Hd,SI P n ops B (k+1) (F.put (ZD ops k).dst (.h v')) (rK v' sz (ls++Za xs)::XN [j] h)) (hk0:0<sz:=by omega)
  (hk:Xk n ops F k=true:=by kernel_rfl) (ha:UP P ops F k=some (.h v,.sl xs hx,sz):=by kernel_rfl) (hp:Wo [j] h=some [rK v sz ls]:=by kernel_rfl):SI P n ops B k F h:=
 Q0 hk (WC.perm (Us (VB hp)) (St (VX hk).2.1 ha hxs hone hm0 hk0 hne hbound hK))
end
end Go.Abs
namespace Go.Abs
section
variable {P:Program} {n:Nat} {ops:Array Oper} {B:Fr->List Res->Prop} {T:List (Nat × List Nat)} {fuel:Nat} {done:List Nat} {F:Fr} {h:List Res}
theorem Ek (i j m:Nat) (js bs:List Nat) (v:Hd) (sz:Nat) (ls xs:List AV) (hx:Option Value) (hm0:ls.length=m*sz) (hxs:∀y∈xs,y.leaves.length=sz) (hone:(Za xs).all AV.one=true) (hne:xs≠[]) (hbound:m+xs.length<=4294967296)
  (hK:∀v':Hd,YZ P n ops B (T.filter fun t=>!Va ops i t.1) fuel (done++[i]) (F.put (ZD ops i).dst (.h v')) (rK v' sz (ls++Za xs)::XN [j] h)) (hk0:0<sz:=by omega) (hk:Xk n ops F i=true:=by kernel_rfl)
  (ha:UP P ops F i=some (.h v,.sl xs hx,sz):=by kernel_rfl) (hp:Wo [j] h=some [rK v sz ls]:=by kernel_rfl) (ho:Uf ops i T=bs:=by kernel_rfl)
  (hj:js.map (fun q=>(WS (XN [j] h))[q]?)=bs.map some:=by kernel_rfl):VD P n ops B T fuel done F h i:=
 KF [j] js bs hk (VB hp) ho hj (St (h2:=[]) (VX hk).2.1 ha hxs hone hm0 hk0 hne hbound hK)
end
theorem Wq.form {P:Program} {f:FuncId} {as1:List AV} {h0:List Res} {T:Hd->AV} {kk m:Nat} {ls:List AV} {hs:List Res} (H:Wq P f as1 h0 (fun r h=>∃v:Hd,r=T v/\h=rK v kk ls::hs)) (hm:ls.length=m*kk) (hk:0<kk) (h1:0<m) :
  Wq P f as1 h0 (fun r h=>∃(g c:Nat),r=T ⟨some ⟨g,0,none⟩,m,c⟩/\h=rK ⟨some ⟨g,0,none⟩,m,c⟩ kk ls::hs):=by
 intro w G vs hv hh
 refine (H w G vs hv hh).mono ?_
 rintro e w' ⟨u,r,h',G',he,⟨v,rfl,rfl⟩,hr,hh',hx⟩
 obtain ⟨g,c,rfl⟩:=Ms (hh'.ok _ (Xl ..)) hm hk h1
 exact ⟨u,_,_,G',he,⟨g,c,rfl,rfl⟩,hr,hh',hx⟩
end Go.Abs
namespace Go.Abs
section
variable {h:List Res}
theorem Zkn (j i p:Nat) {u:Value} {kk b:Nat} {es ls:List AV} (hp:Wo [j,i] h=some [.row u kk (Za es),.obj b ls]) (hes:∀y∈es,y.leaves.length=kk) (hk:0<kk) (hl:ls[p]? = some (.val u)) :
  T2 h (.obj b (ls.set p (.sl es (some u)))::.tail u kk::XN [j,i] h):=by
 intro w G hh
 have hp':=Us (VB hp)
 have hh':=hh.perm hp'
 obtain ⟨G',h1,h2',h3⟩:=BM (h2:=.obj b ls::XN [j,i] h) hh' hes hk
 have e:=h2'.perm hp'.symm (QL _)
 have h1:YE w G' (.tail u kk::.obj b ls::XN [j,i] h):=h1
 have perm:(Res.tail u kk::.obj b ls::XN [j,i] h).Perm (.obj b ls::.tail u kk::XN [j,i] h):=List.Perm.swap ..
 have h4:=h1.perm perm
 have e4:=e.perm (QL _) perm
 have hset:∀{w:World} {G:Yi},RV w G (.sl es (some u)) u->Qt w G (.obj b ls)->Qt w G (.obj b (ls.set p (.sl es (some u)))):=by
  intro w G hu hr
  obtain ⟨cs,el,k1,k5⟩:=hr
  refine ⟨cs,el,k1,?_⟩
  obtain ⟨c,c1,c2⟩:=k5.get p _ hl
  have:=c2.val_inv
  subst this
  have h6:=k5.set p hu
  rwa [show cs.toList.set p c=cs.toList from by
   apply List.ext_getElem?
   intro q
   rw [List.getElem?_set]
   split
   ·rename_i hq;subst hq;split
    ·exact c1.symm
    ·rename_i hq2;rw [Qr om]
   ·rfl] at h6
 refine ⟨G',⟨fun r hr=>?_,?_,fun r hr=>?_,h4.lt⟩,⟨e4.os,e4.tape,e4.output,e4.size,e4.sub,e4.same,e4.newG,fun b' o hb ⟨r,hr,hf⟩=>e4.newfp b' o hb ?_⟩⟩
 ·rcases YM.1 hr with rfl|hr
  ·exact hset h3 (h4.ok _ (Xl ..))
  ·exact h4.ok r (XC _ hr)
 ·have:=WI.1 h4.apart
  exact WI.2 ⟨fun r hr b' o f1 f2=>this.1 r hr b' o f1 f2,this.2⟩
 ·rcases YM.1 hr with rfl|hr
  ·exact fun b' o f1 hg=>h4.prot (.obj b ls) (Xl ..) b' o f1 hg
  ·exact h4.prot r (XC _ hr)
 ·rcases YM.1 hr with rfl|hr
  ·exact ⟨.obj b ls,Xl ..,hf⟩
  ·exact ⟨r,XC _ hr,hf⟩
theorem Ty (j i p:Nat) (u:Value) (kk b:Nat) (es ls:List AV) (hes:∀y∈es,y.leaves.length=kk) (hl:ls[p]? = some (.val u)) (hk:0<kk:=by omega) (hp:Wo [j,i] h=some [.row u kk (Za es),.obj b ls]:=by kernel_rfl) :
  T2 h (.obj b (ls.set p (.sl es (some u)))::.tail u kk::XN [j,i] h):=Zkn j i p hp hes hk hl
end
end Go.Abs
namespace Go.Abs
section
variable {P:Program} {n:Nat} {ops:Array Oper} {k:Nat} {F:Fr} {h:List Res}
theorem Zk5 (j:Nat) {g l c m kk:Nat} {ls:List AV} (hi:DT P ops F k=some (.val (.slice (some ⟨g,0,none⟩) l c),(m:Int))) (hj:h[j]? = some (.row (.slice (some ⟨g,0,none⟩) l c) kk ls)) (hle:m<=l) :
  XG P (ZD ops k) F h [] (.val (.slice (some ⟨g,0,none⟩) m c)):=by
 unfold DT at hi
 generalize hoo:ZD ops k=o at hi
 obtain ⟨dst,op,type,pos,after,guard⟩:=o
 cases op<;>simp only at hi<;>try (cases hi)
 rename_i t x lo hi' mx
 cases lo with
 | some _=>simp at hi
 | none=>
  cases hi' with
  | none=>simp at hi
  | some y=>
   cases mx with
   | some _=>simp at hi
   | none=>
    simp only at hi
    split at hi
    ·rename_i e ht
     split at hi
     ·rename_i inf hinf
      split at hi
      ·rename_i ik m' hm
       simp only [Wm,Prod.mk.injEq] at hi
       obtain ⟨hx,rfl⟩:=hi
       intro n w G a hF hh
       have v1:=hF.ev x
       rw [hx] at v1
       have v1:=v1.val_inv
       have v2:=hF.ev y
       rw [hm] at v2
       have v2:=v2.val_inv
       have hcap:l<=c:=by
        rcases hh.ok _ (ZY hj) with ⟨h0,_⟩|⟨g',l',c',cur,el,h0,_,hc,_⟩
        ·cases h0
        ·cases h0;exact hc
       refine ⟨_,.val,fun w' _ _=>?_⟩
       simp only [execOp,v1,v2,C8,Option.map_none]
       refine Vc ?_
       simp only [Instr.sliceAt,Sem.run_bind,VP ht,Result.andThen_ok,Instr.slice]
       have hmm:(Instr.sliceBounds true l c none (some (.int ik (m:Int))) none).run P w'=.ok (0,m,c) w':=by
        have ZA:=fun q=>DR (P:=P) (c:=q) (v:=.int ik (m:Int)) (y:=c) rfl om om w'
        simp [Instr.sliceBounds,ZA]
       rw [hmm]
       have hz:∀a:Addr,a.add 0=a:=fun a=>by simp [Addr.add]
       simp only [Result.andThen_ok,QI hinf,Nat.zero_mul,hz]
       by_cases h0:c=0<;>simp [h0]
      ·cases hi
     ·cases hi
    ·cases hi
theorem LK (j g l c m kk:Nat) (ls:List AV) (hle:m<=l:=by omega) (hi:DT P ops F k=some (.val (.slice (some ⟨g,0,none⟩) l c),(m:Int)):=by kernel_rfl) (hj:h[j]? = some (.row (.slice (some ⟨g,0,none⟩) l c) kk ls):=by kernel_rfl) :
  XG P (ZD ops k) F h [] (.val (.slice (some ⟨g,0,none⟩) m c)):=Zk5 j hi hj hle
variable {B:Fr->List Res->Prop}
end
end Go.Abs
end
namespace Go.Abs
theorem Y6 {α:Type} {xs:List α} {k:Nat} {x:α} (h:xs[k]? = some x):xs.drop k=x::xs.drop (k+1):=by
 have hk:=(Xj.1 h).1
 rw [Z39 hk]
 congr 1
 rw [Qq hk] at h
 exact Qs h
theorem Xg {α:Type} {xs:List α} {k:Nat} (h:xs.length<=k):xs.drop k=[]:=HZ h
theorem WB {α:Type} {xs:List α} {k:Nat} {x:α} (h:xs[k]? = some x):xs.take (k+1)=xs.take k++[x]:=by
 rw [List.take_add_one,h];rfl
def YT:List Zf->Nat
 | []=>0
 | d::ds=>d.cons.length+YT ds
theorem Ej (xs ys:List Zf):YT (xs++ys)=YT xs+YT ys:=by
 induction xs with
 | nil=>simp [YT]
 | cons d ds ih=>simp [YT,ih];omega
structure Wt (ds:List Zf):Prop where
 len:ds.length<=4
 cons:∀d∈ds,d.cons.length<=3
 fields:∀d∈ds,∀c∈d.cons,c.fields.length<=3
theorem Z5k {ds:List Zf} {m:Nat} (h:∀d∈ds,d.cons.length<=m):YT ds<=ds.length*m:=by
 induction ds with
 | nil=>simp [YT]
 | cons d ds ih=>
  have h1:=h d (by simp)
  have h2:=ih (fun x hx=>h x (by simp [hx]))
  simp only [YT,YR,TR];omega
theorem Wt.sum {ds:List Zf} (h:Wt ds):YT ds<=12:=by
 have:=Z5k h.cons
 have:=h.len
 have:ds.length*3<=4*3:=K3 3 h.len
 omega
theorem Wt.take {ds:List Zf} (h:Wt ds) (k:Nat):Wt (ds.take k):=
 ⟨by have:=h.len;simp;omega,fun d hd=>h.cons d (QM hd),fun d hd=>h.fields d (QM hd)⟩
theorem Wt.cons_at {ds:List Zf} (h:Wt ds) {k:Nat} {d:Zf} (hd:ds[k]? = some d):d.cons.length<=3:=h.cons d (ZY hd)
theorem Wt.fields_at {ds:List Zf} (h:Wt ds) {k j:Nat} {d:Zf} {c:Yl} (hd:ds[k]? = some d) (hc:d.cons[j]? = some c):c.fields.length<=3:=
 h.fields d (ZY hd) c (ZY hc)
def Tg (c:Int):List Zf->Nat->Nat->Int × LI
 | [],_,_=>(-1,[])
 | d::ds,i,first=>
  if (first:Int)<=c/\c<=((first+d.cons.length:Nat):Int)-1 then ((i:Int)+1,(d.cons[(c-first).toNat]?.map (·.fields)).getD []) else Tg c ds (i+1) (first+d.cons.length)
def Wn (ds:List Zf) (c:Int):Int:=(Tg c ds 0 0).1
def Y2 (ds:List Zf) (c:Int):LI:=(Tg c ds 0 0).2
theorem Ix {c:Int}:∀{ds:List Zf} {i first:Nat},(Tg c ds i first=(-1,[]) ∨
  ∃k d x,ds[k]? = some d/\(first+YT (ds.take k):Int)<=c/\c<first+YT (ds.take k)+d.cons.length/\d.cons[(c-(first+YT (ds.take k))).toNat]? = some x/\Tg c ds i first=((i:Int)+k+1,x.fields))
 | [],_,_=>.inl rfl
 | d::ds,i,first=>by
  rw [Tg]
  split
  ·rename_i h
   have hlt:(c-first).toNat<d.cons.length:=by omega
   refine .inr ⟨0,d,d.cons[(c-first).toNat],rfl,by simp [YT];omega,by simp [YT];omega,?_,?_⟩
   ·simp [YT]
   ·rw [Qq hlt];simp
  ·rcases Ix (c:=c) (ds:=ds) (i:=i+1) (first:=first+d.cons.length) with h|⟨k,e,x,h1,h2,h3,h4,h5⟩
   ·exact .inl h
   ·refine .inr ⟨k+1,e,x,by simpa using h1,by simp [YT];omega,by simp [YT];omega,?_,?_⟩
    ·rw [<-h4];congr 3;simp [YT];omega
    ·rw [h5];congr 1;omega
theorem Iy {ds:List Zf} {c:Int} (h:¬Wn ds c<1) :
  ∃k d x,ds[k]? = some d/\(YT (ds.take k):Int)<=c/\d.cons[(c-YT (ds.take k)).toNat]? = some x/\Wn ds c=(k:Int)+1/\Y2 ds c=x.fields:=by
 rcases Ix (c:=c) (ds:=ds) (i:=0) (first:=0) with h1|⟨k,d,x,h1,h2,_,h4,h5⟩
 ·simp [Wn,h1] at h
 ·exact ⟨k,d,x,h1,by simpa using h2,by simpa using h4,by simp [Wn,h5],by simp [Y2,h5]⟩
theorem G0 {ds:List Zf} {c:Int} (h:Wn ds c<1):Y2 ds c=[]/\Wn ds c=-1:=by
 rcases Ix (c:=c) (ds:=ds) (i:=0) (first:=0) with h1|⟨k,d,x,h1,h2,_,h4,h5⟩
 ·simp [Y2,Wn,h1]
 ·simp [Wn,h5] at h;omega
def VH (first:Int):Nat->LI
 | 0=>[]
 | n+1=>first::VH (first+1) n
theorem Si (first:Int) (n:Nat):VH first (n+1)=VH first n++[first+n]:=by
 induction n generalizing first with
 | zero=>simp [VH]
 | succ n ih=>rw [VH,ih (first+1),VH];simp;omega
@[simp] theorem Zew (first:Int) (n:Nat):(VH first n).length=n:=by
 induction n generalizing first with
 | zero=>rfl
 | succ n ih=>simp [VH,ih]
def Y3 (ds:List Zf) (t:Int):LI:=
 if 1<=t/\t<=ds.length then VH (YT (ds.take (t-1).toNat)) (((ds[(t-1).toNat]?).map (·.cons.length)).getD 0) else []
def KA (frm to_:Int):List Zf->Nat->Int
 | [],_=>-1
 | d::ds,i=>if d.cons.length=0/\d.frm=frm/\d.to_=to_ then (i:Int)+1 else KA frm to_ ds (i+1)
def Uz (ds:List Zf) (frm to_:Int):Int:=KA frm to_ ds 0
def W8 (ds:List Zf) (t:Int):Bool:=decide (1<=t/\t<=ds.length)&&((ds[(t-1).toNat]?).map fun d=>decide (d.cons.length=0)).getD false
theorem GY {ds:List Zf} {t:Int} {x:Zf} (h:1<=t/\t<=ds.length) (hx:ds[(t-1).toNat]? = some x):((x.cons.length:Int)==0)=W8 ds t:=by
 rw [W8,hx,XA];simp [h]
theorem LD {ds:List Zf} {t:Int} (h:¬(1<=t/\t<=ds.length)):false=W8 ds t:=by
 rw [W8,XA];simp only [Bool.false_eq_true,Xi,decide_eq_true_eq,h,false_and]
def Wr (m:Nat) (xs:LI):Bool:=xs.all fun t=>decide (0<=t/\t<=m)
end Go.Abs
section
namespace Go.Abs
section
variable {h:List Res}
end
end Go.Abs
namespace Go.Abs
section
variable {P:Program} {ops:Array Oper} {k:Nat} {F:Fr} {h:List Res}
end
end Go.Abs
end
namespace Go.Abs
section
variable {P:Program} {n:Nat} {ops:Array Oper} {B:Fr->List Res->Prop} {k:Nat} {F:Fr} {h:List Res} {T:List (Nat × List Nat)} {fuel:Nat} {done:List Nat}
theorem Su {K:Fr->List Res->Prop} {ls:List AV} {len sz:Nat} (hd:Vw n (ZD ops k)=true) (ha:TK P ops F k=some (ls,len,sz)) (hlen:ls.length=len*sz)
  (hK:∀g,K (F.put (ZD ops k).dst (.val (.slice (some ⟨g,0,none⟩) len len))) (.row (.slice (some ⟨g,0,none⟩) len len) sz ls::h)):WC P n (ZD ops k) F h K:=by
 unfold TK at ha
 generalize hoo:ZD ops k=q at ha hd hK
 obtain ⟨dst,op,type,pos,after,guard⟩:=q
 cases op<;>simp only at ha<;>try (cases ha)
 rename_i t ln parts
 split at ha
 case h_2=>cases ha
 rename_i e ht
 split at ha
 case h_2=>cases ha
 rename_i i hi
 split at ha
 case h_2=>cases ha
 rename_i hc
 simp only [Xi] at hc
 split at ha
 case h_2=>cases ha
 rename_i ls' hf
 simp only [Wm,Prod.mk.injEq] at ha
 obtain ⟨rfl,rfl,Xn⟩:=ha
 intro Q w G a hF hh
 obtain ⟨cs,h1,h2⟩:=HB hF parts ht hi rfl hc.1 hc.2 hf
 have hr:(execOp a.eval { dst:=dst,op:=.buildSlice t ln parts,type:=type,pos:=pos,after:=after,guard:=guard }).run P w =
   .ok (.value (.slice (some ⟨w.heap.size,0,none⟩) ln ln)) (w.alloc (.cells cs e)):=by
  simp only [execOp]
  exact Vc h2
 unfold Oper.wp
 rw [hr]
 have hlc:=h1.length
 simp only [KV] at hlc
 obtain ⟨j1,j2⟩:=hh.alloc_rrow cs e (ls:=ls') (len:=ln) (cap:=ln) (k:=sz) (Xa _) (by rw [hlc];exact hlen) hlen (by rw [<-hlen,<-hlc];simpa [WM] using h1)
 exact ⟨_,_,G,hK _,(hF.mono (j2.agree hh)).put (US hd) .val,j1,j2⟩
theorem UV (es es':List AV) (he:es=es') (len sz:Nat) (hK:∀v,SI P n ops B (k+1) (F.put (ZD ops k).dst (.sl es' (some v))) (.tail v sz::h)) (hk:Xk n ops F k=true:=by kernel_rfl)
  (ha:TK P ops F k=some (Za es,len,sz):=by kernel_rfl) (hlen:es.length=len:=by kernel_rfl) (hall:Au es sz=true:=by kernel_rfl):SI P n ops B k F h:=by
 subst he;exact iL es len sz hK hk ha hlen hall
theorem WP (i:Nat) (js bs:List Nat) (es es':List AV) (he:es=es') (len sz:Nat) (hK:∀v,YZ P n ops B (T.filter fun t=>!Va ops i t.1) fuel (done++[i]) (F.put (ZD ops i).dst (.sl es' (some v))) (.tail v sz::h))
  (hk:Xk n ops F i=true:=by kernel_rfl) (ha:TK P ops F i=some (Za es,len,sz):=by kernel_rfl) (hlen:es.length=len:=by kernel_rfl) (hall:Au es sz=true:=by kernel_rfl)
  (ho:Uf ops i T=bs:=by kernel_rfl) (hj:js.map (fun j=>(WS h)[j]?)=bs.map some:=by kernel_rfl):VD P n ops B T fuel done F h i:=by
 subst he;exact dL i js bs es len sz hK hk ha hlen hall ho hj
theorem iKN (ls:List AV) (len sz:Nat) (hK:∀g,SI P n ops B (k+1) (F.put (ZD ops k).dst (.val (.slice (some ⟨g,0,none⟩) len len))) (.row (.slice (some ⟨g,0,none⟩) len len) sz ls::h)) (hlen:ls.length=len*sz:=by rfl) (hk:Xk n ops F k=true:=by kernel_rfl)
  (ha:TK P ops F k=some (ls,len,sz):=by kernel_rfl):SI P n ops B k F h:=Q0 hk (Su (VX hk).2.1 ha hlen hK)
theorem dKN (i:Nat) (js bs:List Nat) (ls:List AV) (len sz:Nat) (hK:∀g,YZ P n ops B (T.filter fun t=>!Va ops i t.1) fuel (done++[i]) (F.put (ZD ops i).dst (.val (.slice (some ⟨g,0,none⟩) len len))) (.row (.slice (some ⟨g,0,none⟩) len len) sz ls::h)) (hlen:ls.length=len*sz:=by rfl)
  (hk:Xk n ops F i=true:=by kernel_rfl) (ha:TK P ops F i=some (ls,len,sz):=by kernel_rfl) (ho:Uf ops i T=bs:=by kernel_rfl) (hj:js.map (fun j=>(WS h)[j]?)=bs.map some:=by kernel_rfl):VD P n ops B T fuel done F h i:=
 KF (h1:=[]) (h2:=h) [] js bs hk rfl ho hj (Su (VX hk).2.1 ha hlen hK)
end
theorem Wq.frz {P:Program} {f:FuncId} {as1:List AV} {h0:List Res} {E:Type} {kk:Nat} {es:E->List AV} {hs:E->List Res} {Q:E->Prop} (H:Wq P f as1 h0 (fun r h=>∃(e:E) (v:Hd),r=.h v/\h=rK v kk (Za (es e))::hs e/\Q e)) (hes:∀e,∀y∈es e,y.leaves.length=kk) (hk:0<kk) :
  Wq P f as1 h0 (fun r h=>∃(e:E) (v:Value),r=.sl (es e) (some v)/\h=.tail v kk::hs e/\Q e):=by
 intro w G vs hv hh
 refine (H w G vs hv hh).mono ?_
 rintro e w' ⟨u,r,h',G',he,⟨x,v,rfl,rfl,hq⟩,hr,hh',hx⟩
 obtain ⟨G2,h1,h2,h3⟩:=BM hh' (hes x) hk
 have hrv:=hr.val_inv
 subst hrv
 exact ⟨_,_,_,G2,he,⟨x,v.v,rfl,rfl,hq⟩,h3,h1,hx.trans h2⟩
theorem Gs {es:List AV} {sz k:Nat} {y:AV} (h:∀x∈es,x.leaves.length=sz) (hy:y.leaves.length=sz) (hk:k<es.length):(Za es).take (k*sz)++y.leaves++(Za es).drop (k*sz+y.leaves.length)=Za (es.set k y):=by
 obtain ⟨x,hx⟩:=Vr (xs:=es) (j:=k) hk
 have hxl:=h x (ZY hx)
 have e1:es=es.take k++(x::es.drop (k+1)):=by rw [<-Y6 hx,Tz]
 have e2:es.set k y=es.take k++(y::es.drop (k+1)):=by rw [E4,Zg hk]
 have hl:(Za (es.take k)).length=k*sz:=by rw [UB (k:=sz) _ (fun z hz=>h z (QM hz)),W2,Vn om]
 have e3:Za es=Za (es.take k)++(x.leaves++Za (es.drop (k+1))):=by
  conv=>lhs;rw [e1,VT]
  simp [Za]
 rw [e2,VT,e3,DP hl (by rw [hxl,hy])]
 simp [Za]
theorem Z76 (ds:List Zf) (k:Nat) (d:Zf):YH (ds.set k d)=(YH ds).set k (As d):=by simp [YH,List.map_set]
theorem Cs (xs:List Zf):(Za (YH xs)).length=xs.length*3:=by rw [UB (k:=3) _ (KH xs)];simp
theorem Gp {ds:List Zf} {k:Nat} (d:Zf) (hk:k<ds.length):(Za (YH ds)).take (k*3)++TJ d++(Za (YH ds)).drop (k*3+3)=Za (YH (ds.set k d)):=by
 rw [Z76];exact Gs (y:=As d) (KH ds) rfl (by simpa using hk)
theorem L4 (xs ys:List Zf):Za (YH xs)++Za (YH ys)=Za (YH (xs++ys)):=by rw [Z74,VT]
section
variable {P:Program} {n:Nat} {ops:Array Oper} {B:Fr->List Res->Prop} {k:Nat} {F:Fr} {h:List Res}
theorem Dz (j m:Nat) {v:Hd} {kk:Nat} {ls:List AV} (hm:ls.length=m*kk) (h0:0<m) (H:∀g c',v=⟨some ⟨g,0,none⟩,m,c'⟩->SI P n ops B k F h) (hk:0<kk:=by omega) (hj:h[j]? = some (rK v kk ls):=by kernel_rfl):SI P n ops B k F h:=by
 intro Q w G a hF hh hq
 obtain ⟨g,c',e⟩:=Ms (hh.ok _ (ZY hj)) hm hk h0
 exact H g c' e Q w G a hF hh hq
end
section
variable {P:Program} {n:Nat} {ops:Array Oper} {B:Fr->List Res->Prop} {k:Nat} {F:Fr} {h:List Res}
def IB (P:Program) (ops:Array Oper) (F:Fr) (k:Nat):Option (IntKind × Int):=
 match (ZD ops k).op with
 | .convert s d x=>match P.underlying s,P.underlying d,F.ev x with
  | some (.int _),some (.int q),.val (.int _ z)=>some (q,z)
  | _,_,_=>none
 | _=>none
theorem kCv (q:IntKind) (z z':Int) (e:q.wrap z=z') (hc:IB P ops F k=some (q,z):=by kernel_rfl):XG P (ZD ops k) F h [] (.val (.int q z')):=by
 unfold IB at hc
 generalize hoo:ZD ops k=o at hc
 obtain ⟨dst,op,type,pos,after,guard⟩:=o
 cases op<;>simp only at hc<;>try (cases hc)
 rename_i s d x
 split at hc
 ·rename_i q1 q2 q3 z2 h1 h2 h3
  cases hc
  intro n w G ac hF hh
  have v1:=hF.ev x
  rw [h3] at v1
  have v1:=v1.val_inv
  refine ⟨_,.val,fun w' _ _=>?_⟩
  simp only [execOp,v1]
  refine Vc ?_
  simp [convert,VP h1,VP h2,Conv.intToInt,e]
 ·cases hc
theorem Nb {z:Int} (h:0<=z/\z<=9223372036854775807):IntKind.i64.wrap z=z:=IntWalk.i64_in _ om
theorem DC (z:Int) (hz:0<=z/\z<=255) (hc:IB P ops F k=some (.i64,z):=by kernel_rfl):XG P (ZD ops k) F h [] (.i z):=kCv .i64 z z (Nb om) hc
def Br (ops:Array Oper) (F:Fr) (k:Nat) (b:BinOp):Option (Int × Int):=
 match (ZD ops k).op with
 | .binOp c _ x y _=>if c==b then match F.ev x,F.ev y with
  | .val (.int .i64 z),.val (.int .i64 u)=>some (z,u)
  | _,_=>none else none
 | _=>none
theorem LL (a b:Int) (hb:0<b) (ha:0<=a/\a<=9223372036854775807) (hc:Br ops F k .quo=some (a,b):=by kernel_rfl):XG P (ZD ops k) F h [] (.i (a / b)):=by
 unfold Br at hc
 generalize hoo:ZD ops k=o at hc
 obtain ⟨dst,op,type,pos,after,guard⟩:=o
 cases op<;>simp only at hc<;>try (cases hc)
 rename_i bop t x y yt
 cases bop<;>simp only [Zq,reduceCtorEq,if_false,if_true] at hc<;>try (cases hc)
 split at hc
 ·rename_i z yk h1 h2
  cases hc
  intro n' w G ac hF hh
  have v1:=hF.ev x
  have v2:=hF.ev y
  rw [h1] at v1
  rw [h2] at v2
  have v1:=v1.val_inv
  have v2:=v2.val_inv
  refine ⟨_,.val,fun w' _ _=>?_⟩
  simp only [execOp,v1,v2]
  refine Vc ?_
  have e1:a.tdiv b=a / b:=Int.tdiv_eq_ediv_of_nonneg ha.1
  have e2:IntKind.i64.wrap (a / b)=a / b:=Nb ⟨Int.ediv_nonneg ha.1 om,Int.le_trans (Int.ediv_le_self b ha.1) ha.2⟩
  have e3:b≠0:=by omega
  simp [eqGuard,binOp,Op.intDiv,e1,e2,e3]
 ·cases hc
theorem EV (a b:Int) (hb:0<b) (ha:0<=a) (hc:Br ops F k .rem=some (a,b):=by kernel_rfl):XG P (ZD ops k) F h [] (.i (a % b)):=by
 unfold Br at hc
 generalize hoo:ZD ops k=o at hc
 obtain ⟨dst,op,type,pos,after,guard⟩:=o
 cases op<;>simp only at hc<;>try (cases hc)
 rename_i bop t x y yt
 cases bop<;>simp only [Zq,reduceCtorEq,if_false,if_true] at hc<;>try (cases hc)
 split at hc
 ·rename_i z yk h1 h2
  cases hc
  intro n' w G ac hF hh
  have v1:=hF.ev x
  have v2:=hF.ev y
  rw [h1] at v1
  rw [h2] at v2
  have v1:=v1.val_inv
  have v2:=v2.val_inv
  refine ⟨_,.val,fun w' _ _=>?_⟩
  simp only [execOp,v1,v2]
  refine Vc ?_
  have e1:a.tmod b=a % b:=Int.tmod_eq_emod_of_nonneg ha
  have e3:b≠0:=by omega
  simp [eqGuard,binOp,Op.intDiv,e1,e3]
 ·cases hc
theorem CE (a b:Nat) (hb:0<b) (ha:a<=9223372036854775807) (hc:Br ops F k .quo=some ((a:Int),(b:Int)):=by kernel_rfl):XG P (ZD ops k) F h [] (.i (a / b:Nat)):=by
 rw [Int.natCast_ediv];exact LL a b om om hc
theorem H2 (a b:Nat) (hb:0<b) (_ha:a<=9223372036854775807) (hc:Br ops F k .rem=some ((a:Int),(b:Int)):=by kernel_rfl):XG P (ZD ops k) F h [] (.i (a % b:Nat)):=by
 rw [Int.natCast_emod];exact EV a b om om hc
def Be (a b:Int):Int:=IntKind.i64.wrap ((BitVec.ofInt 64 a ^^^ BitVec.ofInt 64 b).toNat:Int)
theorem HX {a b:Int} (ha:0<=a/\a<4611686018427387904) (hb:0<=b/\b<4611686018427387904):0<=Be a b/\Be a b<4611686018427387904:=by
 obtain ⟨x,rfl⟩:=Int.eq_ofNat_of_zero_le ha.1
 obtain ⟨y,rfl⟩:=Int.eq_ofNat_of_zero_le hb.1
 have h1:(BitVec.ofInt 64 (x:Int) ^^^ BitVec.ofInt 64 (y:Int)).toNat=x ^^^ y:=by
  rw [BitVec.toNat_xor,BitVec.toNat_ofInt,BitVec.toNat_ofInt]
  have e1:((x:Int) % ((2 ^ 64:Nat):Int)).toNat=x:=by omega
  have e2:((y:Int) % ((2 ^ 64:Nat):Int)).toNat=y:=by omega
  rw [e1,e2]
 have h2:x ^^^ y<2 ^ 62:=Nat.xor_lt_two_pow om om
 rw [Be,h1,Nb om]
 omega
theorem Rn (a b:Int) (hc:Br ops F k .xor=some (a,b):=by kernel_rfl):XG P (ZD ops k) F h [] (.i (Be a b)):=by
 unfold Br at hc
 generalize hoo:ZD ops k=o at hc
 obtain ⟨dst,op,type,pos,after,guard⟩:=o
 cases op<;>simp only at hc<;>try (cases hc)
 rename_i bop t x y yt
 cases bop<;>simp only [Zq,reduceCtorEq,if_false,if_true] at hc<;>try (cases hc)
 split at hc
 ·rename_i z yk h1 h2
  cases hc
  intro n' w G ac hF hh
  have v1:=hF.ev x
  have v2:=hF.ev y
  rw [h1] at v1
  rw [h2] at v2
  have v1:=v1.val_inv
  have v2:=v2.val_inv
  refine ⟨_,.val,fun w' _ _=>?_⟩
  simp only [execOp,v1,v2]
  refine Vc ?_
  simp [eqGuard,binOp,Op.intBits,IntKind.bits]
  exact Yr (fun z:Nat=>IntKind.i64.wrap (z:Int)) (by rw [BitVec.toNat_xor,BitVec.toNat_ofInt,BitVec.toNat_ofInt];rfl)
 ·cases hc
end
end Go.Abs
section
namespace Go.Abs
inductive Z2 where
 | mk (op num:Int) (kids:List Z2)
namespace Z2
def op:Z2->Int|.mk a _ _=>a
def num:Z2->Int|.mk _ a _=>a
def kids:Z2->List Z2|.mk _ _ a=>a
end Z2
structure Func where
 params:LI
 result:Int
 body:Z2
structure Wh where
 decls:List Zf
 funcs:List Func
instance:Inhabited Z2:=⟨.mk 0 0 []⟩
mutual
def IS:Z2->AV
 | .mk op num kids=>.agg [.i op,.i num,.sl (YB kids) none]
def YB:List Z2->List AV
 | []=>[]
 | e::r=>IS e::YB r
end
abbrev Y8 (e:Z2):AV:=.agg [.i e.op,.i e.num,.sl (YB e.kids) none]
abbrev X5 (e:Z2):List AV:=[.i e.op,.i e.num,.sl (YB e.kids) none]
abbrev XI (xs:List Z2):AV:=.sl (YB xs) none
abbrev QU (xs:List Z2) (v:Value):AV:=.sl (YB xs) (some v)
abbrev E9 (f:Func):AV:=.agg [Z6 f.params,.i f.result,.i f.body.op,.i f.body.num,XI f.body.kids]
abbrev H6 (f:Func):List AV:=[Z6 f.params,.i f.result,.i f.body.op,.i f.body.num,XI f.body.kids]
def Xz (xs:List Func):List AV:=xs.map E9
abbrev Hk (xs:List Func):AV:=.sl (Xz xs) none
abbrev At (p:Wh):AV:=.agg [Ye p.decls,Hk p.funcs]
abbrev LR (p:Wh):List AV:=[Ye p.decls,Hk p.funcs]
abbrev I9 (z:Int):AV:=.val (.int .u8 z)
def Qa (xs:LI):List AV:=xs.map I9
abbrev Ue (xs:LI):AV:=.sl (Qa xs) none
theorem Z77 (e:Z2):IS e=Y8 e:=by cases e;rw [IS];rfl
theorem XX:∀xs:List Z2,YB xs=xs.map Y8
 | []=>by rw [YB];rfl
 | s::ss=>by rw [YB,XX ss,Z77];rfl
theorem Di {xs:List Z2} {j:Nat} {x:Z2} (h:xs[j]? = some x):(YB xs)[j]? = some (Y8 x):=by simp [XX,h]
theorem Gf {xs:List Func} {j:Nat} {x:Func} (h:xs[j]? = some x):(Xz xs)[j]? = some (E9 x):=by simp [Xz,h]
theorem Df {xs:LI} {j:Nat} {x:Int} (h:xs[j]? = some x):(Qa xs)[j]? = some (I9 x):=by simp [Qa,h]
@[simp] theorem IT (xs:List Z2):(YB xs).length=xs.length:=by simp [XX]
@[simp] theorem Dj (xs:List Func):(Xz xs).length=xs.length:=by simp [Xz]
@[simp] theorem KG (xs:LI):(Qa xs).length=xs.length:=by simp [Qa]
theorem JY (xs ys:List Z2):YB (xs++ys)=YB xs++YB ys:=by simp [XX]
theorem Z78 (xs ys:List Func):Xz (xs++ys)=Xz xs++Xz ys:=by simp [Xz]
theorem IP (xs:LI) (n:Nat):(Qa xs).take n=Qa (xs.take n):=by simp [Qa]
theorem IN (xs:LI) (n:Nat):(Qa xs).drop n=Qa (xs.drop n):=by simp [Qa]
theorem Tm (xs:List Z2):∀y∈YB xs,y.leaves.length=3:=by intro y hy;simp only [XX,XD] at hy;obtain ⟨x,_,rfl⟩:=hy;rfl
theorem Gg (xs:List Func):∀y∈Xz xs,y.leaves.length=5:=by intro y hy;simp only [Xz,XD] at hy;obtain ⟨x,_,rfl⟩:=hy;rfl
theorem Z71 (xs:LI):∀y∈Qa xs,y.leaves.length=1:=by intro y hy;simp only [Qa,XD] at hy;obtain ⟨x,_,rfl⟩:=hy;rfl
theorem JZ (xs:List Z2):(Za (YB xs)).all AV.one=true:=A5 fun y hy=>by simp only [XX,XD] at hy;obtain ⟨x,_,rfl⟩:=hy;rfl
end Go.Abs
end
section
namespace Go.Abs
open Go.Proofs Go.Proofs.YtfjgjacklgaioaaGreat
section
variable {H:Type} {enc:TypeId × Value->H} {w:World}
def GA (w:World):Yi:=fun b _=>b<w.heap.size
abbrev Tr (enc:TypeId × Value->H) (w:World) (n:Nat) (t:TypeId) (cs:List Value) (x:DataW H × List MemPlace):Prop:=DataW.trod enc Tryz.prog w 0 (fun _=>true) true n t cs=some x
theorem S2 {w:World} {a:Addr} {v:Value} (h:w.cell? a=some v):a.block<w.heap.size/\a.spot=none:=by
 unfold World.cell? at h
 split at h
 ·rename_i c e fr hb
  split at h
  ·cases h
  ·rename_i hs
   exact ⟨(T0.1 hb).1,by simpa using hs⟩
 ·cases h
theorem NU {α:Type} {c:α->Nat}:∀{xs:List α} {ds:List (DataW H)},xs.length=ds.length->(∀(i:Nat) a d,xs[i]? = some a->ds[i]? = some d->c a+1<=Rows.uptoBulk d)->(xs.map fun a=>c a+1).sum<=Rows.uptoBulkAll ds
 | [],[],_,_=>Xa _
 | a::r,d::ds,hl,h=>by
  have h0:=h 0 a d rfl rfl
  have h1:=NU (c:=c) (xs:=r) (ds:=ds) (by simpa using hl) fun i a d ha hd=>h (i+1) a d (by simpa using ha) (by simpa using hd)
  rw [Ve,List.sum_cons,Rows.uptoBulkAll]
  omega
theorem Z0b {α:Type} {f:α->AV} {G:Yi} {k b:Nat} (hf:∀x,(f x).leaves.length=k):∀{xs:List α} {o:Nat},(∀(i:Nat) a,xs[i]? = some a->WD w G b (o+i*k) (f a).leaves)->Vg w G k b o (xs.map f)
 | [],_,_=>.nil
 | x::r,o,h=>by
  refine .cons (hf x) (by have:=h 0 x rfl;simpa using this) (Z0b hf fun i a ha=>?_)
  have:=h (i+1) a (by simpa using ha)
  rw [show o+(i+1)*k=o+k+i*k by rw [TR];omega] at this
  exact this
theorem Zge {α:Type} [Inhabited α] {t e k:Nat} (ht:Tryz.prog.underlying t=some (.slice e)) (hk:Tryz.prog.cellsOf e=k) (h0:0<k) (f:α->AV) (hf:∀x,(f x).leaves.length=k) (c:α->Nat) (Q:α->Prop) {n:Nat} {cs:List Value} {x:DataW H × List MemPlace}
  (h:Tr enc w n t cs x) (el:∀m cs y,m<n->Tr enc w m e cs y->∃a:α,YW w (GA w) (f a).leaves cs/\c a+1<=Rows.uptoBulk y.1/\Q a) :
  ∃(v:Value) (xs:List α),cs=[v]/\RV w (GA w) (.sl (xs.map f) none) v/\(xs.map fun a=>c a+1).sum+1<=Rows.uptoBulk x.1/\∀a∈xs,Q a:=by
 rcases DataW.trod_slice ht h with ⟨rfl,rfl⟩|⟨a,len,cap,elems,rest,m,rfl,rfl,rfl,_,hlc,_,hlen,hel,_,_⟩
 ·exact ⟨_,[],rfl,.nil (by simp),by simp [Rows.uptoBulk],by simp⟩
 ·rw [hk] at hel
  have hone:∀i,i<len->∃z:α,∃cs' y,w.cells? 0 (a.add (i*k)) k=some cs'/\elems[i]? = some y/\YW w (GA w) (f z).leaves cs'/\c z+1<=Rows.uptoBulk y.1/\Q z:=by
   intro i hi
   have h1:=hel i hi
   rw [Qq om] at h1
   obtain ⟨cs',h2,h3⟩:=Option.bind_eq_some_iff.1 h1
   obtain ⟨z,hz1,hz2,hz3⟩:=el m cs' _ om h3
   exact ⟨z,cs',_,h2,Qq om,hz1,hz2,hz3⟩
  obtain ⟨V,hV⟩:=Go.Deep.choose_lt hone
  refine ⟨_,(List.range len).map V,rfl,?_,?_,?_⟩
  ·cases hl0:len with
   | zero=>exact .nil (by simp)
   | succ q=>
    have hsp:a.spot=none:=by
     obtain ⟨cs',y,g1,_⟩:=hV 0 om
     obtain ⟨_,g2,g3⟩:=World.cells?_some g1
     have g4:=g3 0 h0
     rw [Qq om] at g4
     have g5:=(S2 g4).2
     simpa [Addr.add] using g5
    obtain ⟨b,o,sp⟩:=a
    simp only at hsp
    subst hsp
    rw [<-hl0]
    have hll:(((List.range len).map V).map f).length=len:=by simp
    have:=RV.sl (w:=w) (G:=GA w) (es:=((List.range len).map V).map f) (hv:=none) (b:=b) (o:=o) (k:=k) (cap:=cap) (by simp) (by rw [hll];exact hlc) (Z0b hf fun i z hz=>by
     have hi:i<len:=by have:=(Xj.1 hz).1;simpa using this
     have hz':V i=z:=by simpa [hi] using hz
     obtain ⟨cs',y,g1,_,g2,_⟩:=hV i hi
     rw [hz'] at g2
     obtain ⟨_,g3,g4⟩:=World.cells?_some g1
     refine WD.of_cells g2 fun j u hj=>?_
     have hjl:j<k:=by have:=(Xj.1 hj).1;omega
     have g5:=(g4 j hjl).trans hj
     rw [Addr.add_lit,Addr.add_lit] at g5
     exact ⟨g5,(S2 g5).1⟩)
    rw [hll] at this
    exact this
  ·have:=NU (c:=c) (xs:=(List.range len).map V) (ds:=elems.map (·.1)) (by simp [hlen]) fun i z d hz hd=>by
    have hi:i<len:=by have:=(Xj.1 hz).1;simpa using this
    have hz':V i=z:=by simpa [hi] using hz
    obtain ⟨cs',y,_,g1,_,g2,_⟩:=hV i hi
    rw [Ux,g1] at hd
    simp only [C8,Wm] at hd
    rw [<-hd,<-hz']
    exact g2
   simp only [Rows.uptoBulk]
   omega
  ·intro z hz
   obtain ⟨i,hi,rfl⟩:=XD.1 hz
   obtain ⟨_,_,_,_,_,_,g⟩:=hV i (List.mem_range.1 hi)
   exact g
theorem Zgd {n:Nat} {cs:List Value} {x:DataW H × List MemPlace} (h:Tr enc w n 5 cs x):∃z:Int,cs=[.int .u8 z]/\Rows.uptoBulk x.1=1/\0<=z/\z<=255:=by
 obtain ⟨z,rfl,rfl,hw⟩:=DataW.trod_int Tryz.underlying5 h
 refine ⟨z,rfl,rfl,?_⟩
 simpa [Lit.wf,IntKind.min,IntKind.max,IntKind.signed,IntKind.bits] using hw
theorem Z09 {n:Nat} {cs:List Value} {x:DataW H × List MemPlace} (h:Tr enc w n 22 cs x):∃(v:Value) (xs:LI),cs=[v]/\RV w (GA w) (Ue xs) v/\∀z∈xs,0<=z/\z<=255:=by
 obtain ⟨v,xs,h1,h2,h3,h4⟩:=Zge Tryz.underlying22 (k:=1) kr om (fun z:Int=>I9 z) (fun _=>rfl) (fun _=>0) (fun z=>0<=z/\z<=255) h fun m cs y _ hy=>by
  obtain ⟨z,rfl,hb,hz⟩:=Zgd hy
  exact ⟨z,.cons .val .nil,Nat.le_of_eq hb.symm,hz⟩
 exact ⟨v,xs,h1,h2,h4⟩
end
end Go.Abs
end
namespace Go.Abs
structure Sg where
 params:LI
 result:Int
abbrev Nn (f:Sg):AV:=.agg [.sl (Z7 f.params) none,.i f.result,.i 0,.i 0,.sl [] none]
def UA (fs:List Sg):List AV:=fs.map Nn
theorem IU {xs:List Sg} {j:Nat} {x:Sg} (h:xs[j]? = some x):(UA xs)[j]? = some (Nn x):=by simp [UA,h]
@[simp] theorem OK (xs:List Sg):(UA xs).length=xs.length:=by simp [UA]
theorem OJ (xs:List Sg):∀y∈UA xs,y.leaves.length=5:=by intro y hy;simp only [UA,XD] at hy;obtain ⟨x,_,rfl⟩:=hy;rfl
theorem Z7f (xs:List Sg):(Za (UA xs)).all AV.one=true:=A5 fun y hy=>by simp only [UA,XD] at hy;obtain ⟨x,_,rfl⟩:=hy;rfl
mutual
def Z5.sz:Z5->Nat
 | .mk _ _ _ args kids=>1+args.length+Xf kids
def Z4.sz:Z4->Nat
 | .mk steps _=>1+YG steps
def YG:List Z5->Nat
 | []=>0
 | s::r=>s.sz+YG r
def Xf:List Z4->Nat
 | []=>0
 | b::r=>b.sz+Xf r
end
theorem Z5.sz_pos (s:Z5):1<=s.sz:=by cases s;rw [Z5.sz];omega
theorem Z4.sz_pos (b:Z4):1<=b.sz:=by cases b;rw [Z4.sz];omega
theorem JD (l:List Z5):l.length<=YG l:=by
 induction l with
 | nil=>simp
 | cons s r ih=>have:=s.sz_pos;simp only [YR,YG];omega
theorem NR (l:List Z4):l.length<=Xf l:=by
 induction l with
 | nil=>simp
 | cons s r ih=>have:=s.sz_pos;simp only [YR,Xf];omega
theorem Zjp {l:List Z5} {k:Nat} {s:Z5} (h:l[k]? = some s):s.sz<=YG l:=by
 induction l generalizing k with
 | nil=>simp at h
 | cons t r ih=>
  cases k with
  | zero=>simp at h;subst h;simp only [YG];omega
  | succ k=>have:=ih (k:=k) (by simpa using h);simp only [YG];omega
theorem Z4l {l:List Z4} {k:Nat} {s:Z4} (h:l[k]? = some s):s.sz<=Xf l:=by
 induction l generalizing k with
 | nil=>simp at h
 | cons t r ih=>
  cases k with
  | zero=>simp at h;subst h;simp only [Xf];omega
  | succ k=>have:=ih (k:=k) (by simpa using h);simp only [Xf];omega
theorem Z5.sz_eq (s:Z5):s.sz=1+s.args.length+Xf s.kids:=by cases s;rw [Z5.sz];rfl
theorem Z4.sz_eq (b:Z4):b.sz=1+YG b.steps:=by cases b;rw [Z4.sz];rfl
theorem TO {b:Z4} {k:Nat} {s:Z5} (h:b.steps[k]? = some s):s.sz<b.sz:=by have:=Zjp h;have:=b.sz_eq;omega
theorem Ub {s:Z5} {k:Nat} {b:Z4} (h:s.kids[k]? = some b):b.sz<s.sz:=by have:=Z4l h;have:=s.sz_eq;omega
theorem TS (s:Z5):s.args.length<s.sz:=by have:=s.sz_eq;omega
theorem Uc (s:Z5):s.kids.length<s.sz:=by have:=s.sz_eq;have:=NR s.kids;omega
theorem V7 (b:Z4):b.steps.length<b.sz:=by have:=b.sz_eq;have:=JD b.steps;omega
structure Kx (ds:List Zf):Prop where
 len:ds.length<=4194304
 cons:∀d∈ds,d.cons.length<=4194304
 fields:∀d∈ds,∀c∈d.cons,c.fields.length<=4194304
theorem Kx.cons_at {ds:List Zf} (h:Kx ds) {k:Nat} {d:Zf} (hd:ds[k]? = some d):d.cons.length<=4194304:=h.cons d (ZY hd)
theorem Kx.fields_at {ds:List Zf} (h:Kx ds) {k j:Nat} {d:Zf} {c:Yl} (hd:ds[k]? = some d) (hc:d.cons[j]? = some c):c.fields.length<=4194304:=
 h.fields d (ZY hd) c (ZY hc)
def Js (m:Nat) (c:Yl):Bool:=decide (c.fields.length<=3)&&Wr m c.fields
def Kb (d:Zf):List Zf->Bool
 | []=>false
 | e::r=>if e.cons.length=0/\e.frm=d.frm/\e.to_=d.to_ then true else Kb d r
def TU (m:Nat):List Yl->Bool
 | []=>true
 | c::r=>if Js m c=true then TU m r else false
def UR (ds:List Zf) (d:Zf) (i:Nat):Bool:=
 if 0<d.cons.length then (if d.cons.length<=3/\d.frm=0/\d.to_=0 then TU ds.length d.cons else false)
 else if Kb d (ds.take i)=true then false else decide (0<=d.frm/\d.frm<=ds.length)&&decide (0<=d.to_/\d.to_<=ds.length)
def Cm (ds:List Zf) (i:Nat):Bool:=(ds[i]?.map fun d=>UR ds d i).getD false
theorem El {ds:List Zf} {i:Nat} {d:Zf} (h:ds[i]? = some d):Cm ds i=UR ds d i:=by rw [Cm,h];rfl
def Tl (ds:List Zf):List Zf->Nat->Bool
 | [],_=>true
 | _::r,i=>if Cm ds i=true then Tl ds r (i+1) else false
def V1 (ds:List Zf):Bool:=decide (ds.length<=4)&&Tl ds ds 0
theorem O8 {m:Nat} {cs:List Yl}:TU m cs=true↔∀c∈cs,Js m c=true:=by
 induction cs with
 | nil=>simp [TU]
 | cons c r ih=>
  rw [TU]
  split
  ·rename_i h;simp [ih,h]
  ·rename_i h;simp [h]
theorem IH {ds:List Zf}:∀{l:List Zf} {i:Nat},Tl ds l i=true↔∀j<l.length,Cm ds (i+j)=true
 | [],i=>by simp [Tl]
 | d::r,i=>by
  rw [Tl]
  split
  ·rename_i h
   rw [IH (l:=r)]
   constructor
   ·intro hq j hj
    cases j with
    | zero=>exact h
    | succ j=>have:=hq j (by simpa using hj);rwa [show i+(j+1)=i+1+j by omega]
   ·intro hq j hj
    have:=hq (j+1) (by simpa using hj)
    rwa [show i+(j+1)=i+1+j by omega] at this
  ·rename_i h
   simp only [Bool.false_eq_true,false_iff]
   intro hq
   exact h (hq 0 (by simp))
theorem Zl8 {ds:List Zf} (h:V1 ds=true):Wt ds:=by
 simp only [V1,Xi,decide_eq_true_eq] at h
 obtain ⟨h1,h2⟩:=h
 rw [IH] at h2
 have key:∀d∈ds,∃i,UR ds d i=true:=fun d hd=>by
  obtain ⟨i,hi⟩:=List.mem_iff_getElem?.1 hd
  have:=h2 i (Xj.1 hi).1
  rw [Vf,El hi] at this
  exact ⟨i,this⟩
 have hc:∀d∈ds,0<d.cons.length->d.cons.length<=3/\TU ds.length d.cons=true:=fun d hd hp=>by
  obtain ⟨i,hi⟩:=key d hd
  rw [UR,Zg hp] at hi
  split at hi
  ·rename_i h;exact ⟨h.1,hi⟩
  ·cases hi
 refine ⟨h1,fun d hd=>?_,fun d hd c hc'=>?_⟩
 ·by_cases hp:0<d.cons.length
  ·exact (hc d hd hp).1
  ·omega
 ·have:=O8.1 (hc d hd (List.length_pos_of_mem hc')).2 c hc'
  simp only [Js,Xi,decide_eq_true_eq] at this
  exact this.1
def Kt (m:Nat) (f:Sg):Bool:=decide (f.params.length<=3)&&(Wr m f.params&&decide (0<=f.result/\f.result<=m))
def Jg (m:Nat):List Sg->Bool
 | []=>true
 | f::r=>if Kt m f=true then Jg m r else false
def Gn:List Sg->Bool
 | []=>false
 | f::_=>decide (f.params.length=0)&&decide (f.result=0)
theorem Z7w {fs:List Sg} {x:Sg} (h:fs[0]? = some x):Gn fs=(decide (x.params.length=0)&&decide (x.result=0)):=by
 cases fs with
 | nil=>simp at h
 | cons f r=>simp at h;subst h;rfl
def QK (ds:List Zf) (fs:List Sg):Bool:=
 V1 ds&&(decide (1<=fs.length/\fs.length<=4)&&(Jg ds.length fs&&Gn fs))
def QG (ps:LI):LI->Option Int->Bool
 | [],_=>true
 | v::r,prev=>if (0<=v/\v<=(ps.length:Int)-1)/\ps[v.toNat]?≠some 0/\(∀p,prev=some p->p<v) then QG ps r (some v) else false
theorem Hf {ps r:LI} {v:Int} {prev:Option Int} (h:(0<=v/\v<=(ps.length:Int)-1)/\ps[v.toNat]?≠some 0/\(∀p,prev=some p->p<v)):QG ps (v::r) prev=QG ps r (some v):=by
 rw [QG,Zg h]
theorem He {ps r:LI} {v:Int} {prev:Option Int} (h:¬((0<=v/\v<=(ps.length:Int)-1)/\ps[v.toNat]?≠some 0/\(∀p,prev=some p->p<v))):QG ps (v::r) prev=false:=by
 rw [QG,Z9 h]
def Kv (ps ls:LI):Bool:=QG ps ls none
def Kk:List ZH->Bool
 | []=>true
 | r::rs=>if Kv r.params r.lent=true then Kk rs else false
def Vm (r:ZH):Sg:=⟨r.params,r.result⟩
def VW (n:Zp):Bool:=decide (n.routines.length<=4)&&(QK n.decls (n.routines.map Vm)&&Kk n.routines)
end Go.Abs
section
namespace Go.Abs
def XB {α:Type} (xs:List α) (i:Int):Option α:=if 0<=i/\i<=(xs.length:Int)-1 then xs[i.toNat]? else none
theorem Q8 {α:Type} {xs:List α} {i:Int} {x:α} (h:0<=i/\i<=(xs.length:Int)-1) (hx:xs[i.toNat]? = some x):XB xs i=some x:=by rw [XB,Zg h,hx]
theorem QO {α:Type} {xs:List α} {i:Int} (h:¬(0<=i/\i<=(xs.length:Int)-1)):XB xs i=none:=by rw [XB,Z9 h]
theorem Av {α:Type} {xs:List α} {i:Int} {x:α} (h:XB xs i=some x):(0<=i/\i<=(xs.length:Int)-1)/\xs[i.toNat]? = some x:=by
 rw [XB] at h
 split at h
 ·rename_i h1;exact ⟨h1,h⟩
 ·cases h
def TQ (vars:LI):LI->LI->Bool
 | [],[]=>true
 | a::as1,t::ts=>if XB vars a=some t then TQ vars as1 ts else false
 | _,_=>false
def Wb (vars args types:LI):Bool:=TQ vars args types
theorem Z2l {vars:LI}:∀{args types:LI},args.length≠types.length->TQ vars args types=false
 | [],[],h=>absurd rfl h
 | [],_::_,_=>rfl
 | _::_,[],_=>rfl
 | a::as1,t::ts,h=>by
  rw [TQ]
  split
  ·exact Z2l (by simpa using h)
  ·rfl
theorem Zkr {vars args types:LI} {k:Nat} {a t:Int} (ha:args[k]? = some a) (ht:types[k]? = some t) (h:XB vars a=some t) :
  TQ vars (args.drop k) (types.drop k)=TQ vars (args.drop (k+1)) (types.drop (k+1)):=by
 rw [Y6 ha,Y6 ht,TQ,Zg h]
theorem Z2k {vars args types:LI} {k:Nat} {a t:Int} (ha:args[k]? = some a) (ht:types[k]? = some t) (h:XB vars a≠some t) :
  TQ vars (args.drop k) (types.drop k)=false:=by
 rw [Y6 ha,Y6 ht,TQ,Z9 h]
theorem Zkq {vars args types:LI} {k:Nat} (ha:args.length<=k) (ht:types.length<=k):TQ vars (args.drop k) (types.drop k)=true:=by
 rw [Xg ha,Xg ht];rfl
def Vx (op:Int):Bool:=op==0||(op==6||(op==8||(op==9||op==10)))
def Wc (op:Int):Bool:=decide (0<=op/\op<=11)
def Yw (op:Int):Bool:=decide (14<=op/\op<=17)
def UE (vars:LI) (op into:Int):Bool:=
 if into=0 then true else if op=6 then ((XB vars (into-1)).map fun t=>decide (0<t)).getD false else false
def J4 (ds:List Zf) (ps:LI) (res:Int):Int:=Uz ds (ps.getLast?.getD 0) res
def TM (ds:List Zf) (vars:LI) (op:Int) (args:LI) (r:ZH):Int:=
 if op=9 then (if Wb vars args r.params=true then r.result else -1)
 else if r.params.length=0∨0<r.lent.length∨¬Wb vars args (r.params.take (r.params.length-1))=true then -1
 else J4 ds r.params r.result
def VO (n:Zp) (vars:LI) (op num:Int) (args:LI):Int:=
 match XB n.routines num with
 | none=>-1
 | some r=>TM n.decls vars op args r
def QP (ds:List Zf) (vars:LI) (op:Int) (args:LI):Int:=
 match args with
 | [a]=>match XB vars a with
  | some t=>if t=0 then -1 else if (op≠14/\op≠15)/\W8 ds t=true then -1 else 0
  | none=>-1
 | _=>-1
def K6 (ds:List Zf) (vars:LI) (args:LI):Int:=
 match args with
 | [a,b]=>match XB vars a with
  | some t=>if W8 ds t=true then
    (match ds[(t-1).toNat]? with
     | some d=>if Wb vars [b] [d.frm]=true then d.to_ else -1
     | none=>-1) else -1
  | none=>-1
 | _=>-1
def Xy (ds:List Zf) (op num:Int):List LI:=if op=7 then [[],[]] else (Y3 ds num).map (Y2 ds)
mutual
def Ym (n:Zp) (vars:LI):Z5->Int
 | .mk op num into args kids=>
  if (num≠0/\¬Vx op=true)∨¬UE vars op into=true∨(0<kids.length/\op≠7/\op≠8) then -1
  else if op=0 then (if args.length=0/\(-999<=num/\num<=999) then 0 else -1)
  else if op=1∨op=2∨op=3∨op=4 then (if Wb vars args [0,0]=true then 0 else -1)
  else if op=5 then (if Wb vars args [0]=true then 0 else -1)
  else if op=6 then (if 0<Wn n.decls num/\Wb vars args (Y2 n.decls num)=true then Wn n.decls num else -1)
  else if op=7 then (if Wb vars args [0]=true then (if (Xy n.decls op num).length=0∨kids.length≠(Xy n.decls op num).length then -1 else XR n vars kids (Xy n.decls op num) true 0) else -1)
  else if op=8 then (if Wb vars args [num]=true then (if (Xy n.decls op num).length=0∨kids.length≠(Xy n.decls op num).length then -1 else XR n vars kids (Xy n.decls op num) true 0) else -1)
  else if op=9∨op=10 then VO n vars op num args
  else if op=11 then K6 n.decls vars args
  else if op=14∨op=15∨op=16∨op=17 then QP n.decls vars op args
  else -1
def XR (n:Zp) (vars:LI):List Z4->List LI->Bool->Int->Int
 | [],_,_,t=>t
 | b::bs,more,first,t=>
  match more with
  | []=>-1
  | m::ms=>if Xb n (vars++m) b<0∨(first=false/\Xb n (vars++m) b≠t) then -1 else XR n vars bs ms false (Xb n (vars++m) b)
def WA (n:Zp):List Z5->LI->Option LI
 | [],vars=>some vars
 | s::r,vars=>if Ym n vars s<0 then none else WA n r (if Wc s.op=true then vars++[Ym n vars s] else vars)
def Xb (n:Zp) (vars:LI):Z4->Int
 | .mk steps result=>match WA n steps vars with
  | none=>-1
  | some vs=>(XB vs result).getD (-1)
end
def TI (n:Zp) (vars:LI) (op num:Int) (kids:List Z4):Int:=
 if (Xy n.decls op num).length=0∨kids.length≠(Xy n.decls op num).length then -1 else XR n vars kids (Xy n.decls op num) true 0
mutual
def BE:Z5->Int->Int
 | .mk _ _ _ _ kids,left=>QF kids left
def WV:Z4->Int->Int
 | .mk steps _,left=>Qe steps left
def Qe:List Z5->Int->Int
 | [],left=>left
 | s::r,left=>if left<1 then -1 else if BE s (left-1)<0 then -1 else Qe r (BE s (left-1))
def QF:List Z4->Int->Int
 | [],left=>left
 | b::r,left=>if WV b left<0 then -1 else QF r (WV b left)
end
def TP (b:Z4):Int:=if WV b 600<0 then -1 else 600-WV b 600
def Qi (n:Zp):List ZH->Bool
 | []=>true
 | r::rs=>if ¬TP r.body<0/\Xb n r.params r.body=r.result then Qi n rs else false
def WG (n:Zp):Bool:=VW n&&Qi n n.routines
theorem LX:(∀(s:Z5) (l:Int),0<=l->BE s l<=l)/\(∀(b:Z4) (l:Int),0<=l->WV b l<=l):=by
 have key:∀m:Nat,(∀s:Z5,s.sz<=m->∀l:Int,0<=l->BE s l<=l)/\(∀b:Z4,b.sz<=m->∀l:Int,0<=l->WV b l<=l):=by
  intro m
  induction m with
  | zero=>exact ⟨fun s h=>by have:=s.sz_pos;omega,fun s h=>by have:=s.sz_pos;omega⟩
  | succ m ih=>
   refine ⟨fun s hs l hl=>?_,fun b hb l hl=>?_⟩
   ·cases s with
    | mk op num into args kids=>
     rw [BE]
     have hk:Xf kids<=m:=by rw [Z5.sz] at hs;omega
     clear hs
     induction kids generalizing l with
     | nil=>rw [QF];exact Int.le_refl _
     | cons b r ihr=>
      rw [Xf] at hk
      have:=ih.2 b om l hl
      rw [QF]
      split
      ·omega
      ·have:=ihr (WV b l) om om;omega
   ·cases b with
    | mk steps res=>
     rw [WV]
     have hk:YG steps<=m:=by rw [Z4.sz] at hb;omega
     clear hb
     induction steps generalizing l with
     | nil=>rw [Qe];exact Int.le_refl _
     | cons s r ihr=>
      rw [YG] at hk
      rw [Qe]
      split
      ·omega
      ·have:=ih.1 s om (l-1) om
       split
       ·omega
       ·have:=ihr (BE s (l-1)) om om;omega
 exact ⟨fun s l hl=>(key s.sz).1 s (Xa _) l hl,fun b l hl=>(key b.sz).2 b (Xa _) l hl⟩
end Go.Abs
namespace Go.Abs
theorem Zjq {l:List Z5} {k:Nat} {s:Z5} (h:l[k]? = some s):k+s.sz<=YG l:=by
 induction l generalizing k with
 | nil=>simp at h
 | cons t r ih=>
  cases k with
  | zero=>simp at h;subst h;simp only [YG];omega
  | succ k=>have:=ih (k:=k) (by simpa using h);have:=t.sz_pos;simp only [YG];omega
theorem CP {b:Z4} {k:Nat} {s:Z5} (h:b.steps[k]? = some s):k+s.sz<b.sz:=by have:=Zjq h;have:=b.sz_eq;omega
structure Xe (n:Zp):Prop where
 decls:Wt n.decls
 len:n.routines.length<=4
 params:∀r∈n.routines,r.params.length<=3
 lent:∀r∈n.routines,r.lent.length<=4194304
theorem Xe.params_at {n:Zp} (h:Xe n) {k:Nat} {r:ZH} (hr:n.routines[k]? = some r):r.params.length<=3:=h.params r (ZY hr)
theorem Xe.lent_at {n:Zp} (h:Xe n) {k:Nat} {r:ZH} (hr:n.routines[k]? = some r):r.lent.length<=4194304:=h.lent r (ZY hr)
theorem Z49 {ds:List Zf} {num:Int} {k:Nat} {x:Int} (h:(Y3 ds num)[k]? = some x):(Xy ds 8 num)[k]? = some (Y2 ds x):=by
 rw [Xy,Z9 om,Ux,h];rfl
end Go.Abs
namespace Go.Abs
theorem M8 {ds:List Zf} (hd:Wt ds) (t:Int):(Y3 ds t).length<=3:=by
 rw [Y3]
 split
 ·rename_i h
  obtain ⟨d,hd1⟩:=Vr (xs:=ds) (j:=(t-1).toNat) om
  rw [hd1,Zew]
  exact hd.cons_at hd1
 ·simp
theorem Um {ds:List Zf} (hd:Wt ds) (c:Int):(Y2 ds c).length<=3:=by
 by_cases h:Wn ds c<1
 ·rw [(G0 h).1];simp
 ·obtain ⟨k,d,x,h1,_,h3,_,h5⟩:=Iy h
  rw [h5];exact hd.fields_at h1 h3
theorem Ny {ds:List Zf} (hd:Wt ds) {op num:Int} {k:Nat} {m:LI} (h:(Xy ds op num)[k]? = some m):m.length<=3:=by
 have hm:=ZY h
 rw [Xy] at hm
 split at hm
 ·simp at hm;subst hm;simp
 ·obtain ⟨c,_,rfl⟩:=XD.1 hm;exact Um hd c
theorem J3 {α:Type} {xs:List α} {x:α} (h:xs.length=1) (hx:xs[0]? = some x):xs=[x]:=by
 cases xs with
 | nil=>simp at h
 | cons a r=>
  cases r with
  | nil=>simp at hx;rw [hx]
  | cons b r=>simp at h
theorem Da {ds:List Zf} {us args:LI} {op:Int} (h:args.length≠1):QP ds us op args=-1:=by
 cases args with
 | nil=>rfl
 | cons a r=>
  cases r with
  | nil=>simp at h
  | cons b r=>rfl
theorem Db {ds:List Zf} {us args:LI} {op a:Int} (h:args=[a]) (hi:¬(0<=a/\a<=(us.length:Int)-1)):QP ds us op args=-1:=by
 subst h;rw [QP];simp only [QO hi]
theorem D9 {ds:List Zf} {us args:LI} {op a t:Int} (h:args=[a]) (hi:0<=a/\a<=(us.length:Int)-1) (ht:us[a.toNat]? = some t) :
  QP ds us op args=if t=0 then -1 else if (op≠14/\op≠15)/\W8 ds t=true then -1 else 0:=by
 subst h;rw [QP];simp only [Q8 hi ht]
theorem Zgs {n:Zp} {us args:LI} {op num:Int} {r:ZH} (hi:0<=num/\num<=(n.routines.length:Int)-1) (hr:n.routines[num.toNat]? = some r) :
  VO n us op num args=TM n.decls us op args r:=by
 rw [VO];simp only [Q8 hi hr]
theorem Zgt {n:Zp} {us args:LI} {op num:Int} (hi:¬(0<=num/\num<=(n.routines.length:Int)-1)):VO n us op num args=-1:=by
 rw [VO];simp only [QO hi]
theorem PD {xs:LI} {x:Int} (h:xs[xs.length-1]? = some x):xs.getLast?.getD 0=x:=by
 rw [List.getLast?_eq_getElem?,h];rfl
theorem RC {n:Zp} {us:LI} {bs:List Z4} {ms:List LI} {b:Z4} {m:LI} {k:Nat} {t:Int} (hb:bs[k]? = some b) (hm:ms[k]? = some m)
  (h:¬(Xb n (us++m) b<0∨(k:Int)>0/\Xb n (us++m) b≠t)) :
  XR n us (bs.drop k) (ms.drop k) (decide (k=0)) t=XR n us (bs.drop (k+1)) (ms.drop (k+1)) (decide (k+1=0)) (Xb n (us++m) b):=by
 rw [Y6 hb,Y6 hm,XR,Z9]
 ·simp
 ·rintro (q|⟨q1,q2⟩)
  ·exact h (.inl q)
  ·exact h (.inr ⟨by simp at q1;omega,q2⟩)
theorem RA {n:Zp} {us:LI} {bs:List Z4} {ms:List LI} {b:Z4} {m:LI} {k:Nat} {t:Int} (hb:bs[k]? = some b) (hm:ms[k]? = some m)
  (h:Xb n (us++m) b<0∨(k:Int)>0/\Xb n (us++m) b≠t) :
  XR n us (bs.drop k) (ms.drop k) (decide (k=0)) t=-1:=by
 rw [Y6 hb,Y6 hm,XR,Zg]
 rcases h with q|⟨q1,q2⟩
 ·exact .inl q
 ·exact .inr ⟨by simp;omega,q2⟩
theorem RB {n:Zp} {us:LI} {bs:List Z4} {ms:List LI} {k:Nat} {f:Bool} {t:Int} (hb:bs.length<=k):XR n us (bs.drop k) (ms.drop k) f t=t:=by
 rw [Xg hb,XR]
end Go.Abs
end
namespace Go.Abs
theorem Ba (n:Zp) (us:LI) (s:Z5):Ym n us s =
  if (s.num≠0/\¬Vx s.op=true)∨¬UE us s.op s.into=true∨(0<s.kids.length/\s.op≠7/\s.op≠8) then -1
  else if s.op=0 then (if s.args.length=0/\(-999<=s.num/\s.num<=999) then 0 else -1)
  else if s.op=1∨s.op=2∨s.op=3∨s.op=4 then (if Wb us s.args [0,0]=true then 0 else -1)
  else if s.op=5 then (if Wb us s.args [0]=true then 0 else -1)
  else if s.op=6 then (if 0<Wn n.decls s.num/\Wb us s.args (Y2 n.decls s.num)=true then Wn n.decls s.num else -1)
  else if s.op=7 then (if Wb us s.args [0]=true then TI n us s.op s.num s.kids else -1)
  else if s.op=8 then (if Wb us s.args [s.num]=true then TI n us s.op s.num s.kids else -1)
  else if s.op=9∨s.op=10 then VO n us s.op s.num s.args
  else if s.op=11 then K6 n.decls us s.args
  else if s.op=14∨s.op=15∨s.op=16∨s.op=17 then QP n.decls us s.op s.args
  else -1:=by
 cases s with
 | mk op num into args kids=>rw [Ym];rfl
theorem FK (n:Zp) (us:LI) (b:Z4):Xb n us b=match WA n b.steps us with
  | none=>-1
  | some vs=>(XB vs b.result).getD (-1):=by
 cases b with
 | mk st r=>rw [Xb];rfl
theorem Nx {α:Type} {xs:List α} {x:α} (h:xs.length=2) (hx:xs[0]? = some x):∃y,xs=[x,y]:=by
 match xs,h with
 | [a,b],_=>simp at hx;subst hx;exact ⟨b,rfl⟩
theorem T3 {ds:List Zf} {us args:LI} (h:args.length≠2):K6 ds us args=-1:=by
 match args,h with
 | [],_=>rfl
 | [_],_=>rfl
 | [_,_],h=>simp at h
 | _::_::_::_,_=>rfl
theorem T4 {ds:List Zf} {us args:LI} {a:Int} (hl:args.length=2) (h:args[0]? = some a) (hi:¬(0<=a/\a<=(us.length:Int)-1)):K6 ds us args=-1:=by
 obtain ⟨y,rfl⟩:=Nx hl h;rw [K6];simp only [QO hi]
theorem UQ {ds:List Zf} {us args:LI} {a t:Int} (hl:args.length=2) (h:args[0]? = some a) (hi:0<=a/\a<=(us.length:Int)-1) (ht:us[a.toNat]? = some t) :
  K6 ds us args=if W8 ds t=true then
    (match ds[(t-1).toNat]? with
     | some d=>if Wb us (args.drop 1) [d.frm]=true then d.to_ else -1
     | none=>-1) else -1:=by
 obtain ⟨y,rfl⟩:=Nx hl h;rw [K6];simp only [Q8 hi ht];rfl
theorem Z41 {ds:List Zf} {us args:LI} {a t:Int} {d:Zf} (hl:args.length=2) (h:args[0]? = some a) (hi:0<=a/\a<=(us.length:Int)-1) (ht:us[a.toNat]? = some t)
  (hA:W8 ds t=true) (hd:ds[(t-1).toNat]? = some d):K6 ds us args=if Wb us (args.drop 1) [d.frm]=true then d.to_ else -1:=by
 rw [UQ hl h hi ht,Zg hA];simp only [hd]
theorem LE {ds:List Zf} {t:Int} (h:W8 ds t=true):1<=t/\t<=ds.length:=by
 simp only [W8,Xi,decide_eq_true_eq] at h;exact h.1
theorem RT (b:Z4) (l:Int):WV b l=Qe b.steps l:=by cases b;rw [WV];rfl
theorem Hc (s:Z5) (l:Int):BE s l=QF s.kids l:=by cases s;rw [BE];rfl
structure WT (n:Zp):Prop where
 decls:Kx n.decls
 len:n.routines.length<=4194304
 params:∀r∈n.routines,r.params.length<=4194304
 lent:∀r∈n.routines,r.lent.length<=4194304
 body:∀r∈n.routines,r.body.sz<=10000000
theorem Fs {m:Nat} {fs:List Sg} (h:Jg m fs=true):∀f∈fs,Kt m f=true:=by
 induction fs with
 | nil=>simp
 | cons f r ih=>
  rw [Jg] at h
  split at h
  ·rename_i h1
   intro g hg
   rcases YM.1 hg with rfl|hg
   ·exact h1
   ·exact ih h g hg
  ·cases h
theorem M7 {n:Zp} (hz:WT n) (h:VW n=true):Xe n:=by
 simp only [VW,QK,Xi,decide_eq_true_eq] at h
 obtain ⟨h1,⟨h2,h3,h4,h5⟩,h6⟩:=h
 refine ⟨Zl8 h2,h1,fun r hr=>?_,hz.lent⟩
 have:=Fs h4 (Vm r) (XD.2 ⟨r,hr,rfl⟩)
 simp only [Kt,Xi,decide_eq_true_eq] at this
 exact this.1
def gI (xs:LI) (i:Int):Int:=xs[i.toNat]?.getD 0
theorem TY {xs:LI} {i:Int} {x:Int} (h:xs[i.toNat]? = some x):gI xs i=x:=by rw [gI,h];rfl
structure ZP where
 vars:LI
 own:LI
 par:LI
 con:LI
 fst:LI
 tok:LI
def ZP.grow (L:ZP) (t own par:Int):ZP:=⟨L.vars++[t],L.own++[own],L.par++[par],L.con++[-1],L.fst++[-1],L.tok++[-1]⟩
def Qn (L:ZP) (v:Int):Option ZP:=if gI L.own v<1 then none else some { L with own:=L.own.set v.toNat (gI L.own v-1) }
def K5 (own par ln:LI):Nat->Int->Bool
 | 0,_=>false
 | k+1,v=>if gI own v<1/\¬v∈ln then (if gI par v<0 then false else K5 own par ln k (gI par v)) else true
def UO (L:ZP) (ln:LI) (v:Int):Bool:=K5 L.own L.par ln (v.toNat+1) v
def QN:LI->Int->LI->LI
 | own,_,[]=>own
 | own,p,f::r=>QN (if f≠0 then own.set p.toNat (gI own p+1) else own) (p+1) r
def Ae (ds:List Zf) (L:ZP) (op x:Int):Option ZP:=
 if gI L.con x<0∨(op=17/\0<=gI L.tok x) then none
 else match Qn L x with
  | none=>none
  | some L1=>some { L1 with
    own:=QN L1.own (gI L.fst x) (Y2 ds (gI L.con x))
    tok:=if op=17 then L.tok.set x.toNat (Y2 ds (gI L.con x)).length else L.tok }
def Vi (op:Int):Bool:=op==6||(op==9||(op==10||op==11))
def CG (n:Zp) (op num:Int):LI:=if op=9 then ((n.routines[num.toNat]?).map (·.lent)).getD [] else []
def U1 (n:Zp) (op num:Int) (i:Nat):Bool:=decide ((i:Int)∈CG n op num)
def Jt (n:Zp) (vars:LI) (op num a:Int) (i:Nat):Bool:=Vi op&&(gI vars a != 0&&!U1 n op num i)
def KI (n:Zp) (op num:Int):LI->Nat->ZP->Option ZP
 | [],_,L=>some L
 | a::r,i,L=>if Jt n L.vars op num a i=true then (match Qn L a with
   | none=>none
   | some L1=>KI n op num r (i+1) L1) else KI n op num r (i+1) L
def Bz (n:Zp) (op num:Int) (ln:LI) (L:ZP):LI->Nat->Bool
 | [],_=>true
 | a::r,i=>if U1 n op num i=true/\¬UO L ln a=true then false else Bz n op num ln L r (i+1)
def EE (L:ZP) (into:Int) (m:Nat):Option ZP:=
 if 0<into then (if gI L.tok (into-1)≠m then none else some { L with tok:=L.tok.set (into-1).toNat (-1) }) else some L
def Jx (n:Zp) (ln:LI) (L:ZP) (op num into:Int) (args:LI):Option ZP:=
 match KI n op num args 0 L with
 | none=>none
 | some L1=>if Bz n op num ln L1 args 0=true then EE L1 into args.length else none
def C0:LI->LI->Bool
 | o::os,t::ts=>if o≠0∨0<=t then false else C0 os ts
 | _,_=>true
def ZP.take (L:ZP) (m:Nat):ZP:=⟨L.vars.take m,L.own.take m,L.par.take m,L.con.take m,L.fst.take m,L.tok.take m⟩
def JU (L:ZP) (m:Nat):Option ZP:=if C0 (L.own.drop m) (L.tok.drop m)=true then some (L.take m) else none
def Cv (L:ZP) (par:Int):LI->ZP
 | []=>L
 | t::r=>Cv (L.grow t 0 par) par r
def Cg (ds:List Zf) (L:ZP) (x c:Int):ZP:=
 Cv { L with con:=L.con.set x.toNat c,fst:=L.fst.set x.toNat L.vars.length } x (Y2 ds c)
def Q1 (ds:List Zf) (L:ZP) (op num:Int) (args:LI) (i:Nat):ZP:=
 if op=8 then Cg ds L (gI args 0) (gI (Y3 ds num) i) else L
def B6 (lent:LI):LI->Nat->ZP->ZP
 | [],_,L=>L
 | t::r,i,L=>B6 lent r (i+1) (L.grow t (if t≠0/\¬(i:Int)∈lent then 1 else 0) (-1))
def Jf (r:ZH):ZP:=B6 r.lent r.params 0 ⟨[],[],[],[],[],[]⟩
def Co (L:ZP) (ln:LI) (v:Int):Option ZP:=if UO L ln v=true then some { L with own:=L.own.set v.toNat (gI L.own v+1) } else none
def JC (n:Zp) (ln:LI) (L:ZP) (op num into:Int) (args:LI) (ch:Option ZP):Option ZP:=
 if op=14 then Co L ln (gI args 0)
 else if op=15 then Qn L (gI args 0)
 else if op=16∨op=17 then Ae n.decls L op (gI args 0)
 else if op=7∨op=8 then (if op=8/\¬UO L ln (gI args 0)=true then none else ch)
 else Jx n ln L op num into args
def A4 (L:ZP) (op t:Int) (r:Option ZP):Option ZP:=
 match r with
 | none=>none
 | some L1=>if Wc op=true then some (L1.grow t (if t≠0 then 1 else 0) (-1)) else some L1
def CH (L:ZP) (first:Option ZP) (rest:ZP->Bool):Option ZP:=
 match first with
 | none=>none
 | some one=>if rest one=true then some { L with own:=one.own,tok:=one.tok } else none
def HF (one:ZP) (two:Option ZP) (rest:Bool):Bool:=
 match two with
 | none=>false
 | some two=>if one.own=two.own/\one.tok=two.tok then rest else false
def Fx (r:Option ZP) (f:ZP->Option ZP):Option ZP:=match r with|none=>none|some L=>f L
def A3 (m:Nat) (res:Int) (L:ZP):Option ZP:=Fx (if gI L.vars res≠0 then Qn L res else some L) fun L2=>JU L2 m
mutual
def QY (n:Zp) (ln:LI) (L:ZP):Z5->Option ZP
 | .mk op num into args kids=>A4 L op (Ym n L.vars (.mk op num into args kids)) (JC n ln L op num into args (Jb n ln L op num args kids))
def Jb (n:Zp) (ln:LI) (L:ZP) (op num:Int) (args:LI):List Z4->Option ZP
 | []=>none
 | b::bs=>CH L (Ul n ln (Q1 n.decls L op num args 0) L.vars.length b) fun one=>JB n ln L op num args one bs 1
def JB (n:Zp) (ln:LI) (L:ZP) (op num:Int) (args:LI) (one:ZP):List Z4->Nat->Bool
 | [],_=>true
 | b::bs,i=>HF one (Ul n ln (Q1 n.decls L op num args i) L.vars.length b) (JB n ln L op num args one bs (i+1))
def JF (n:Zp) (ln:LI) (L:ZP):List Z5->Option ZP
 | []=>some L
 | s::r=>Fx (QY n ln L s) fun L1=>JF n ln L1 r
def Ul (n:Zp) (ln:LI) (L:ZP) (m:Nat):Z4->Option ZP
 | .mk steps result=>Fx (JF n ln L steps) (A3 m result)
end
theorem Z23 (n:Zp) (ln:LI) (L:ZP) (s:Z5):QY n ln L s=A4 L s.op (Ym n L.vars s) (JC n ln L s.op s.num s.into s.args (Jb n ln L s.op s.num s.args s.kids)):=by
 cases s with
 | mk op num into args kids=>rw [QY];rfl
theorem Il (n:Zp) (ln:LI) (L:ZP) (m:Nat) (b:Z4):Ul n ln L m b=Fx (JF n ln L b.steps) (A3 m b.result):=by
 cases b with
 | mk st r=>rw [Ul];rfl
structure TC (L:ZP):Prop where
 own:L.own.length=L.vars.length
 par:L.par.length=L.vars.length
 con:L.con.length=L.vars.length
 fst:L.fst.length=L.vars.length
 tok:L.tok.length=L.vars.length
structure XO (ds:List Zf) (L:ZP) (q:Int):Prop where
 len:TC L
 down:∀j:Int,0<=j->j<L.vars.length->gI L.par j<j
 arm:∀x:Int,0<=x->x<L.vars.length->0<=gI L.con x->0<=gI L.fst x/\gI L.fst x+(Y2 ds (gI L.con x)).length<=L.vars.length
 nn:∀x∈L.own,0<=x
 bd:∀x∈L.own,x<=q
end Go.Abs
section
namespace Go.Abs
end Go.Abs
namespace Go.Abs
theorem Ze5 {n:Zp} {op num:Int} {r:ZH} (h:op=9) (hr:n.routines[num.toNat]? = some r):CG n op num=r.lent:=by
 rw [CG,Zg h,hr];rfl
end Go.Abs
namespace Go.Abs
theorem Z3n {own par ln:LI} {N:Int} (hd:∀j:Int,0<=j->j<N->gI par j<j):∀(k:Nat) (v:Int),0<=v->v<N->v.toNat+1<=k->K5 own par ln k v=K5 own par ln (v.toNat+1) v:=by
 intro k
 induction k using Nat.strongRecOn with
 | ind k ih=>
  intro v h0 hN hk
  cases k with
  | zero=>omega
  | succ k=>
   rw [K5,K5]
   split
   ·split
    ·rfl
    ·have hdv:=hd v h0 hN
     rw [ih k om (gI par v) om om om]
     rw [ih v.toNat om (gI par v) om om om]
   ·rfl
theorem Z3p {own par ln:LI} {N j x1 x2:Int} {r:Bool} (h1:gI own j=x1) (h2:gI par j=x2) (hj:0<=j/\j<N) (hx:x1<1/\¬j∈ln) (h0:¬x2<0) (hd:∀i:Int,0<=i->i<N->gI par i<i)
  (h:K5 own par ln (j.toNat+1) j=r):K5 own par ln (x2.toNat+1) x2=r:=by
 rw [K5,h1,h2,Zg hx,Z9 h0] at h
 have hdv:=hd j hj.1 hj.2
 rw [<-h,Z3n hd j.toNat x2 om om om]
theorem Z3o {own par ln:LI} {j x1 x2:Int} {r:Bool} (h1:gI own j=x1) (h2:gI par j=x2) (hx:x1<1/\¬j∈ln) (h0:x2<0) (h:K5 own par ln (j.toNat+1) j=r):false=r:=by
 rw [K5,h1,h2,Zg hx,Zg h0] at h;exact h
theorem Z3q {own par ln:LI} {j x1:Int} {r:Bool} (h1:gI own j=x1) (hx:¬(x1<1/\¬j∈ln)) (h:K5 own par ln (j.toNat+1) j=r):true=r:=by
 rw [K5,h1,Z9 hx] at h;exact h
end Go.Abs
namespace Go.Abs
theorem JG {L L':ZP} {v:Int} (h:Qn L v=some L'):1<=gI L.own v/\L'.vars=L.vars/\L'.par=L.par/\L'.con=L.con/\L'.fst=L.fst/\L'.tok=L.tok/\L'.own=L.own.set v.toNat (gI L.own v-1):=by
 rw [Qn] at h
 split at h
 ·cases h
 ·cases h;exact ⟨by omega,rfl,rfl,rfl,rfl,rfl,rfl⟩
theorem Lh {xs:LI} {v:Int} (h:gI xs v≠0):gI xs v∈xs:=by
 rw [gI] at h ⊢
 cases hx:xs[v.toNat]? with
 | none=>rw [hx] at h;exact absurd rfl h
 | some y=>exact ZY hx
theorem Ac {xs:LI} {i:Nat} {a x:Int} (h:x∈xs.set i a):x∈xs∨x=a:=List.mem_or_eq_of_mem_set h
theorem XO.take {ds:List Zf} {L L':ZP} {q v:Int} (hk:XO ds L q) (h:Qn L v=some L'):XO ds L' q:=by
 obtain ⟨t1,t2,t3,t4,t5,t6,t7⟩:=JG h
 obtain ⟨f1,f2,f3,f4,f5⟩:=hk.len
 have hm:=Lh (xs:=L.own) (v:=v) om
 refine ⟨⟨by rw [t7,t2,T1];exact f1,by rw [t3,t2];exact f2,by rw [t4,t2];exact f3,by rw [t5,t2];exact f4,by rw [t6,t2];exact f5⟩,?_,?_,?_,?_⟩
 ·rw [t2,t3];exact hk.down
 ·rw [t2,t4,t5];exact hk.arm
 ·rw [t7];intro x hx
  rcases Ac hx with hx|rfl
  ·exact hk.nn x hx
  ·omega
 ·rw [t7];intro x hx
  rcases Ac hx with hx|rfl
  ·exact hk.bd x hx
  ·have:=hk.bd _ hm;omega
end Go.Abs
end
namespace Go.Abs
theorem N0 {us:LI}:∀{args tys:LI},TQ us args tys=true->args.length=tys.length/\∀a∈args,0<=a/\a<us.length
 | [],[],_=>⟨rfl,by simp⟩
 | [],_::_,h=>by cases h
 | _::_,[],h=>by cases h
 | a::as1,t::ts,h=>by
  rw [TQ] at h
  split at h
  ·rename_i h1
   obtain ⟨q1,q2⟩:=N0 h
   refine ⟨by simp [q1],fun x hx=>?_⟩
   rcases YM.1 hx with rfl|hx
   ·have:=(Av h1).1;omega
   ·exact q2 x hx
  ·cases h
theorem Rx {n:Zp} {us:LI}:∀{bs:List Z4} {ms:List LI} {f:Bool} {t:Int},0<=t->0<=XR n us bs ms f t ->
  ∀(i:Nat) (b:Z4) (m:LI),bs[i]? = some b->ms[i]? = some m->0<=Xb n (us++m) b
 | [],_,_,_,_,_,i,b,m,hb,_=>by simp at hb
 | b::bs,[],_,_,_,h,_,_,_,_,hm=>by simp at hm
 | b::bs,m::ms,f,t,ht,h,i,c,l,hc,hl=>by
  rw [XR] at h
  split at h
  ·omega
  ·rename_i hq
   have h0:0<=Xb n (us++m) b:=by
    rcases Int.lt_or_le (Xb n (us++m) b) 0 with q|q
    ·exact absurd (.inl q) hq
    ·exact q
   cases i with
   | zero=>simp at hc hl;subst hc hl;exact h0
   | succ i=>exact Rx h0 h i c l (by simpa using hc) (by simpa using hl)
structure Cc (n:Zp) (us:LI) (s:Z5):Prop where
 args:∀a∈s.args,0<=a/\a<us.length
 one:(s.op=7∨s.op=8∨(14<=s.op/\s.op<=17))->∃a,s.args=[a]
 num:s.op=9->0<=s.num/\s.num<n.routines.length
 into:s.into≠0->1<=s.into/\s.into<=us.length
 kids:(s.op=7∨s.op=8)->s.kids.length=(Xy n.decls s.op s.num).length/\(Xy n.decls s.op s.num).length≠0 /\
  ∀(i:Nat) (b:Z4) (m:LI),s.kids[i]? = some b->(Xy n.decls s.op s.num)[i]? = some m->0<=Xb n (us++m) b
theorem Zdg {n:Zp} {us:LI} {op num:Int} {kids:List Z4} (h:0<=TI n us op num kids) :
  kids.length=(Xy n.decls op num).length/\(Xy n.decls op num).length≠0/\∀(i:Nat) (b:Z4) (m:LI),kids[i]? = some b->(Xy n.decls op num)[i]? = some m->0<=Xb n (us++m) b:=by
 rw [TI] at h
 split at h
 ·omega
 ·rename_i hq
  exact ⟨by omega,by omega,Rx (Int.le_refl 0) h⟩
theorem RZ {xs:LI} (h:xs.length=1):∃a,xs=[a]:=by
 match xs,h with
 | [a],_=>exact ⟨a,rfl⟩
theorem MR {n:Zp} {us:LI} {s:Z5} (h:0<=Ym n us s):Cc n us s:=by
 rw [Ba] at h
 split at h
 ·omega
 rename_i h0
 have hinto:s.into≠0->1<=s.into/\s.into<=us.length:=by
  intro hi
  have hv:UE us s.op s.into=true:=by
   cases q:UE us s.op s.into with
   | true=>rfl
   | false=>exact absurd (.inr (.inl (by rw [q];simp))) h0
  rw [UE,Z9 hi] at hv
  split at hv
  ·cases ha:XB us (s.into-1) with
   | none=>rw [ha] at hv;cases hv
   | some t=>have:=(Av ha).1;omega
  ·cases hv
 have mk:(∀a∈s.args,0<=a/\a<us.length)->((s.op=7∨s.op=8∨(14<=s.op/\s.op<=17))->∃a,s.args=[a])->(s.op=9->0<=s.num/\s.num<n.routines.length) ->
   ((s.op=7∨s.op=8)->0<=TI n us s.op s.num s.kids)->Cc n us s:=fun a b c d=>⟨a,b,c,hinto,fun q=>Zdg (d q)⟩
 have ty:∀{tys},Wb us s.args tys=true->s.args.length=tys.length/\∀a∈s.args,0<=a/\a<us.length:=fun q=>N0 q
 split at h
 ·rename_i h1
  split at h
  ·rename_i h2
   exact mk (by rw [List.eq_nil_of_length_eq_zero h2.1];simp) om om om
  ·omega
 split at h
 ·split at h
  ·rename_i h1 h2;exact mk (ty h2).2 om om om
  ·omega
 split at h
 ·split at h
  ·rename_i h1 h2;exact mk (ty h2).2 om om om
  ·omega
 split at h
 ·split at h
  ·rename_i h1 h2;exact mk (ty h2.2).2 om om om
  ·omega
 split at h
 ·split at h
  ·rename_i h1 h2;exact mk (ty h2).2 (fun _=>RZ (by simpa using (ty h2).1)) om (fun _=>h)
  ·omega
 split at h
 ·split at h
  ·rename_i h1 h2;exact mk (ty h2).2 (fun _=>RZ (by simpa using (ty h2).1)) om (fun _=>h)
  ·omega
 split at h
 ·rename_i hop
  rw [VO] at h
  cases hr:XB n.routines s.num with
  | none=>rw [hr] at h;simp at h
  | some r=>
   rw [hr] at h
   simp only at h
   have hn:=(Av hr).1
   rw [TM] at h
   split at h
   ·split at h
    ·rename_i h2;exact mk (ty h2).2 om om om
    ·omega
   ·split at h
    ·omega
    ·rename_i h2
     have h3:Wb us s.args (r.params.take (r.params.length-1))=true:=by
      cases q:Wb us s.args (r.params.take (r.params.length-1)) with
      | true=>rfl
      | false=>exact absurd (.inr (.inr (by rw [q];simp))) h2
     exact mk (ty h3).2 om om om
 split at h
 ·rename_i hop
  rcases he:s.args with _|⟨a,_|⟨b,_|⟨c,r⟩⟩⟩
  ·rw [he,show K6 n.decls us []=-1 from rfl] at h;omega
  ·rw [he,show K6 n.decls us [a]=-1 from rfl] at h;omega
  ·rw [he,K6] at h
   cases ha:XB us a with
   | none=>rw [ha] at h;simp at h
   | some t=>
    rw [ha] at h
    simp only at h
    split at h
    ·cases hd:n.decls[(t-1).toNat]? with
     | none=>rw [hd] at h;simp at h
     | some d=>
      rw [hd] at h
      simp only at h
      split at h
      ·rename_i h3
       have h4:=(N0 h3).2 b (by simp)
       have h5:=(Av ha).1
       refine mk (fun x hx=>?_) om om om
       rw [he] at hx
       rcases YM.1 hx with rfl|hx
       ·omega
       ·rw [XZ.1 hx];exact h4
      ·omega
    ·omega
  ·rw [he,show K6 n.decls us (a::b::c::r)=-1 from rfl] at h;omega
 split at h
 ·rename_i hop
  rcases he:s.args with _|⟨a,_|⟨b,r⟩⟩
  ·rw [he,show QP n.decls us s.op []=-1 from rfl] at h;omega
  ·rw [he,QP] at h
   cases ha:XB us a with
   | none=>rw [ha] at h;simp at h
   | some t=>
    have h5:=(Av ha).1
    refine mk (fun x hx=>?_) (fun _=>⟨a,he⟩) om om
    rw [he] at hx
    rw [XZ.1 hx];omega
  ·rw [he,show QP n.decls us s.op (a::b::r)=-1 from rfl] at h;omega
 ·omega
def Kr (n:Zp) (us:LI) (s:Z5):LI:=if Wc s.op=true then us++[Ym n us s] else us
theorem OE {L L':ZP} {ln:LI} {v:Int} (h:Co L ln v=some L'):L'.vars=L.vars/\L'.par=L.par/\L'.con=L.con/\L'.fst=L.fst/\L'.tok=L.tok/\L'.own=L.own.set v.toNat (gI L.own v+1):=by
 rw [Co] at h
 split at h
 ·cases h;exact ⟨rfl,rfl,rfl,rfl,rfl,rfl⟩
 ·cases h
theorem If:∀(fs:LI) (own:LI) (p:Int),(QN own p fs).length=own.length
 | [],own,p=>rfl
 | f::r,own,p=>by rw [QN,If r];split<;>simp
theorem Lg {xs:LI} {q v:Int} (h:∀x∈xs,x<=q) (hq:0<=q):gI xs v<=q:=by
 by_cases h0:gI xs v=0
 ·omega
 ·exact h _ (Lh h0)
theorem Li {xs:LI} {v:Int} (h:∀x∈xs,0<=x):0<=gI xs v:=by
 by_cases h0:gI xs v=0
 ·omega
 ·exact h _ (Lh h0)
theorem Ig:∀(fs:LI) (own:LI) (p:Int),(∀x∈own,0<=x)->∀x∈QN own p fs,0<=x
 | [],own,p,h=>h
 | f::r,own,p,h=>by
  rw [QN]
  refine Ig r _ _ fun x hx=>?_
  split at hx
  ·rcases Ac hx with hx|rfl
   ·exact h x hx
   ·have:=Li (v:=p) h;omega
  ·exact h x hx
theorem Ie:∀(fs:LI) (own:LI) (p q:Int),0<=q->(∀x∈own,x<=q)->∀x∈QN own p fs,x<=q+fs.length
 | [],own,p,q,hq,h=>by intro x hx;have:=h x hx;simp;omega
 | f::r,own,p,q,hq,h=>by
  intro x hx
  rw [QN] at hx
  have:=Ie r _ _ (q+1) om (fun y hy=>by
   split at hy
   ·rcases Ac hy with hy|rfl
    ·have:=h y hy;omega
    ·have:=Lg (v:=p) h hq;omega
   ·have:=h y hy;omega) x hx
  simp only [YR];omega
theorem Sz {ds:List Zf} {L L':ZP} {op v:Int} (h:Ae ds L op v=some L'):L'.vars=L.vars/\L'.par=L.par/\L'.con=L.con/\L'.fst=L.fst/\L'.tok.length=L.tok.length /\
  ∃L1,Qn L v=some L1/\L'.own=QN L1.own (gI L.fst v) (Y2 ds (gI L.con v)):=by
 rw [Ae] at h
 split at h
 ·cases h
 ·cases ht:Qn L v with
  | none=>rw [ht] at h;cases h
  | some L1=>
   rw [ht] at h
   simp only at h
   obtain ⟨t1,t2,t3,t4,t5,t6,t7⟩:=JG ht
   cases h
   refine ⟨t2,t3,t4,t5,?_,L1,rfl,rfl⟩
   split
   ·rw [T1]
   ·rfl
theorem Lq {n:Zp} {op num:Int} {ds:List Zf} {q:Int}:∀{as1:LI} {i:Nat} {L L':ZP},XO ds L q->KI n op num as1 i L=some L'->XO ds L' q/\L'.vars=L.vars/\L'.par=L.par/\L'.con=L.con/\L'.fst=L.fst/\L'.tok=L.tok
 | [],i,L,L',hk,h=>by rw [KI] at h;cases h;exact ⟨hk,rfl,rfl,rfl,rfl,rfl⟩
 | a::r,i,L,L',hk,h=>by
  rw [KI] at h
  split at h
  ·cases ht:Qn L a with
   | none=>rw [ht] at h;cases h
   | some L1=>
    rw [ht] at h
    obtain ⟨t1,t2,t3,t4,t5,t6,t7⟩:=JG ht
    obtain ⟨k1,k2,k3,k4,k5,k6⟩:=Lq (hk.take ht) h
    exact ⟨k1,k2.trans t2,k3.trans t3,k4.trans t4,k5.trans t5,k6.trans t6⟩
  ·exact Lq hk h
theorem XO.le {ds:List Zf} {L:ZP} {q q':Int} (h:XO ds L q) (hq:q<=q'):XO ds L q':=⟨h.len,h.down,h.arm,h.nn,fun x hx=>Int.le_trans (h.bd x hx) hq⟩
theorem XO.turn {ds:List Zf} {L L':ZP} {q q':Int} (hk:XO ds L q) (h1:L'.vars=L.vars) (h2:L'.par=L.par) (h3:L'.con=L.con) (h4:L'.fst=L.fst) (h5:L'.tok.length=L.tok.length) (h6:L'.own.length=L.own.length)
  (h7:∀x∈L'.own,0<=x) (h8:∀x∈L'.own,x<=q'):XO ds L' q':=by
 obtain ⟨f1,f2,f3,f4,f5⟩:=hk.len
 refine ⟨⟨by rw [h6,h1];exact f1,by rw [h2,h1];exact f2,by rw [h3,h1];exact f3,by rw [h4,h1];exact f4,by rw [h5,h1];exact f5⟩,?_,?_,h7,h8⟩
 ·rw [h1,h2];exact hk.down
 ·rw [h1,h3,h4];exact hk.arm
theorem Dq {xs ys:LI} {j:Int} (h:j.toNat<xs.length):gI (xs++ys) j=gI xs j:=by
 rw [gI,gI,CW h]
theorem Pe {xs:LI} {y:Int} {j:Int} (h:j.toNat=xs.length):gI (xs++[y]) j=y:=by
 rw [gI,h];simp
theorem XO.grow {ds:List Zf} {L:ZP} {q t o p:Int} (hk:XO ds L q) (hp:p<L.vars.length) (ho:0<=o/\o<=q):XO ds (L.grow t o p) q:=by
 obtain ⟨f1,f2,f3,f4,f5⟩:=hk.len
 refine ⟨⟨by simp [ZP.grow,f1],by simp [ZP.grow,f2],by simp [ZP.grow,f3],by simp [ZP.grow,f4],by simp [ZP.grow,f5]⟩,?_,?_,?_,?_⟩
 ·intro j hj hl
  simp only [ZP.grow,YF,I2] at hl ⊢
  by_cases hlt:j<L.vars.length
  ·rw [Dq om];exact hk.down j hj hlt
  ·rw [Pe om];omega
 ·intro x hx hl
  simp only [ZP.grow,YF,I2] at hl ⊢
  by_cases hlt:x<L.vars.length
  ·rw [Dq om,Dq om]
   intro hc
   have:=hk.arm x hx hlt hc
   exact ⟨this.1,by omega⟩
  ·rw [Pe om];omega
 ·intro x hx
  simp only [ZP.grow,Xv,XZ] at hx
  rcases hx with hx|rfl
  ·exact hk.nn x hx
  ·exact ho.1
 ·intro x hx
  simp only [ZP.grow,Xv,XZ] at hx
  rcases hx with hx|rfl
  ·exact hk.bd x hx
  ·exact ho.2
theorem Pg {xs:LI} {k:Nat} {a:Int} {j:Int} (h:xs.length<=j.toNat/\j.toNat<xs.length+k):gI (xs++List.replicate k a) j=a:=by
 rw [gI,C2 h.1,List.getElem?_replicate,Zg om];rfl
theorem Ph {xs:LI} {x j c:Int} (h:j.toNat=x.toNat) (hl:x.toNat<xs.length):gI (xs.set x.toNat c) j=c:=by
 rw [gI,h,List.getElem?_set_self hl];rfl
theorem Pi {xs:LI} {x j c:Int} (h:j.toNat≠x.toNat):gI (xs.set x.toNat c) j=gI xs j:=by
 rw [gI,gI,List.getElem?_set_ne (fun q=>h q.symm)]
theorem PE {p:Int}:∀(fs:LI) (L:ZP),Cv L p fs=⟨L.vars++fs,L.own++List.replicate fs.length 0,L.par++List.replicate fs.length p,L.con++List.replicate fs.length (-1),
  L.fst++List.replicate fs.length (-1),L.tok++List.replicate fs.length (-1)⟩
 | [],L=>by simp [Cv]
 | t::r,L=>by rw [Cv,PE r];simp [ZP.grow,C6]
theorem Z47 {ds:List Zf} {L:ZP} {q x c:Int} (hk:XO ds L q) (hq:0<=q) (hx:0<=x/\x<L.vars.length):XO ds (Cg ds L x c) q/\(Cg ds L x c).vars=L.vars++Y2 ds c:=by
 obtain ⟨f1,f2,f3,f4,f5⟩:=hk.len
 rw [Cg,PE]
 refine ⟨⟨⟨by simp [f1],by simp [f2],by simp [f3],by simp [f4],by simp [f5]⟩,?_,?_,?_,?_⟩,rfl⟩
 ·intro j hj hl
  simp only [YF] at hl ⊢
  by_cases hlt:j<L.vars.length
  ·rw [Dq om];exact hk.down j hj hlt
  ·rw [Pg om];omega
 ·intro y hy hl
  simp only [YF] at hl ⊢
  by_cases hlt:y<L.vars.length
  ·rw [Dq (by simp;omega),Dq (by simp;omega)]
   by_cases he:y.toNat=x.toNat
   ·rw [Ph he om,Ph he om]
    intro _
    exact ⟨by omega,by simp⟩
   ·rw [Pi he,Pi he]
    intro hc
    have:=hk.arm y hy hlt hc
    exact ⟨this.1,by omega⟩
  ·rw [Pg (by simp;omega)];omega
 ·intro y hy
  simp only [Xv,List.mem_replicate] at hy
  rcases hy with hy|⟨_,rfl⟩
  ·exact hk.nn y hy
  ·exact Int.le_refl 0
 ·intro y hy
  simp only [Xv,List.mem_replicate] at hy
  rcases hy with hy|⟨_,rfl⟩
  ·exact hk.bd y hy
  ·exact hq
theorem H4 {n:Zp} {L:ZP} {q:Int} {s:Z5} {i:Nat} {m:LI} (hk:XO n.decls L q) (hq:0<=q) (hf:Cc n L.vars s) (hop:s.op=7∨s.op=8) (hm:(Xy n.decls s.op s.num)[i]? = some m) :
  XO n.decls (Q1 n.decls L s.op s.num s.args i) q/\(Q1 n.decls L s.op s.num s.args i).vars=L.vars++m:=by
 rw [Q1]
 split
 ·rename_i h8
  obtain ⟨a,ha⟩:=hf.one om
  have hb:=hf.args a (by rw [ha];simp)
  have hg:gI s.args 0=a:=by rw [ha];rfl
  rw [Xy,Z9 om,Ux] at hm
  cases hc:(Y3 n.decls s.num)[i]? with
  | none=>rw [hc] at hm;cases hm
  | some c=>
   rw [hc] at hm
   cases hm
   have hgc:gI (Y3 n.decls s.num) (i:Int)=c:=by rw [gI];simp [hc]
   rw [hg,hgc]
   exact Z47 hk hq hb
 ·rename_i h8
  rw [Xy,Zg om] at hm
  have:m=[]:=by
   match i,hm with
   | 0,hm=>simpa using hm.symm
   | 1,hm=>simpa using hm.symm
   | i+2,hm=>simp at hm
  subst this
  exact ⟨hk,by simp⟩
theorem Z26 {n:Zp}:∀{l:List Z5} {us vs:LI},WA n l us=some vs->us.length<=vs.length
 | [],us,vs,h=>by rw [WA] at h;cases h;exact Xa _
 | s::r,us,vs,h=>by
  rw [WA] at h
  split at h
  ·cases h
  ·have:=Z26 h
   split at this
   ·simp only [YF,I2] at this;omega
   ·exact this
theorem PG {n:Zp} {ln:LI} {L L':ZP} {op num into q:Int} {args:LI} {ds:List Zf} (hk:XO ds L q) (h:Jx n ln L op num into args=some L'):XO ds L' q/\L'.vars=L.vars:=by
 rw [Jx] at h
 cases ht:KI n op num args 0 L with
 | none=>rw [ht] at h;cases h
 | some L1=>
  rw [ht] at h
  simp only at h
  obtain ⟨k1,k2,k3,k4,k5,k6⟩:=Lq hk ht
  split at h
  ·rw [EE] at h
   split at h
   ·split at h
    ·cases h
    ·cases h
     exact ⟨k1.turn rfl rfl rfl rfl (by simp) rfl k1.nn k1.bd,k2⟩
   ·cases h;exact ⟨k1,k2⟩
  ·cases h
theorem Z5t {L L':ZP} {m:Nat} (h:JU L m=some L'):L'=L.take m/\C0 (L.own.drop m) (L.tok.drop m)=true:=by
 rw [JU] at h
 split at h
 ·rename_i hz;cases h;exact ⟨rfl,hz⟩
 ·cases h
theorem MX {r:Option ZP} {f:ZP->Option ZP} {L:ZP} (h:Fx r f=some L):∃L1,r=some L1/\f L1=some L:=by
 cases r with
 | none=>cases h
 | some L1=>exact ⟨L1,rfl,h⟩
theorem RS (n:Zp) (hn:Xe n) (ln:LI):∀m:Nat,
  (∀(s:Z5) (L L':ZP) (q:Int),s.sz<=m->XO n.decls L q->0<=q->0<=Ym n L.vars s->QY n ln L s=some L'->XO n.decls L' (q+4*s.sz)/\L'.vars=Kr n L.vars s) /\
  (∀(b:Z4) (L O:ZP) (q:Int) (k:Nat),b.sz<=m->XO n.decls L q->0<=q->0<=Xb n L.vars b->k<=L.vars.length->Ul n ln L k b=some O ->
   (O.own.length=k/\O.tok.length=k/\(∀x∈O.own,0<=x/\x<=q+4*b.sz))/\TC O/\O.vars.length=k):=by
 intro m
 induction m with
 | zero=>exact ⟨fun s _ _ _ h=>by have:=s.sz_pos;omega,fun s _ _ _ _ h=>by have:=s.sz_pos;omega⟩
 | succ m ih=>
  have hs:∀(s:Z5) (L L':ZP) (q:Int),s.sz<=m+1->XO n.decls L q->0<=q->0<=Ym n L.vars s->QY n ln L s=some L'->XO n.decls L' (q+4*s.sz)/\L'.vars=Kr n L.vars s:=by
   intro s L L' q Xn hk hq hty h
   have hp:=s.sz_pos
   have hf:=MR hty
   obtain ⟨f1,f2,f3,f4,f5⟩:=hk.len
   rw [Z23] at h
   unfold A4 at h
   cases hpk:JC n ln L s.op s.num s.into s.args (Jb n ln L s.op s.num s.args s.kids) with
   | none=>rw [hpk] at h;cases h
   | some L1=>
    rw [hpk] at h
    simp only at h
    have key:XO n.decls L1 (q+4*s.sz)/\L1.vars=L.vars:=by
     rw [JC] at hpk
     split at hpk
     ·obtain ⟨d1,d2,d3,d4,d5,d6⟩:=OE hpk
      refine ⟨hk.turn d1 d2 d3 d4 (by rw [d5]) (by rw [d6,T1]) ?_ ?_,d1⟩
      ·rw [d6];intro x hx
       rcases Ac hx with hx|rfl
       ·exact hk.nn x hx
       ·have:=Li (v:=gI s.args 0) hk.nn;omega
      ·rw [d6];intro x hx
       rcases Ac hx with hx|rfl
       ·have:=hk.bd x hx;omega
       ·have:=Lg (v:=gI s.args 0) hk.bd hq;omega
     split at hpk
     ·exact ⟨(hk.take hpk).le om,(JG hpk).2.1⟩
     split at hpk
     ·rename_i hop
      obtain ⟨d1,d2,d3,d4,d5,Lt,ht,d6⟩:=Sz hpk
      have hkt:=hk.take ht
      have h3:=Um hn.decls (gI L.con (gI s.args 0))
      refine ⟨hk.turn d1 d2 d3 d4 d5 ?_ ?_ ?_,d1⟩
      ·rw [d6,If,(JG ht).2.2.2.2.2.2,T1]
      ·rw [d6];exact Ig _ _ _ hkt.nn
      ·rw [d6];intro x hx
       have:=Ie _ _ _ q hq hkt.bd x hx;omega
     split at hpk
     ·rename_i hop
      split at hpk
      ·cases hpk
      ·cases hks:s.kids with
       | nil=>rw [hks,Jb] at hpk;cases hpk
       | cons b bs=>
        rw [hks,Jb] at hpk
        unfold CH at hpk
        cases hb:Ul n ln (Q1 n.decls L s.op s.num s.args 0) L.vars.length b with
        | none=>rw [hb] at hpk;cases hpk
        | some one=>
         rw [hb] at hpk
         simp only at hpk
         split at hpk
         ·cases hpk
          obtain ⟨q1,q2,q3⟩:=hf.kids hop
          have hks0:s.kids[0]? = some b:=by rw [hks];rfl
          obtain ⟨a0,ha0⟩:=Vr (xs:=Xy n.decls s.op s.num) (j:=0) om
          obtain ⟨k1,k2⟩:=H4 hk hq hf hop ha0
          have hbz:=Ub hks0
          obtain ⟨⟨r1,r2,r3⟩,_⟩:=ih.2 b _ one q L.vars.length om k1 hq (by rw [k2];exact q3 0 b a0 hks0 ha0) (by rw [k2];simp) hb
          refine ⟨hk.turn rfl rfl rfl rfl (by simp only;omega) (by simp only;omega) (fun x hx=>(r3 x hx).1) (fun x hx=>?_),rfl⟩
          have:=(r3 x hx).2;omega
         ·cases hpk
     ·obtain ⟨k1,k2⟩:=PG hk hpk
      exact ⟨k1.le om,k2⟩
    split at h
    ·rename_i hd
     cases h
     refine ⟨key.1.grow om ?_,by rw [Kr,Zg hd];simp [ZP.grow,key.2]⟩
     split<;>omega
    ·rename_i hd
     cases h
     exact ⟨key.1,by rw [Kr,Z9 hd];exact key.2⟩
  refine ⟨hs,?_⟩
  intro b L O q k Xn hk hq hty hkl h
  have hsteps:∀(l:List Z5) (L L':ZP) (q:Int) (vs:LI),YG l<=m->XO n.decls L q->0<=q->WA n l L.vars=some vs->JF n ln L l=some L'->XO n.decls L' (q+4*YG l)/\L'.vars=vs:=by
   intro l
   induction l with
   | nil=>intro L L' q vs _ hk _ h1 h2;rw [WA] at h1;rw [JF] at h2;cases h1;cases h2;exact ⟨by simpa [YG] using hk,rfl⟩
   | cons s r ihr=>
    intro L L' q vs hz hk hq h1 h2
    rw [YG] at hz
    rw [JF] at h2
    obtain ⟨L1,e1,e2⟩:=MX h2
    rw [WA] at h1
    split at h1
    ·cases h1
    ·rename_i h0
     obtain ⟨k1,k2⟩:=hs s L L1 q om hk hq om e1
     obtain ⟨k3,k4⟩:=ihr L1 L' (q+4*s.sz) vs om k1 om (by rw [k2];exact h1) e2
     exact ⟨k3.le (by rw [YG];omega),k4⟩
  have hbz:=b.sz_eq
  rw [Il] at h
  obtain ⟨L1,e1,e2⟩:=MX h
  rw [FK] at hty
  cases hv:WA n b.steps L.vars with
  | none=>rw [hv] at hty;simp at hty
  | some vs=>
   obtain ⟨k1,k2⟩:=hsteps b.steps L L1 q vs om hk hq hv e1
   have hlen:=Z26 hv
   rw [A3] at e2
   obtain ⟨L2,e3,e4⟩:=MX e2
   have k3:XO n.decls L2 (q+4*YG b.steps)/\L2.vars=L1.vars:=by
    split at e3
    ·exact ⟨k1.take e3,(JG e3).2.1⟩
    ·cases e3;exact ⟨k1,rfl⟩
   obtain ⟨rfl,_⟩:=Z5t e4
   obtain ⟨g1,g2,g3,g4,g5⟩:=k3.1.len
   have hl2:L2.vars.length=vs.length:=by rw [k3.2,k2]
   refine ⟨⟨by simp [ZP.take];omega,by simp [ZP.take];omega,fun x hx=>?_⟩,⟨by simp [ZP.take];omega,by simp [ZP.take];omega,by simp [ZP.take];omega,by simp [ZP.take];omega,by simp [ZP.take];omega⟩,by simp [ZP.take];omega⟩
   have hx':x∈L2.own:=QM hx
   have:=k3.1.nn x hx'
   have:=k3.1.bd x hx'
   omega
theorem Z24 {n:Zp} (hn:Xe n) {ln:LI} {s:Z5} {L L':ZP} {q:Int} (hk:XO n.decls L q) (hq:0<=q) (hty:0<=Ym n L.vars s) (h:QY n ln L s=some L'):XO n.decls L' (q+4*s.sz)/\L'.vars=Kr n L.vars s:=
 (RS n hn ln s.sz).1 s L L' q (Xa _) hk hq hty h
theorem NG {n:Zp} (hn:Xe n) {ln:LI} {b:Z4} {L O:ZP} {q:Int} {k:Nat} (hk:XO n.decls L q) (hq:0<=q) (hty:0<=Xb n L.vars b) (hkl:k<=L.vars.length) (h:Ul n ln L k b=some O) :
  O.own.length=k/\O.tok.length=k/\(∀x∈O.own,0<=x/\x<=q+4*b.sz):=
 ((RS n hn ln b.sz).2 b L O q k (Xa _) hk hq hty hkl h).1
theorem Ff {n:Zp} (hn:Xe n) {ln:LI} {s:Z5} {L L1:ZP} {q:Int} (hk:XO n.decls L q) (hq:0<=q) (hf:Cc n L.vars s)
  (hpk:JC n ln L s.op s.num s.into s.args (Jb n ln L s.op s.num s.args s.kids)=some L1):XO n.decls L1 (q+4*s.sz)/\L1.vars=L.vars:=by
 have hp:=s.sz_pos
 obtain ⟨f1,f2,f3,f4,f5⟩:=hk.len
 rw [JC] at hpk
 split at hpk
 ·obtain ⟨d1,d2,d3,d4,d5,d6⟩:=OE hpk
  refine ⟨hk.turn d1 d2 d3 d4 (by rw [d5]) (by rw [d6,T1]) ?_ ?_,d1⟩
  ·rw [d6];intro x hx
   rcases Ac hx with hx|rfl
   ·exact hk.nn x hx
   ·have:=Li (v:=gI s.args 0) hk.nn;omega
  ·rw [d6];intro x hx
   rcases Ac hx with hx|rfl
   ·have:=hk.bd x hx;omega
   ·have:=Lg (v:=gI s.args 0) hk.bd hq;omega
 split at hpk
 ·exact ⟨(hk.take hpk).le om,(JG hpk).2.1⟩
 split at hpk
 ·rename_i hop
  obtain ⟨d1,d2,d3,d4,d5,Lt,ht,d6⟩:=Sz hpk
  have hkt:=hk.take ht
  have h3:=Um hn.decls (gI L.con (gI s.args 0))
  refine ⟨hk.turn d1 d2 d3 d4 d5 ?_ ?_ ?_,d1⟩
  ·rw [d6,If,(JG ht).2.2.2.2.2.2,T1]
  ·rw [d6];exact Ig _ _ _ hkt.nn
  ·rw [d6];intro x hx
   have:=Ie _ _ _ q hq hkt.bd x hx;omega
 split at hpk
 ·rename_i hop
  split at hpk
  ·cases hpk
  ·cases hks:s.kids with
   | nil=>rw [hks,Jb] at hpk;cases hpk
   | cons b bs=>
    rw [hks,Jb] at hpk
    unfold CH at hpk
    cases hb:Ul n ln (Q1 n.decls L s.op s.num s.args 0) L.vars.length b with
    | none=>rw [hb] at hpk;cases hpk
    | some one=>
     rw [hb] at hpk
     simp only at hpk
     split at hpk
     ·cases hpk
      obtain ⟨q1,q2,q3⟩:=hf.kids hop
      have hks0:s.kids[0]? = some b:=by rw [hks];rfl
      obtain ⟨a0,ha0⟩:=Vr (xs:=Xy n.decls s.op s.num) (j:=0) om
      obtain ⟨k1,k2⟩:=H4 hk hq hf hop ha0
      have hbz:=Ub hks0
      obtain ⟨r1,r2,r3⟩:=NG hn k1 hq (by rw [k2];exact q3 0 b a0 hks0 ha0) (by rw [k2];simp) hb
      refine ⟨hk.turn rfl rfl rfl rfl (by simp only;omega) (by simp only;omega) (fun x hx=>(r3 x hx).1) (fun x hx=>?_),rfl⟩
      have:=(r3 x hx).2;omega
     ·cases hpk
 ·obtain ⟨k1,k2⟩:=PG hk hpk
  exact ⟨k1.le om,k2⟩
end Go.Abs
section
namespace Go.Abs
theorem Z48 {ds:List Zf} {op num:Int} {i:Nat} {m:LI} (h8:op=8) (h:(Xy ds op num)[i]? = some m):∃c,(Y3 ds num)[i]? = some c/\m=Y2 ds c:=by
 rw [Xy,Z9 om,Ux] at h
 cases hc:(Y3 ds num)[i]? with
 | none=>rw [hc] at h;cases h
 | some c=>rw [hc] at h;cases h;exact ⟨c,rfl,rfl⟩
theorem Zd9 {ds:List Zf} {L:ZP} {op num x c:Int} {args:LI} {i:Nat} (h8:op=8) (hx:args[0]? = some x) (hc:(Y3 ds num)[i]? = some c):Q1 ds L op num args i=Cg ds L x c:=by
 have h1:gI args 0=x:=by rw [gI];simp [hx]
 have h2:gI (Y3 ds num) (i:Int)=c:=by rw [gI];simp [hc]
 rw [Q1,Zg h8,h1,h2]
theorem Zda {ds:List Zf} {L:ZP} {op num:Int} {args:LI} {i:Nat} (h8:¬op=8):Q1 ds L op num args i=L:=by rw [Q1,Z9 h8]
theorem Zde {n:Zp} {ln:LI} {L:ZP} {op num:Int} {args:LI} {kids:List Z4} {kb:Z4} (h:kids[0]? = some kb) :
  Jb n ln L op num args kids=CH L (Ul n ln (Q1 n.decls L op num args 0) L.vars.length kb) fun one=>JB n ln L op num args one (kids.drop 1) 1:=by
 cases kids with
 | nil=>simp at h
 | cons b bs=>simp at h;subst h;rw [Jb];rfl
theorem Zdf {n:Zp} {ln:LI} {L one:ZP} {op num:Int} {args:LI} {kids:List Z4} {kb:Z4} {k:Nat} (h:kids[k]? = some kb) :
  JB n ln L op num args one (kids.drop k) k=HF one (Ul n ln (Q1 n.decls L op num args k) L.vars.length kb) (JB n ln L op num args one (kids.drop (k+1)) (k+1)):=by
 rw [Y6 h,JB]
def Cj (n:Zp) (ln:LI) (L:ZP) (s:Z5):Option ZP:=
 if s.op=8/\¬UO L ln (gI s.args 0)=true then none else Jb n ln L s.op s.num s.args s.kids
theorem Z4z {n:Zp} {ln:LI} {L:ZP} {s:Z5} {kb:Z4} (h:¬(s.op=8/\¬UO L ln (gI s.args 0)=true)) (hk:s.kids[0]? = some kb) :
  Cj n ln L s=CH L (Ul n ln (Q1 n.decls L s.op s.num s.args 0) L.vars.length kb) fun one=>JB n ln L s.op s.num s.args one (s.kids.drop 1) 1:=by
 rw [Cj,Z9 h,Zde hk]
theorem AP {xs:LI} {x:Int} (h:xs[0]? = some x):gI xs 0=x:=by rw [gI];simp [h]
end Go.Abs
namespace Go.Abs
theorem TC.grow {L:ZP} {t o p:Int} (h:TC L):TC (L.grow t o p):=by
 obtain ⟨f1,f2,f3,f4,f5⟩:=h
 exact ⟨by simp [ZP.grow,f1],by simp [ZP.grow,f2],by simp [ZP.grow,f3],by simp [ZP.grow,f4],by simp [ZP.grow,f5]⟩
theorem TC.arm {L:ZP} {i j:Nat} {c d:Int} (h:TC L):TC ⟨L.vars,L.own,L.par,L.con.set i c,L.fst.set j d,L.tok⟩:=by
 obtain ⟨f1,f2,f3,f4,f5⟩:=h
 exact ⟨f1,f2,by simp [f3],by simp [f4],f5⟩
end Go.Abs
namespace Go.Abs
theorem Rw {n:Zp} (hn:Xe n) {ln:LI} {L O:ZP} {q:Int} {s:Z5} {i:Nat} {kb:Z4} {m:LI} (hk:XO n.decls L q) (hq:0<=q) (hf:Cc n L.vars s) (hop:s.op=7∨s.op=8)
  (_:s.kids[i]? = some kb) (harm:(Xy n.decls s.op s.num)[i]? = some m) (hbt:0<=Xb n (L.vars++m) kb) (h:Ul n ln (Q1 n.decls L s.op s.num s.args i) L.vars.length kb=some O) :
  O.own.length=L.vars.length/\O.tok.length=L.vars.length:=by
 obtain ⟨k1,k2⟩:=H4 hk hq hf hop harm
 obtain ⟨r1,r2,_⟩:=NG hn k1 hq (by rw [k2];exact hbt) (by rw [k2];simp) h
 exact ⟨r1,r2⟩
theorem Zhp {one two:ZP} {r:Bool} (h:¬(¬one.own=two.own∨¬one.tok=two.tok)):HF one (some two) r=r:=Zg ⟨WH.1 fun q=>h (.inl q),WH.1 fun q=>h (.inr q)⟩
theorem Zho {one two:ZP} {r:Bool} (h:¬one.own=two.own∨¬one.tok=two.tok):HF one (some two) r=false:=Z9 fun q=>h.elim (fun z=>z q.1) fun z=>z q.2
theorem Zek {L one:ZP} {f:ZP->Bool} (h:f one=true):CH L (some one) f=some ⟨L.vars,one.own,L.par,L.con,L.fst,one.tok⟩:=Zg h
theorem S5 {L one:ZP} {f:ZP->Bool} (h:f one=false):CH L (some one) f=none:=Z9 (by rw [h];simp)
end Go.Abs
namespace Go.Abs
section
variable {n:Zp} {ln:LI} {L:ZP} {s:Z5}
abbrev Ag (n:Zp) (ln:LI) (L:ZP) (s:Z5):Option ZP:=JC n ln L s.op s.num s.into s.args (Jb n ln L s.op s.num s.args s.kids)
theorem SB {x:Int} (h:s.op=14) (hx:gI s.args 0=x):Ag n ln L s=Co L ln x:=hx▸Zg h
theorem SD {x:Int} (h:s.op=15) (hx:gI s.args 0=x):Ag n ln L s=Qn L x:=by rw [<-hx,Ag,JC,Z9 om,Zg h]
theorem SF {x:Int} (h:s.op=16∨s.op=17) (hx:gI s.args 0=x):Ag n ln L s=Ae n.decls L s.op x:=by rw [<-hx,Ag,JC,Z9 om,Z9 om,Zg h]
theorem SG (h:s.op=7∨s.op=8):Ag n ln L s=Cj n ln L s:=by rw [Ag,JC,Z9 om,Z9 om,Z9 om,Zg h,Cj]
theorem SH (h1:¬s.op=14) (h2:¬s.op=15) (h3:¬(s.op=16∨s.op=17)) (h4:¬(s.op=7∨s.op=8)):Ag n ln L s=Jx n ln L s.op s.num s.into s.args:=by
 rw [Ag,JC,Z9 h1,Z9 h2,Z9 h3,Z9 h4]
theorem Z6x {v:Int} (h:¬UO L ln v=true):Co L ln v=none:=Z9 h
theorem Z6y {v x:Int} (h:¬¬UO L ln v=true) (hx:gI L.own v=x):Co L ln v=some ⟨L.vars,L.own.set v.toNat (x+1),L.par,L.con,L.fst,L.tok⟩:=by rw [Co,Zg (WH.1 h),hx]
theorem Tx (n:Zp) (ln:LI) (L:ZP) (s:Z5):QY n ln L s=A4 L s.op (Ym n L.vars s) (Ag n ln L s):=Z23 n ln L s
theorem To {X:ZP} {op t:Int} (h:Wc op=true/\t≠0):A4 L op t (some X)=some (X.grow t 1 (-1)):=by
 unfold A4;simp only [h.1,↓reduceIte];rw [Zg h.2]
theorem Tp {X:ZP} {op t:Int} (h:¬(Wc op=true/\t≠0)) (h2:Wc op=true):A4 L op t (some X)=some (X.grow 0 0 (-1)):=by
 have ht:t=0:=WH.1 fun q=>h ⟨h2,q⟩
 subst ht
 unfold A4;simp only [h2,↓reduceIte];rfl
theorem Tq {X:ZP} {op t:Int} (h:¬Wc op=true):A4 L op t (some X)=some X:=by
 unfold A4;simp only [Z9 h]
end
end Go.Abs
namespace Go.Abs
theorem Im {n:Zp} {us:LI} {b:Z4} (h:0<=Xb n us b):∃vs t,WA n b.steps us=some vs/\XB vs b.result=some t/\0<=t:=by
 rw [FK] at h
 cases hv:WA n b.steps us with
 | none=>rw [hv] at h;simp at h
 | some vs=>
  rw [hv] at h
  simp only at h
  cases ha:XB vs b.result with
  | none=>rw [ha] at h;simp at h
  | some t=>rw [ha] at h;exact ⟨vs,t,rfl,ha,h⟩
theorem MS {n:Zp} {us vs:LI} {s:Z5} {r:List Z5} (h:WA n (s::r) us=some vs):0<=Ym n us s/\WA n r (Kr n us s)=some vs:=by
 rw [WA] at h
 split at h
 ·cases h
 ·exact ⟨by omega,h⟩
theorem Z10 (n:Zp) (us:LI) (s:Z5):us.length<=(Kr n us s).length/\(Kr n us s).length<=us.length+s.sz:=by
 have:=s.sz_pos
 rw [Kr];split
 ·simp only [YF,I2];omega
 ·omega
end Go.Abs
namespace Go.Abs
theorem Z7l {X L:ZP} {m:Nat} {r x:Int} (hg:gI L.vars r=x) (h:x≠0) (ht:Qn L r=some X):A3 m r L=JU X m:=by rw [A3,hg,Zg h,ht];rfl
theorem Z7k {L:ZP} {m:Nat} {r x:Int} (hg:gI L.vars r=x) (h:x≠0) (ht:Qn L r=none):A3 m r L=none:=by rw [A3,hg,Zg h,ht];rfl
theorem Er {L:ZP} {m:Nat} {r x:Int} (hg:gI L.vars r=x) (h:¬x≠0):A3 m r L=JU L m:=by rw [A3,hg,Z9 h];rfl
end Go.Abs
namespace Go.Abs
theorem SA {ds:List Zf} {lent:LI}:∀{ps:LI} {i:Nat} {L:ZP},XO ds L 1->XO ds (B6 lent ps i L) 1/\(B6 lent ps i L).vars=L.vars++ps
 | [],i,L,hk=>⟨hk,by simp [B6]⟩
 | t::r,i,L,hk=>by
  rw [B6]
  obtain ⟨k1,k2⟩:=SA (lent:=lent) (ps:=r) (i:=i+1) (hk.grow (t:=t) (o:=if t≠0/\¬(i:Int)∈lent then 1 else 0) (p:=-1) om (by split<;>omega))
  exact ⟨k1,by rw [k2];simp [ZP.grow]⟩
theorem Zeo (ds:List Zf) (r:ZH):XO ds (Jf r) 1/\(Jf r).vars=r.params:=by
 have h:XO ds (⟨[],[],[],[],[],[]⟩:ZP) 1:=⟨⟨rfl,rfl,rfl,rfl,rfl⟩,fun j h1 h2=>by simp at h2;omega,fun j h1 h2=>by simp at h2;omega,by simp,by simp⟩
 obtain ⟨k1,k2⟩:=SA (lent:=r.lent) (ps:=r.params) (i:=0) h
 exact ⟨k1,by rw [Jf,k2];rfl⟩
end Go.Abs
namespace Go.Abs
theorem Hv {n:Zp}:∀{l:List ZH},Qi n l=true->∀r∈l,¬TP r.body<0/\Xb n r.params r.body=r.result
 | [],_,r,h=>by simp at h
 | a::l,h,r,hr=>by
  rw [Qi] at h
  split at h
  ·rename_i h1
   rcases YM.1 hr with rfl|hr
   ·exact h1
   ·exact Hv h r hr
  ·cases h
theorem DZ {n:Zp} (hz:WT n) (h:WG n=true):Xe n/\∀r∈n.routines,0<=Xb n r.params r.body:=by
 simp only [WG,Xi] at h
 refine ⟨M7 hz h.1,fun r hr=>?_⟩
 rw [(Hv h.2 r hr).2]
 have h1:=h.1
 simp only [VW,QK,Xi] at h1
 have:=Fs h1.2.1.2.2.1 (Vm r) (XD.2 ⟨r,hr,rfl⟩)
 simp only [Kt,Xi,decide_eq_true_eq,Vm] at this
 exact (of_decide_eq_true this.2.2).1
end Go.Abs
end
section
namespace Go.Abs
theorem OH {xs:LI} (h:Z7 xs=[]):xs=[]:=by cases xs with|nil=>rfl|cons x r=>cases h
theorem Z72 {xs:List Yl} (h:XU xs=[]):xs=[]:=by cases xs with|nil=>rfl|cons x r=>cases h
theorem Z75 {xs:List Zf} (h:YH xs=[]):xs=[]:=by cases xs with|nil=>rfl|cons x r=>cases h
end Go.Abs
namespace Go.Abs
theorem Pc (xss:List LI) (k:Nat):(xss.take k).flatten.length<=xss.flatten.length:=by
 conv=>rhs;rw [<-Tz k xss,List.flatten_append,YF]
 omega
end Go.Abs
namespace Go.Abs
theorem Lb {xss:List LI} {k:Nat} {x:LI} (h:xss[k]? = some x):(xss.take (k+1)).flatten=(xss.take k).flatten++x:=by rw [WB h,List.flatten_append];simp
theorem Pb {xss:List LI} {k:Nat} {x:LI} (h:xss[k]? = some x):(xss.take k).flatten.length+x.length<=xss.flatten.length:=by
 have:=Pc xss (k+1)
 rw [Lb h,YF] at this
 exact this
end Go.Abs
end
section
namespace Go.Abs
theorem Z5e {c:Int} {ds:List Zf} {k:Nat} {d:Zf} {r:Int × LI} (h:ds[k]? = some d) (hn:¬(c-YT (ds.take k)>=0/\c-YT (ds.take k)<d.cons.length))
  (hr:Tg c (ds.drop k) k (YT (ds.take k))=r):Tg c (ds.drop (k+1)) (k+1) (YT (ds.take (k+1)))=r:=by
 rw [Y6 h,Tg,Z9 om] at hr
 rw [WB h,Ej,<-hr];rfl
end Go.Abs
namespace Go.Abs
theorem Z5g {c:Int} {ds:List Zf} {k:Nat} {d:Zf} {x:Yl} (h:ds[k]? = some d) (hn:c-YT (ds.take k)>=0/\c-YT (ds.take k)<d.cons.length)
  (hx:d.cons[(c-YT (ds.take k)).toNat]? = some x):Tg c (ds.drop k) k (YT (ds.take k))=((k:Int)+1,x.fields):=by
 rw [Y6 h,Tg,Zg om,hx];rfl
def Bj (c:Int) (z:Nat) (v:Int):Prop:=v=c-z∨(c<0/\c-z < -9223372036854775808/\v=c-z+18446744073709551616)
theorem Z4b {c:Int} {z l:Nat} {v:Int} (h:Bj c z v) (hz:z<=100) (hl:l<=3) (hc:-9223372036854775808<=c/\c<=9223372036854775807):Bj c (z+l) (CV (v-l)):=by
 unfold Bj at *;rw [CV,IntKind.wrap_i64];omega
theorem Z5f {c v:Int} {ds:List Zf} {k:Nat} {d:Zf} {r:Int × LI} (h:ds[k]? = some d) (ha:Bj c (YT (ds.take k)) v) (hn:¬(v>=0/\v<d.cons.length))
  (hr:Tg c (ds.drop k) k (YT (ds.take k))=r):Tg c (ds.drop (k+1)) (k+1) (YT (ds.take (k+1)))=r:=Z5e h (by unfold Bj at ha;omega) hr
theorem Z5h {c v:Int} {ds:List Zf} {k:Nat} {d:Zf} {x:Yl} (h:ds[k]? = some d) (ha:Bj c (YT (ds.take k)) v) (hz:YT (ds.take k)<=100) (hl:d.cons.length<=3) (hc:-9223372036854775808<=c)
  (hn:v>=0/\v<d.cons.length) (hx:d.cons[v.toNat]? = some x):Tg c (ds.drop k) k (YT (ds.take k))=((k:Int)+1,x.fields):=by
 have:v=c-(YT (ds.take k):Int):=by unfold Bj at ha;omega
 subst this
 exact Z5g h hn hx
def VQ (ds:List Zf) (t:Int):Zf:=if W8 ds t=true then (ds[(t-1).toNat]?).getD ⟨0,0,[]⟩ else ⟨0,0,[]⟩
end Go.Abs
namespace Go.Abs
abbrev OC (ds:List Zf) (d:Zf):Prop:=
 (((¬(0<=d.frm/\d.frm<=ds.length))∨(¬(0<=d.to_/\d.to_<=ds.length)))∨((d.cons.length:Int)>3))∨(((d.cons.length:Int)>0)/\((d.frm≠0)∨(d.to_≠0)))
theorem Z6r {ds:List Zf} {d:Zf} {i:Nat} (h:OC ds d):UR ds d i=false:=by
 rw [UR]
 split
 ·rw [Z9];rintro ⟨h1,h2,h3⟩
  rcases h with ((h|h)|h)|h<;>omega
 ·split
  ·rfl
  ·rcases h with ((h|h)|h)|h
   ·rw [decide_eq_false h];rfl
   ·rw [decide_eq_false h,Bool.and_false]
   ·omega
   ·omega
theorem Z6s {ds:List Zf} {d:Zf} {i:Nat} (hl:0<d.cons.length) (h:TU ds.length d.cons=false):UR ds d i=false:=by
 rw [UR,Zg hl];split
 ·exact h
 ·rfl
theorem Z6t {ds:List Zf} {d:Zf} {i:Nat} (hl:d.cons.length=0) (h:Kb d (ds.take i)=true):UR ds d i=false:=by
 rw [UR,Z9 om,Zg h]
theorem Z6u {ds:List Zf} {d:Zf} {i:Nat} (h1:¬OC ds d) (h2:TU ds.length d.cons=true) (h3:d.cons.length=0->Kb d (ds.take i)=false):UR ds d i=true:=by
 rw [UR]
 have ha:0<=d.frm/\d.frm<=ds.length:=WH.1 fun q=>h1 (.inl (.inl (.inl q)))
 have hb:0<=d.to_/\d.to_<=ds.length:=WH.1 fun q=>h1 (.inl (.inl (.inr q)))
 have hc:¬(d.cons.length:Int)>3:=fun q=>h1 (.inl (.inr q))
 split
 ·rename_i hl
  have hd:¬(d.frm≠0∨d.to_≠0):=fun q=>h1 (.inr ⟨by omega,q⟩)
  rw [Zg ⟨by omega,by omega,by omega⟩];exact h2
 ·rw [Z9 (by rw [h3 om];simp),decide_eq_true ha,decide_eq_true hb];rfl
theorem N6 {ds:List Zf} {k:Nat} {d:Zf} (h:ds[k]? = some d) (hA:UR ds d k=false) (c:Tl ds (ds.drop k) k=Tl ds ds 0):false=V1 ds:=by
 rw [V1,<-c,Y6 h,Tl,El h,hA,Z9 (by simp),Bool.and_false]
theorem Zla {ds:List Zf} {k:Nat} {d:Zf} {r:Bool} (h:ds[k]? = some d) (hA:UR ds d k=true) (c:Tl ds (ds.drop k) k=r):Tl ds (ds.drop (k+1)) (k+1)=r:=by
 rw [Y6 h,Tl,El h,hA,Zg rfl] at c;exact c
theorem Zl9 {ds:List Zf} {k:Nat} (hl:ds.length<=4) (hk:ds.length<=k) (c:Tl ds (ds.drop k) k=Tl ds ds 0):true=V1 ds:=by
 rw [V1,<-c,Xg hk,decide_eq_true hl];rfl
theorem Z5i {m:Nat} {c:Yl} (h:((c.fields.length:Int)>3)∨(¬(Wr m c.fields=true))):Js m c=false:=by
 rw [Js]
 rcases h with h|h
 ·rw [decide_eq_false om];rfl
 ·rw [UF.2 h,Bool.and_false]
theorem Z5j {m:Nat} {c:Yl} (h:¬(((c.fields.length:Int)>3)∨(¬(Wr m c.fields=true)))):Js m c=true:=by
 rw [Js,WH.1 fun q=>h (.inr q),decide_eq_true (by have:¬(c.fields.length:Int)>3:=fun q=>h (.inl q);omega)];rfl
end Go.Abs
end
section
namespace Go.Abs
structure Vh where
 pms:LI
 lnt:LI
 res:Int
abbrev RH (f:Vh):List AV:=[Z6 f.pms,Z6 f.lnt,.i f.res]
abbrev Ia (f:Vh):AV:=.agg (RH f)
def TF (fs:List Vh):List AV:=fs.map Ia
abbrev DG (xs:List Vh):AV:=.sl (TF xs) none
abbrev Hn (xs:List Vh) (v:Value):AV:=.sl (TF xs) (some v)
theorem Dl {xs:List Vh} {j:Nat} {x:Vh} (h:xs[j]? = some x):(TF xs)[j]? = some (Ia x):=by simp [TF,h]
@[simp] theorem Ep (xs:List Vh):(TF xs).length=xs.length:=by simp [TF]
theorem OI (xs:List Vh):∀y∈TF xs,y.leaves.length=3:=by intro y hy;simp only [TF,XD] at hy;obtain ⟨x,_,rfl⟩:=hy;rfl
theorem Z7e (xs:List Vh):(Za (TF xs)).all AV.one=true:=A5 fun y hy=>by simp only [TF,XD] at hy;obtain ⟨x,_,rfl⟩:=hy;rfl
def W9 (r:ZH):Vh:=⟨r.params,r.lent,r.result⟩
def Ah (m:Nat) (f:Vh):Bool:=Kt m ⟨f.pms,f.res⟩&&Kv f.pms f.lnt
def KO (m:Nat):List Vh->Bool
 | []=>true
 | f::r=>if Ah m f=true then KO m r else false
def L0:List Vh->Bool
 | []=>false
 | f::_=>decide (f.pms.length=0)&&decide (f.res=0)
def Jk (ds:List Zf) (fs:List Vh):Bool:=V1 ds&&(decide (1<=fs.length/\fs.length<=4)&&(L0 fs&&KO ds.length fs))
theorem P1 {fs:List Vh} {x:Vh} (h:fs[0]? = some x):L0 fs=(decide (x.pms.length=0)&&decide (x.res=0)):=by
 cases fs with
 | nil=>simp at h
 | cons f r=>simp at h;subst h;rfl
theorem Z18 (m:Nat):∀rs:List ZH,KO m (rs.map W9)=(Jg m (rs.map Vm)&&Kk rs)
 | []=>rfl
 | r::rs=>by
  simp only [Ve,KO,Jg,Kk,Ah,Z18 m rs]
  simp only [W9,Vm]
  by_cases h1:Kt m { params:=r.params,result:=r.result }=true<;>by_cases h2:Kv r.params r.lent=true<;>simp [h1,h2]
theorem Sb (n:Zp):VW n=(decide (n.routines.length<=4)&&Jk n.decls (n.routines.map W9)):=by
 have hf:L0 (n.routines.map W9)=Gn (n.routines.map Vm):=by
  cases n.routines with
  | nil=>rfl
  | cons r rs=>rfl
 rw [VW,Jk,QK,Z18,hf]
 simp only [Uy]
 cases decide (n.routines.length<=4)<;>cases V1 n.decls<;>cases decide (1<=n.routines.length/\n.routines.length<=4)<;>cases Jg n.decls.length (n.routines.map Vm) <;>
  cases Gn (n.routines.map Vm)<;>cases Kk n.routines<;>rfl
theorem HG {rs:List ZH} {j:Nat} {x:Vh} (h:(rs.map W9)[j]? = some x):∃r,rs[j]? = some r/\x=W9 r:=by
 rw [Ux] at h
 cases hr:rs[j]? with
 | none=>rw [hr] at h;cases h
 | some r=>rw [hr] at h;cases h;exact ⟨r,rfl,rfl⟩
theorem RX {ps ls:LI} {j:Nat} {v:Int} {r:Bool} (h:ls[j]? = some v) (hg:(0<=v/\v<=(ps.length:Int)-1)/\ps[v.toNat]?≠some 0/\(∀p,(if j=0 then none else ls[j-1]?)=some p->p<v))
  (hr:QG ps (ls.drop j) (if j=0 then none else ls[j-1]?)=r):QG ps (ls.drop (j+1)) (if j+1=0 then none else ls[j+1-1]?)=r:=by
 rw [Y6 h,Hf hg] at hr
 rw [Z9 om,show j+1-1=j from rfl,h];exact hr
theorem LY {ps ls:LI} {j:Nat} {v:Int} {r:Bool} (h:ls[j]? = some v) (hg:¬((0<=v/\v<=(ps.length:Int)-1)/\ps[v.toNat]?≠some 0/\(∀p,(if j=0 then none else ls[j-1]?)=some p->p<v)))
  (hr:QG ps (ls.drop j) (if j=0 then none else ls[j-1]?)=r):r=false:=by
 rw [Y6 h,He hg] at hr;exact hr.symm
theorem HH {m:Nat} {fs:List Vh} {k:Nat} {f:Vh} {r:Bool} (h:fs[k]? = some f) (hb:Ah m f=false) (hr:KO m (fs.drop k)=r):r=false:=by
 rw [Y6 h,KO,hb,Z9 (by simp)] at hr;exact hr.symm
theorem Zi4 {m:Nat} {fs:List Vh} {k:Nat} {f:Vh} {r:Bool} (h:fs[k]? = some f) (hb:Ah m f=true) (hr:KO m (fs.drop k)=r):KO m (fs.drop (k+1))=r:=by
 rw [Y6 h,KO,Zg hb] at hr;exact hr
end Go.Abs
namespace Go.Abs
section
variable {ds:List Zf} {fs:List Vh} {x:Vh}
theorem Zlh (h:((¬(V1 ds=true))∨((fs.length:Int)<1))∨((fs.length:Int)>4)):false=Jk ds fs:=by
 rw [Jk]
 rcases h with (h|h)|h
 ·rw [UF.2 h];rfl
 ·rw [decide_eq_false (p:=1<=fs.length/\fs.length<=4) om];simp
 ·rw [decide_eq_false (p:=1<=fs.length/\fs.length<=4) om];simp
theorem Z2x (hx:fs[0]? = some x) (h:((x.pms.length:Int)>0)∨x.res≠0):false=Jk ds fs:=by
 rw [Jk,P1 hx]
 rcases h with h|h
 ·rw [decide_eq_false (p:=x.pms.length=0) om];simp
 ·rw [decide_eq_false (p:=x.res=0) h];simp
theorem HU (h:KO ds.length fs=false):false=Jk ds fs:=by rw [Jk,h];simp
theorem Zli (h:¬(((¬(V1 ds=true))∨((fs.length:Int)<1))∨((fs.length:Int)>4))) (hx:fs[0]? = some x) (h1:¬((x.pms.length:Int)>0)) (h2:¬x.res≠0) (h3:KO ds.length fs=true) :
  true=Jk ds fs:=by
 have hv:V1 ds=true:=WH.1 fun q=>h (.inl (.inl q))
 have ha:¬(fs.length:Int)<1:=fun q=>h (.inl (.inr q))
 have hb:¬(fs.length:Int)>4:=fun q=>h (.inr q)
 rw [Jk,P1 hx,hv,h3,decide_eq_true (p:=1<=fs.length/\fs.length<=4) om,decide_eq_true (p:=x.pms.length=0) om,decide_eq_true (p:=x.res=0) (WH.1 h2)];rfl
abbrev Z16 (m:Nat) (x:Vh):Prop:=(((x.pms.length:Int)>3)∨(¬(Wr m x.pms=true)))∨(¬(0<=x.res/\x.res<=m))
theorem Zhj {m:Nat} (h:Z16 m x):Ah m x=false:=by
 rw [Ah,Kt]
 rcases h with (h|h)|h
 ·rw [decide_eq_false (p:=x.pms.length<=3) om];simp
 ·rw [UF.2 h];simp
 ·rw [decide_eq_false h];simp
theorem My {m:Nat} (h:Kv x.pms x.lnt=false):Ah m x=false:=by rw [Ah,h,Bool.and_false]
theorem Zhk {m:Nat} (h:¬Z16 m x) (hl:Kv x.pms x.lnt=true):Ah m x=true:=by
 have h1:¬(x.pms.length:Int)>3:=fun q=>h (.inl (.inl q))
 rw [Ah,Kt,hl,decide_eq_true (p:=x.pms.length<=3) om,WH.1 fun q=>h (.inl (.inr q)),decide_eq_true (WH.1 fun q=>h (.inr q))];rfl
end
end Go.Abs
namespace Go.Abs
abbrev Qm (n:Zp):AV:=DG (n.routines.map W9)
end Go.Abs
end
section
namespace Go.Abs
def Ws (us:LI):LI->Option LI
 | []=>some []
 | a::r=>match XB us a with
  | none=>none
  | some t=>match Ws us r with
   | none=>none
   | some ts=>some (t::ts)
theorem N1 {us:LI}:∀{args ts:LI},Ws us args=some ts->∀tys,Wb us args tys=true↔ts=tys
 | [],ts,h,tys=>by
  rw [Ws] at h;cases h
  cases tys with
  | nil=>simp [Wb,TQ]
  | cons t r=>simp [Wb,TQ]
 | a::r,ts,h,tys=>by
  rw [Ws] at h
  cases ha:XB us a with
  | none=>rw [ha] at h;cases h
  | some t=>
   rw [ha] at h
   cases hr:Ws us r with
   | none=>rw [hr] at h;cases h
   | some tr=>
    rw [hr] at h;cases h
    cases tys with
    | nil=>simp [Wb,TQ]
    | cons t2 r2=>
     rw [Wb,TQ,ha]
     have:=N1 hr r2
     rw [Wb] at this
     by_cases he:t=t2
     ·subst he;simp [this]
     ·rw [Z9 (fun q=>he (Qs q))];simp [he]
theorem Nv {us:LI}:∀{args ts:LI},Ws us args=some ts->ts.length=args.length
 | [],ts,h=>by rw [Ws] at h;cases h;rfl
 | a::r,ts,h=>by
  rw [Ws] at h
  cases ha:XB us a with
  | none=>rw [ha] at h;cases h
  | some t=>
   rw [ha] at h
   cases hr:Ws us r with
   | none=>rw [hr] at h;cases h
   | some tr=>rw [hr] at h;cases h;simp [Nv hr]
theorem Nw {us:LI} {b t:Int}:∀{xs ts:LI},Ws us xs=some ts->XB us b=some t->Ws us (xs++[b])=some (ts++[t])
 | [],ts,h,hb=>by rw [Ws] at h;cases h;simp [Ws,hb]
 | a::r,ts,h,hb=>by
  rw [Ws] at h
  cases ha:XB us a with
  | none=>rw [ha] at h;cases h
  | some u=>
   rw [ha] at h
   cases hr:Ws us r with
   | none=>rw [hr] at h;cases h
   | some tr=>
    rw [hr] at h;cases h
    rw [K1,Ws,ha,Nw hr hb];rfl
def Ea (n:Zp) (num:Int):LI->Option Int
 | [a,b]=>if W8 n.decls a=true/\b=(VQ n.decls a).frm/\num=0 then some (VQ n.decls a).to_ else none
 | _=>none
def XS (n:Zp) (op num:Int) (ts:LI):Option Int:=
 if op=0 then (if (-999<=num/\num<=999)/\ts.length=0 then some 0 else none)
 else if op=1∨op=2∨op=3∨op=4 then (if num=0/\ts=[0,0] then some 0 else none)
 else if op=5 then (if num=0/\ts=[0] then some 0 else none)
 else if op=11 then Ea n num ts
 else if op=6 then (if 0<=Wn n.decls num/\ts=Y2 n.decls num then some (Wn n.decls num) else none)
 else if op=9 then (match XB n.routines num with
  | none=>none
  | some r=>if ts=r.params then some r.result else none)
 else if op=10 then (match XB n.routines num with
  | none=>none
  | some r=>if r.params.length≠0/\0<=J4 n.decls r.params r.result/\ts=r.params.take (r.params.length-1) then some (J4 n.decls r.params r.result) else none)
 else none
theorem FH {n:Zp} {num:Int} {ts:LI} (h:ts.length≠2):Ea n num ts=none:=by
 match ts,h with
 | [],_=>rfl
 | [_],_=>rfl
 | [_,_],h=>simp at h
 | _::_::_::_,_=>rfl
structure CZ (n:Zp):Prop where
 result:∀r∈n.routines,0<=r.result
 params:∀r∈n.routines,∀p∈r.params,0<=p
 decl:∀d∈n.decls,d.cons.length=0->0<=d.frm/\0<=d.to_
 fields:∀c,∀f∈Y2 n.decls c,0<=f
abbrev R3 (us:LI) (s:Z5):Prop:=s.into≠0/\(((s.op≠6∨s.into<1)∨s.into>us.length)∨gI us (s.into-1)=0)
theorem Zcz {us:LI} {op into:Int} (hnn:∀t∈us,0<=t) (h:¬(into≠0/\(((op≠6∨into<1)∨into>us.length)∨gI us (into-1)=0))):UE us op into=true:=by
 rw [UE]
 split
 ·rfl
 ·rename_i h0
  have h1:¬(((op≠6∨into<1)∨into>us.length)∨gI us (into-1)=0):=fun q=>h ⟨h0,q⟩
  have h2:op=6:=WH.1 fun q=>h1 (.inl (.inl (.inl q)))
  have h3:¬into<1:=fun q=>h1 (.inl (.inl (.inr q)))
  have h4:¬into>us.length:=fun q=>h1 (.inl (.inr q))
  have h5:¬gI us (into-1)=0:=fun q=>h1 (.inr q)
  obtain ⟨t,ht⟩:=Vr (xs:=us) (j:=(into-1).toNat) om
  rw [Zg h2,Q8 om ht]
  rw [TY ht] at h5
  have:=hnn t (ZY ht)
  simp;omega
theorem Zcy {us:LI} {op into:Int} (h:into≠0/\(((op≠6∨into<1)∨into>us.length)∨gI us (into-1)=0)):UE us op into=false:=by
 obtain ⟨h0,h⟩:=h
 rw [UE,Z9 h0]
 split
 ·rename_i h6
  cases ha:XB us (into-1) with
  | none=>rfl
  | some t=>
   obtain ⟨a1,a2⟩:=Av ha
   rcases h with ((h|h)|h)|h
   ·exact absurd h6 h
   ·omega
   ·omega
   ·rw [TY a2] at h;subst h;rfl
 ·rfl
theorem Zkh {n:Zp} {us:LI} {s:Z5} (h:R3 us s):Ym n us s=-1:=by
 rw [Ba,Zg (.inr (.inl (by rw [Zcy h];simp)))]
end Go.Abs
namespace Go.Abs
theorem Zd0 {α:Type} {c:Prop} [Decidable c] {v:α}:(if c then some v else none).isSome=decide c:=by split<;>simp_all
theorem Zi5 {n:Zp} (hty:CZ n) {op num:Int} {ts:LI} {x:Int} (h:XS n op num ts=some x):0<=x:=by
 unfold XS at h
 split at h
 ·split at h<;>cases h;exact Int.le_refl 0
 split at h
 ·split at h<;>cases h;exact Int.le_refl 0
 split at h
 ·split at h<;>cases h;exact Int.le_refl 0
 split at h
 ·rcases ts with _|⟨a,_|⟨b,_|⟨c,r⟩⟩⟩
  ·cases h
  ·cases h
  ·rw [Ea] at h
   split at h
   ·rename_i hq
    cases h
    rw [VQ,Zg hq.1]
    have hA:=hq.1
    simp only [W8,Xi,decide_eq_true_eq] at hA
    cases hd:n.decls[(a-1).toNat]? with
    | none=>rw [hd] at hA;simp at hA
    | some d=>
     rw [hd] at hA
     exact (hty.decl d (ZY hd) (by simpa using hA.2)).2
   ·cases h
  ·cases h
 split at h
 ·split at h
  ·rename_i hq;cases h;exact hq.1
  ·cases h
 split at h
 ·cases ha:XB n.routines num with
  | none=>rw [ha] at h;cases h
  | some r=>
   rw [ha] at h
   simp only at h
   split at h
   ·cases h;exact hty.result r (ZY (Av ha).2)
   ·cases h
 split at h
 ·cases ha:XB n.routines num with
  | none=>rw [ha] at h;cases h
  | some r=>
   rw [ha] at h
   simp only at h
   split at h
   ·rename_i hq;cases h;exact hq.2.1
   ·cases h
 ·cases h
def Ji (n:Zp) (us:LI) (s:Z5) (ts:LI):Int:=
 if Yw s.op=true then (match ts with
  | [t]=>if t≠0/\s.num=0/\s.kids.length=0/\¬((s.op=16∨s.op=17)/\W8 n.decls t=true) then 0 else -1
  | _=>-1)
 else if s.op=7 then (if ts=[0]/\s.num=0 then TI n us s.op s.num s.kids else -1)
 else if s.op=8 then (if ts=[s.num] then TI n us s.op s.num s.kids else -1)
 else if 0<s.kids.length∨(s.op=10/\0<(((XB n.routines s.num).map (·.lent)).getD []).length) then -1
 else (XS n s.op s.num ts).getD (-1)
theorem R6 {p q:Prop} [Decidable p] [Decidable q] {a b:Int} (h:p↔q):ite p a b=ite q a b:=by
 by_cases hp:p
 ·rw [Zg hp,Zg (h.1 hp)]
 ·rw [Z9 hp,Z9 (fun z=>hp (h.2 z))]
theorem BX {n:Zp} {us:LI} {s:Z5} {ts:LI} (hnn:∀t∈us,0<=t) (hts:Ws us s.args=some ts) (hi:¬R3 us s):Ym n us s=Ji n us s ts:=by
 have hv:=Zcz hnn hi
 have ht:=N1 hts
 have hl:=Nv hts
 have hfirst:((s.num≠0/\¬Vx s.op=true)∨¬UE us s.op s.into=true∨(0<s.kids.length/\s.op≠7/\s.op≠8))↔((s.num≠0/\¬Vx s.op=true)∨(0<s.kids.length/\s.op≠7/\s.op≠8)):=by
  rw [hv];simp
 rw [Ba,R6 hfirst]
 unfold Ji
 by_cases hc:Yw s.op=true
 ·have hop:14<=s.op/\s.op<=17:=by simpa [Yw] using hc
  have hnum:Vx s.op=false:=by simp [Vx];omega
  rw [Zg hc]
  by_cases hb:s.num≠0∨0<s.kids.length
  ·rw [Zg (by rcases hb with hb|hb;exact .inl ⟨hb,by rw [hnum];simp⟩;exact .inr ⟨hb,by omega,by omega⟩)]
   split
   ·rw [Z9];rintro ⟨h1,h2,h3,h4⟩;omega
   ·rfl
  ·rw [Z9 (by rintro (⟨h1,_⟩|⟨h1,_⟩)<;>exact hb (by first|exact .inl h1|exact .inr h1)),Z9 om,Z9 om,Z9 om,Z9 om,Z9 om,Z9 om,Z9 om,Z9 om,Zg om]
   have Zc:s.num=0:=WH.1 fun q=>hb (.inl q)
   have ZA:s.kids.length=0:=by have:¬0<s.kids.length:=fun q=>hb (.inr q);omega
   rcases he:s.args with _|⟨a,_|⟨b,r⟩⟩
   ·rw [he] at hts;rw [Ws] at hts;cases hts;rfl
   ·rw [he] at hts
    rw [Ws] at hts
    cases ha:XB us a with
    | none=>rw [ha] at hts;cases hts
    | some t=>
     rw [ha,Ws] at hts;cases hts
     rw [QP,ha]
     simp only
     by_cases ht0:t=0
     ·rw [Zg ht0,Z9 (fun q=>q.1 ht0)]
     ·rw [Z9 ht0]
      by_cases hA:W8 n.decls t=true
      ·by_cases h16:s.op=16∨s.op=17
       ·rw [Zg ⟨by omega,hA⟩,Z9 (fun q=>q.2.2.2 ⟨h16,hA⟩)]
       ·rw [Z9 (by rintro ⟨q,_⟩;omega),Zg ⟨ht0,Zc,ZA,fun q=>h16 q.1⟩]
      ·rw [Z9 (fun q=>hA q.2),Zg ⟨ht0,Zc,ZA,fun q=>hA q.2⟩]
   ·rw [he] at hl
    rw [show QP n.decls us s.op (a::b::r)=-1 from rfl]
    match ts,hl with
    | [t],hl=>simp at hl
    | [],hl=>simp at hl
    | _::_::_,_=>rfl
 have hop:¬(14<=s.op/\s.op<=17):=by simpa [Yw] using hc
 by_cases h7:s.op=7
 ·have hnum:Vx s.op=false:=by simp [Vx];omega
  conv=>rhs;rw [Z9 hc,Zg h7]
  by_cases hb:s.num=0
  ·rw [Z9 (fun q=>q.elim (fun z=>z.1 hb) fun z=>z.2.1 h7),Z9 om,Z9 om,Z9 om,Z9 om,Zg h7]
   by_cases hq:ts=[0]
   ·rw [Zg ((ht _).2 hq),Zg ⟨hq,hb⟩]
   ·rw [Z9 (fun q=>hq ((ht _).1 q)),Z9 (fun q=>hq q.1)]
  ·rw [Zg (.inl ⟨hb,by rw [hnum];simp⟩),Z9 (fun q=>hb q.2)]
 by_cases h8:s.op=8
 ·have hnum:Vx s.op=true:=by simp [Vx,h8]
  conv=>rhs;rw [Z9 hc,Z9 h7,Zg h8]
  rw [Z9 (fun q=>q.elim (fun z=>z.2 hnum) fun z=>z.2.2 h8),Z9 om,Z9 om,Z9 om,Z9 om,Z9 h7,Zg h8]
  by_cases hq:ts=[s.num]
  ·rw [Zg ((ht _).2 hq),Zg hq]
  ·rw [Z9 (fun q=>hq ((ht _).1 q)),Z9 hq]
 conv=>rhs;rw [Z9 hc,Z9 h7,Z9 h8]
 by_cases hk:0<s.kids.length
 ·rw [Zg (.inr ⟨hk,h7,h8⟩),Zg (.inl hk)]
 by_cases hlent:s.op=10/\0<(((XB n.routines s.num).map (·.lent)).getD []).length
 ·conv=>rhs;rw [Zg (.inr hlent)]
  have hnum:Vx s.op=true:=by simp [Vx,hlent.1]
  have h10:=hlent.1
  rw [Z9 (fun q=>q.elim (fun z=>z.2 hnum) fun z=>hk z.1),Z9 om,Z9 om,Z9 om,Z9 om,Z9 h7,Z9 h8,Zg (.inr h10),VO]
  cases ha:XB n.routines s.num with
  | none=>rfl
  | some r=>
   have h2:=hlent.2
   rw [ha] at h2
   simp only [C8,Option.getD_some] at h2
   simp only
   rw [TM,Z9 om,Zg (.inr (.inl h2))]
 conv=>rhs;rw [Z9 (fun q=>Or.elim q hk hlent)]
 have sf:∀{X:Option Int},XS n s.op s.num ts=X->Ym n us s=X.getD (-1)->Ym n us s=(XS n s.op s.num ts).getD (-1):=fun a b=>by rw [a];exact b
 have hL:=Ba n us s
 rw [R6 hfirst] at hL
 rw [<-hL]
 by_cases hnb:s.num≠0/\¬Vx s.op=true
 ·have hnn2:¬(s.op=0∨(s.op=6∨(s.op=8∨(s.op=9∨s.op=10)))):=fun q=>hnb.2 (by simpa [Vx] using q)
  refine sf (X:=none) ?_ (by rw [hL,Zg (.inl hnb)];rfl)
  unfold XS
  rw [Z9 om]
  split
  ·rw [Z9 (fun q=>hnb.1 q.1)]
  split
  ·rw [Z9 (fun q=>hnb.1 q.1)]
  split
  ·by_cases hl2:ts.length=2
   ·match ts,hl2 with
    | [a,b],_=>exact Z9 fun q=>hnb.1 q.2.2
   ·exact FH hl2
  rw [Z9 om,Z9 om,Z9 om]
 rw [Z9 (fun q=>q.elim hnb fun z=>hk z.1)] at hL
 have hnumf:¬(s.op=0∨(s.op=6∨(s.op=8∨(s.op=9∨s.op=10))))->s.num=0:=fun q=>WH.1 fun z=>hnb ⟨z,fun y=>q (by simpa [Vx] using y)⟩
 by_cases h0:s.op=0
 ·rw [Zg h0] at hL
  by_cases hq:s.args.length=0/\(-999<=s.num/\s.num<=999)
  ·exact sf (by unfold XS;rw [Zg h0,Zg ⟨hq.2,by omega⟩]) (by rw [hL,Zg hq];rfl)
  ·exact sf (by unfold XS;rw [Zg h0,Z9 (fun q=>hq ⟨by omega,q.1⟩)]) (by rw [hL,Z9 hq];rfl)
 rw [Z9 h0] at hL
 by_cases h1:s.op=1∨s.op=2∨s.op=3∨s.op=4
 ·rw [Zg h1] at hL
  by_cases hq:ts=[0,0]
  ·exact sf (by unfold XS;rw [Z9 h0,Zg h1,Zg ⟨hnumf om,hq⟩]) (by rw [hL,Zg ((ht _).2 hq)];rfl)
  ·exact sf (by unfold XS;rw [Z9 h0,Zg h1,Z9 (fun q=>hq q.2)]) (by rw [hL,Z9 (fun q=>hq ((ht _).1 q))];rfl)
 rw [Z9 h1] at hL
 by_cases h5:s.op=5
 ·rw [Zg h5] at hL
  by_cases hq:ts=[0]
  ·exact sf (by unfold XS;rw [Z9 h0,Z9 h1,Zg h5,Zg ⟨hnumf om,hq⟩]) (by rw [hL,Zg ((ht _).2 hq)];rfl)
  ·exact sf (by unfold XS;rw [Z9 h0,Z9 h1,Zg h5,Z9 (fun q=>hq q.2)]) (by rw [hL,Z9 (fun q=>hq ((ht _).1 q))];rfl)
 rw [Z9 h5] at hL
 by_cases h6:s.op=6
 ·rw [Zg h6] at hL
  have hct:0<Wn n.decls s.num↔0<=Wn n.decls s.num:=by
   rcases Int.lt_or_le (Wn n.decls s.num) 1 with q|q
   ·have:=(G0 q).2;omega
   ·omega
  by_cases hq:0<=Wn n.decls s.num/\ts=Y2 n.decls s.num
  ·exact sf (by unfold XS;rw [Z9 h0,Z9 h1,Z9 h5,Z9 om,Zg h6,Zg hq]) (by rw [hL,Zg ⟨hct.2 hq.1,(ht _).2 hq.2⟩];rfl)
  ·exact sf (by unfold XS;rw [Z9 h0,Z9 h1,Z9 h5,Z9 om,Zg h6,Z9 hq]) (by rw [hL,Z9 (fun q=>hq ⟨hct.1 q.1,(ht _).1 q.2⟩)];rfl)
 rw [Z9 h6,Z9 h7,Z9 h8] at hL
 by_cases h9:s.op=9
 ·rw [Zg (.inl h9),VO] at hL
  cases ha:XB n.routines s.num with
  | none=>exact sf (by unfold XS;rw [Z9 h0,Z9 h1,Z9 h5,Z9 om,Z9 h6,Zg h9,ha]) (by rw [hL,ha];rfl)
  | some r=>
   rw [ha] at hL
   simp only at hL
   rw [TM,Zg h9] at hL
   have hF:∀{X:Option Int},(if ts=r.params then some r.result else none)=X->XS n s.op s.num ts=X:=fun q=>by
    unfold XS;rw [Z9 h0,Z9 h1,Z9 h5,Z9 om,Z9 h6,Zg h9,ha];exact q
   by_cases hq:ts=r.params
   ·exact sf (hF (Zg hq)) (by rw [hL,Zg ((ht _).2 hq)];rfl)
   ·exact sf (hF (Z9 hq)) (by rw [hL,Z9 (fun q=>hq ((ht _).1 q))];rfl)
 by_cases h10:s.op=10
 ·rw [Zg (.inr h10),VO] at hL
  cases ha:XB n.routines s.num with
  | none=>exact sf (by unfold XS;rw [Z9 h0,Z9 h1,Z9 h5,Z9 om,Z9 h6,Z9 h9,Zg h10,ha]) (by rw [hL,ha];rfl)
  | some r=>
   rw [ha] at hL hlent
   simp only [C8,Option.getD_some] at hL hlent
   rw [TM,Z9 h9] at hL
   have hF:∀{X:Option Int},(if r.params.length≠0/\0<=J4 n.decls r.params r.result/\ts=r.params.take (r.params.length-1) then some (J4 n.decls r.params r.result) else none)=X->XS n s.op s.num ts=X:=fun q=>by
    unfold XS;rw [Z9 h0,Z9 h1,Z9 h5,Z9 om,Z9 h6,Z9 h9,Zg h10,ha];exact q
   by_cases hp:r.params.length=0
   ·exact sf (hF (Z9 fun q=>q.1 hp)) (by rw [hL,Zg (.inl hp)];rfl)
   by_cases hq:ts=r.params.take (r.params.length-1)
   ·rw [Z9 (fun z=>z.elim hp fun z=>z.elim (fun z=>hlent ⟨h10,z⟩) fun z=>z ((ht _).2 hq))] at hL
    by_cases har:0<=J4 n.decls r.params r.result
    ·exact sf (hF (Zg ⟨hp,har,hq⟩)) hL
    ·refine sf (hF (Z9 fun q=>har q.2.1)) ?_
     have key:∀(l:List Zf) (i:Nat) (f t:Int),¬0<=KA f t l i->KA f t l i=-1:=by
      intro l
      induction l with
      | nil=>intro i f t _;rfl
      | cons d r ih=>
       intro i f t hn
       rw [KA] at hn ⊢
       split
       ·rename_i hh;rw [Zg hh] at hn;omega
       ·rename_i hh;rw [Z9 hh] at hn;exact ih _ _ _ hn
     exact hL.trans (key _ _ _ _ har)
   ·exact sf (hF (Z9 fun q=>hq q.2.2)) (by rw [hL,Zg (.inr (.inr fun q=>hq ((ht _).1 q)))];rfl)
 rw [Z9 om] at hL
 by_cases h11:s.op=11
 ·rw [Zg h11] at hL
  have hn0:=hnumf om
  have hF:∀{X:Option Int},Ea n s.num ts=X->XS n s.op s.num ts=X:=fun q=>by
   unfold XS;rw [Z9 h0,Z9 h1,Z9 h5,Zg h11];exact q
  rcases he:s.args with _|⟨a,_|⟨b,_|⟨c,r⟩⟩⟩
  ·rw [he] at hts hL;rw [Ws] at hts;cases hts;exact sf (hF rfl) hL
  ·rw [he] at hl hL
   exact sf (hF (FH (by simp at hl;omega))) hL
  ·rw [he] at hts hL
   rw [Ws] at hts
   cases ha:XB us a with
   | none=>rw [ha] at hts;cases hts
   | some t=>
    rw [ha,Ws] at hts
    cases hb:XB us b with
    | none=>rw [hb] at hts;cases hts
    | some t2=>
     rw [hb,Ws] at hts;cases hts
     rw [K6,ha] at hL
     simp only at hL
     by_cases hA:W8 n.decls t=true
     ·rw [Zg hA] at hL
      have hA2:=hA
      simp only [W8,Xi,decide_eq_true_eq] at hA2
      cases hd:n.decls[(t-1).toNat]? with
      | none=>rw [hd] at hA2;simp at hA2
      | some d=>
       rw [hd] at hL
       simp only at hL
       have hD:VQ n.decls t=d:=by rw [VQ,Zg hA,hd];rfl
       have h2:=N1 (us:=us) (args:=[b]) (ts:=[t2]) (by rw [Ws,hb,Ws]) [d.frm]
       by_cases hq:t2=d.frm
       ·exact sf (hF (Zg ⟨hA,by rw [hD];exact hq,hn0⟩)) (by rw [hL,Zg (h2.2 (by rw [hq])),hD];rfl)
       ·exact sf (hF (Z9 fun q=>hq (by rw [hD] at q;exact q.2.1))) (by rw [hL,Z9 (fun q=>hq (by simpa using h2.1 q))];rfl)
     ·exact sf (hF (Z9 fun q=>hA q.1)) (by rw [hL,Z9 hA];rfl)
  ·rw [he] at hl hL
   exact sf (hF (FH (by simp at hl;omega))) hL
 rw [Z9 h11,Z9 om] at hL
 exact sf (X:=none) (by unfold XS;rw [Z9 h0,Z9 h1,Z9 h5,Z9 h11,Z9 h6,Z9 h9,Z9 h10]) hL
end Go.Abs
namespace Go.Abs
theorem Sh:∀(n:Nat) (f:Int) (k:Nat) (x:Int),(VH f n)[k]? = some x->x=f+k/\k<n
 | 0,f,k,x,h=>by simp [VH] at h
 | n+1,f,k,x,h=>by
  rw [VH] at h
  cases k with
  | zero=>simp at h;subst h;exact ⟨by omega,by omega⟩
  | succ k=>have:=Sh n (f+1) k x (by simpa using h);exact ⟨by omega,by omega⟩
theorem Z5l {ds:List Zf} (hd:Wt ds) {t:Int} {k:Nat} {x:Int} (h:(Y3 ds t)[k]? = some x):0<=x/\x<=100:=by
 rw [Y3] at h
 split at h
 ·rename_i ht
  obtain ⟨d,hd1⟩:=Vr (xs:=ds) (j:=(t-1).toNat) om
  rw [hd1] at h
  have:=Sh _ _ _ _ h
  have h3:=hd.cons_at hd1
  have h4:=(hd.take (t-1).toNat).sum
  simp only [C8,Option.getD_some] at this
  omega
 ·simp at h
end Go.Abs
namespace Go.Abs
section
variable {S:Option Int} {c:Prop} [Decidable c] {v:Int} {b:Bool}
theorem BP (h:S=if c then some v else none) (hb:b=true↔c):b=S.isSome:=by rw [h,Zd0,XA,hb,decide_eq_true_iff]
theorem BQ (h:S=if c then some v else none):∀x,S=some x->v=x:=by
 intro x hx;rw [h] at hx;split at hx
 ·exact Qs hx
 ·cases hx
theorem Fp (h:S=none):false=S.isSome:=by rw [h];rfl
theorem Fq (h:S=none):∀x,S=some x->v=x:=by intro x hx;rw [h] at hx;cases hx
end
section
variable {n:Zp} {op num:Int} {ts:LI}
theorem sf0 (h:op=0):XS n op num ts=if (-999<=num/\num<=999)/\ts.length=0 then some 0 else none:=by unfold XS;rw [Zg h]
theorem sf1 (h:op=1∨op=2∨op=3∨op=4):XS n op num ts=if num=0/\ts=[0,0] then some 0 else none:=by unfold XS;rw [Z9 om,Zg h]
theorem sf5 (h:op=5):XS n op num ts=if num=0/\ts=[0] then some 0 else none:=by unfold XS;rw [Z9 om,Z9 om,Zg h]
theorem Z15 (h:op=11):XS n op num ts=Ea n num ts:=by unfold XS;rw [Z9 om,Z9 om,Z9 om,Zg h]
theorem Zi1 (h:op=11) (hl:(ts.length:Int)≠2):XS n op num ts=none:=(Z15 h).trans (FH om)
theorem MC (h:op=11) {a b:Int} (hl:¬(ts.length:Int)≠2) (ha:ts[0]? = some a) (hb:ts[1]? = some b) :
  XS n op num ts=if W8 n.decls a=true/\b=(VQ n.decls a).frm/\num=0 then some (VQ n.decls a).to_ else none:=by
 rw [Z15 h]
 match ts,hl,ha,hb with
 | [x,y],_,ha,hb=>simp at ha hb;subst ha;subst hb;rfl
 | [],hl,_,_=>simp at hl
 | [_],hl,_,_=>simp at hl
 | _::_::_::_,hl,_,_=>simp at hl;omega
theorem Zi0 (h:op=11) {a:Int} (hl:¬(ts.length:Int)≠2) (ha:ts[0]? = some a) (hn:¬W8 n.decls a=true):XS n op num ts=none:=by
 obtain ⟨b,hb⟩:=Vr (xs:=ts) (j:=1) om
 rw [MC h hl ha hb,Z9 fun q=>hn q.1]
theorem sf6 (h:op=6):XS n op num ts=if 0<=Wn n.decls num/\ts=Y2 n.decls num then some (Wn n.decls num) else none:=by
 unfold XS;rw [Z9 om,Z9 om,Z9 om,Z9 om,Zg h]
theorem Zi2 (h:op=9∨op=10) (hr:num<0∨num>=(((n.routines.map W9).length:Nat):Int)):XS n op num ts=none:=by
 have ha:XB n.routines num=none:=QO (by simp at hr;omega)
 unfold XS
 rw [Z9 om,Z9 om,Z9 om,Z9 om,Z9 om]
 rcases h with h|h
 ·rw [Zg h,ha]
 ·rw [Z9 om,Zg h,ha]
theorem sf9 (h:op=9) {x:Vh} (hr:¬(num<0∨num>=(((n.routines.map W9).length:Nat):Int))) (hx:(n.routines.map W9)[num.toNat]? = some x) :
  XS n op num ts=if ts=x.pms then some x.res else none:=by
 obtain ⟨r,h1,rfl⟩:=HG hx
 have ha:XB n.routines num=some r:=Q8 (by simp at hr;omega) h1
 unfold XS
 rw [Z9 om,Z9 om,Z9 om,Z9 om,Z9 om,Zg h,ha];rfl
theorem Zhz (h:op=10) {x:Vh} (hr:¬(num<0∨num>=(((n.routines.map W9).length:Nat):Int))) (hx:(n.routines.map W9)[num.toNat]? = some x) (hp:(x.pms.length:Int)-1<0) :
  XS n op num ts=none:=by
 obtain ⟨r,h1,rfl⟩:=HG hx
 have ha:XB n.routines num=some r:=Q8 (by simp at hr;omega) h1
 have hp':r.params.length=0:=by simp only [W9] at hp;omega
 unfold XS
 rw [Z9 om,Z9 om,Z9 om,Z9 om,Z9 om,Z9 om,Zg h,ha]
 exact Z9 fun q=>q.1 hp'
theorem Zhy (h:op=10) {x:Vh} {l:Int} (hr:¬(num<0∨num>=(((n.routines.map W9).length:Nat):Int))) (hx:(n.routines.map W9)[num.toNat]? = some x) (hp:¬(x.pms.length:Int)-1<0)
  (hl:x.pms[((x.pms.length:Int)-1).toNat]? = some l) :
  XS n op num ts=if 0<=Uz n.decls l x.res/\ts=x.pms.take ((x.pms.length:Int)-1).toNat then some (Uz n.decls l x.res) else none:=by
 obtain ⟨r,h1,rfl⟩:=HG hx
 have ha:XB n.routines num=some r:=Q8 (by simp at hr;omega) h1
 simp only [W9] at hp hl ⊢
 have hq:((r.params.length:Int)-1).toNat=r.params.length-1:=by omega
 have ht:r.params.take ((r.params.length:Int)-1).toNat=r.params.take (r.params.length-1):=Yr (fun k=>r.params.take k) hq
 have hl':r.params[r.params.length-1]? = some l:=by rw [<-hl];exact Yr (fun k=>r.params[k]?) hq.symm
 have hlast:J4 n.decls r.params r.result=Uz n.decls l r.result:=by rw [J4,PD hl']
 unfold XS
 rw [Z9 om,Z9 om,Z9 om,Z9 om,Z9 om,Z9 om,Zg h,ha]
 simp only [hlast]
 by_cases hc:0<=Uz n.decls l r.result/\ts=r.params.take (r.params.length-1)
 ·rw [Zg ⟨by omega,hc⟩]
  exact (Zg ⟨hc.1,hc.2.trans ht.symm⟩).symm
 ·rw [Z9 fun q=>hc q.2]
  exact (Z9 (fun q=>hc ⟨q.1,q.2.trans ht⟩)).symm
theorem sfd (h0:¬op=0) (h1:¬(op=1∨op=2∨op=3∨op=4)) (h5:¬op=5) (h11:¬op=11) (h6:¬op=6) (h9:¬(op=9∨op=10)):XS n op num ts=none:=by
 unfold XS;rw [Z9 h0,Z9 h1,Z9 h5,Z9 h11,Z9 h6,Z9 om,Z9 om]
end
end Go.Abs
end
namespace Go.Abs
mutual
def Z5.rng:Z5->Prop
 | .mk _ num _ _ kids=>(-9223372036854775808<=num/\num<=9223372036854775807)/\K7 kids
def Z4.rng:Z4->Prop
 | .mk steps _=>KS steps
def KS:List Z5->Prop
 | []=>True
 | s::r=>s.rng/\KS r
def K7:List Z4->Prop
 | []=>True
 | b::r=>b.rng/\K7 r
end
theorem Z5.rng_eq (s:Z5):s.rng=((-9223372036854775808<=s.num/\s.num<=9223372036854775807)/\K7 s.kids):=by cases s;rw [Z5.rng];rfl
theorem Z4.rng_eq (b:Z4):b.rng=KS b.steps:=by cases b;rw [Z4.rng];rfl
theorem Z1v:∀{xs:List Z5} {k:Nat} {s:Z5},KS xs->xs[k]? = some s->s.rng
 | [],k,s,_,h=>by simp at h
 | x::r,0,s,hr,h=>by rw [KS] at hr;simp at h;subst h;exact hr.1
 | x::r,k+1,s,hr,h=>by rw [KS] at hr;exact Z1v (k:=k) hr.2 (by simpa using h)
theorem NQ:∀{xs:List Z4} {k:Nat} {b:Z4},K7 xs->xs[k]? = some b->b.rng
 | [],k,s,_,h=>by simp at h
 | x::r,0,s,hr,h=>by rw [K7] at hr;simp at h;subst h;exact hr.1
 | x::r,k+1,s,hr,h=>by rw [K7] at hr;exact NQ (k:=k) hr.2 (by simpa using h)
theorem N2 {us:LI}:∀{args:LI},Ws us args=none->∀tys,Wb us args tys=false
 | [],h,tys=>by rw [Ws] at h;cases h
 | a::r,h,tys=>by
  cases tys with
  | nil=>simp [Wb,TQ]
  | cons t ts=>
   rw [Ws] at h
   rw [Wb,TQ]
   cases ha:XB us a with
   | none=>simp
   | some u=>
    rw [ha] at h
    cases hr:Ws us r with
    | none=>
     have:=N2 hr ts
     rw [Wb] at this
     by_cases he:u=t
     ·subst he;simpa using this
     ·rw [Z9 (fun q=>he (Qs q))]
    | some tr=>rw [hr] at h;cases h
theorem Zkg {n:Zp} {us:LI} {s:Z5} (h:Ws us s.args=none):Ym n us s=-1:=by
 have ht:=N2 h
 rw [Ba]
 split
 ·rfl
 split
 ·rw [Z9];rintro ⟨q,_⟩
  have:s.args=[]:=List.length_eq_zero_iff.1 q
  rw [this,Ws] at h;cases h
 split
 ·rw [Z9 (by rw [ht];simp)]
 split
 ·rw [Z9 (by rw [ht];simp)]
 split
 ·rw [Z9 (by rw [ht];simp)]
 split
 ·rw [Z9 (by rw [ht];simp)]
 split
 ·rw [Z9 (by rw [ht];simp)]
 split
 ·rw [VO]
  cases XB n.routines s.num with
  | none=>rfl
  | some r=>
   simp only
   rw [TM]
   split
   ·rw [Z9 (by rw [ht];simp)]
   ·rw [Zg (.inr (.inr (by rw [ht];simp)))]
 split
 ·match hA:s.args with
  | []=>rfl
  | [_]=>rfl
  | [a,b]=>
   rw [K6]
   rw [hA,Ws] at h
   cases ha:XB us a with
   | none=>rfl
   | some t=>
    rw [ha] at h
    simp only at h ⊢
    split
    ·cases n.decls[(t-1).toNat]? with
     | none=>rfl
     | some d=>
      simp only
      rw [Z9]
      cases hb:Ws us [b] with
      | none=>rw [N2 hb];simp
      | some tr=>rw [hb] at h;cases h
    ·rfl
  | _::_::_::_=>rfl
 split
 ·match hA:s.args with
  | []=>rfl
  | [a]=>
   rw [QP]
   rw [hA,Ws] at h
   cases ha:XB us a with
   | none=>rfl
   | some t=>rw [ha,Ws] at h;cases h
  | _::_::_=>rfl
 ·rfl
theorem Nu {us:LI} {a:Int}:∀{xs:LI} {k:Nat},xs[k]? = some a->XB us a=none->Ws us xs=none
 | [],k,h,_=>by simp at h
 | x::r,0,h,ha=>by simp at h;subst h;rw [Ws,ha]
 | x::r,k+1,h,ha=>by
  have:=Nu (xs:=r) (k:=k) (by simpa using h) ha
  rw [Ws]
  cases XB us x with
  | none=>rfl
  | some t=>simp only [this]
theorem Zdh {n:Zp} {us:LI} {ks:List Z4} {ms:List LI} (h:0<ks.length) (t:Int) :
  XR n us (ks.drop 0) (ms.drop 0) (decide (0=0)) t=XR n us ks ms true 0:=by
 cases ks with
 | nil=>simp at h
 | cons b bs=>
  cases ms with
  | nil=>rw [JK,JK,XR,XR]
  | cons m r=>
   simp only [JK,decide_true]
   rw [XR,XR];simp
theorem NS {b:Z4}:∀{ks:List Z4} {k:Nat},ks[k]? = some b->b.sz<=Xf ks
 | [],k,h=>by simp at h
 | x::r,0,h=>by simp at h;subst h;rw [Xf];omega
 | x::r,k+1,h=>by have:=NS (ks:=r) (k:=k) (by simpa using h);rw [Xf];omega
theorem Fy (us m:LI):[us,m].flatten=us++m:=by simp
theorem Pf {xs:LI} {i:Int} (h:i.toNat<xs.length):xs[i.toNat]? = some (gI xs i):=by rw [gI,Qq h];rfl
theorem Gt {xs:LI} (h:0<xs.length):xs[0]? = some (gI xs 0):=Pf (i:=0) h
def Ks (n:Zp) (num:Int):Vh:=((n.routines.map W9)[num.toNat]?).getD ⟨[],[],0⟩
theorem Zi3 {n:Zp} {i:Int} (h:i.toNat<(n.routines.map W9).length):(n.routines.map W9)[i.toNat]? = some (Ks n i):=by rw [Ks,Qq h];rfl
theorem S9 {us m:LI} (h1:∀t∈us,0<=t) (h2:∀t∈m,0<=t):∀t∈us++m,0<=t:=fun t h=>(Xv.1 h).elim (h1 t) (h2 t)
theorem Bq {us:LI} {args ts:LI} {k:Nat} (h:Ws us (args.take k)=some ts) (hk:args.length<=k):Ws us args=some ts:=by
 rw [WM hk] at h;exact h
theorem Z42 {us:LI} {args ts:LI} {k:Nat} {a t:Int} (h:Ws us (args.take k)=some ts) (ha:args[k]? = some a) (ht:XB us a=some t):Ws us (args.take (k+1))=some (ts++[t]):=by
 rw [WB ha];exact Nw h ht
theorem Sl {ts:LI} (h:(ts.length:Int)=1):ts=[gI ts 0]:=by
 match ts,h with
 | [a],_=>rfl
section
variable {n:Zp} {us ts:LI} {s:Z5}
theorem AZ {p1 p2 p3 p4 p5:Prop}:(p1/\(p2∨(p3∨(p4∨p5))))↔(p1/\(((p2∨p3)∨p4)∨p5)):=by simp only [or_assoc]
def FY (n:Zp) (s:Z5) (ts:LI):Int:=match ts with
  | [t]=>if t≠0/\s.num=0/\s.kids.length=0/\¬((s.op=16∨s.op=17)/\W8 n.decls t=true) then 0 else -1
  | _=>-1
theorem BW:Ji n us s ts =
 if Yw s.op=true then FY n s ts
 else if s.op=7 then (if ts=[0]/\s.num=0 then TI n us s.op s.num s.kids else -1)
 else if s.op=8 then (if ts=[s.num] then TI n us s.op s.num s.kids else -1)
 else if 0<s.kids.length∨(s.op=10/\0<(((XB n.routines s.num).map (·.lent)).getD []).length) then -1
 else (XS n s.op s.num ts).getD (-1):=by unfold Ji FY;rfl
theorem O4 (h:(ts.length:Int)=1):FY n s ts=if gI ts 0≠0/\s.num=0/\s.kids.length=0/\¬((s.op=16∨s.op=17)/\W8 n.decls (gI ts 0)=true) then 0 else -1:=by
 match ts,h with
 | [a],_=>rfl
theorem Z59 (h:(ts.length:Int)≠1):FY n s ts=-1:=by
 match ts,h with
 | [],_=>rfl
 | [a],h=>exact absurd rfl h
 | _::_::_,_=>rfl
theorem Zjw (hS:Ym n us s=Ji n us s ts) (hc:Yw s.op=true)
  (h:((((ts.length:Int)=1/\gI ts 0≠0)/\s.num=0)/\(s.kids.length:Int)=0)/\(s.op=16∨s.op=17)) :
  (!W8 n.decls (gI ts 0))=decide (0<=Ym n us s):=by
 obtain ⟨⟨⟨⟨h1,h2⟩,h3⟩,h4⟩,h5⟩:=h
 have h4':s.kids.length=0:=by omega
 rw [hS,BW,Zg hc,O4 h1]
 cases hA:W8 n.decls (gI ts 0)
 ·rw [Zg ⟨h2,h3,h4',by simp⟩];rfl
 ·rw [Z9 (fun q=>q.2.2.2 ⟨h5,rfl⟩)];rfl
theorem Zjx (hS:Ym n us s=Ji n us s ts) (hc:Yw s.op=true)
  (h:¬(((((ts.length:Int)=1/\gI ts 0≠0)/\s.num=0)/\(s.kids.length:Int)=0)/\(s.op=16∨s.op=17))) :
  ((((((ts.length:Int)==1)&&(gI ts 0 != 0))&&(s.num==0))&&((s.kids.length:Int)==0)))=decide (0<=Ym n us s):=by
 rw [hS,BW,Zg hc]
 by_cases h1:(ts.length:Int)=1
 ·rw [O4 h1]
  by_cases h2:(gI ts 0≠0/\s.num=0)/\(s.kids.length:Int)=0
  ·obtain ⟨⟨h2,h3⟩,h4⟩:=h2
   have h4':s.kids.length=0:=by omega
   rw [Zg ⟨h2,h3,h4',fun q=>h ⟨⟨⟨⟨h1,h2⟩,h3⟩,h4⟩,q.1⟩⟩,Zq.2 h1,Yc.2 h2,Zq.2 h3,Zq.2 h4];rfl
  ·rw [Z9 (fun q=>h2 ⟨⟨q.1,q.2.1⟩,by have:=q.2.2.1;omega⟩)]
   show _=false
   rw [UF];intro q
   obtain ⟨⟨⟨_,q1⟩,q2⟩,q3⟩:=(YA (YA (YA Zq Yc) Zq) Zq).1 q
   exact h2 ⟨⟨q1,q2⟩,q3⟩
 ·rw [Z59 h1]
  show _=false
  rw [UF];intro q
  obtain ⟨⟨⟨q1,_⟩,_⟩,_⟩:=(YA (YA (YA Zq Yc) Zq) Zq).1 q
  exact h1 q1
theorem Zjs (hS:Ym n us s=Ji n us s ts) (hc:¬Yw s.op=true) (h7:s.op=7)
  (h:(((ts.length:Int)≠1∨gI ts 0≠0)∨s.num≠0)∨(s.kids.length:Int)≠2):Ym n us s=-1:=by
 rw [hS,BW,Z9 hc,Zg h7]
 split
 ·rename_i q
  obtain ⟨q1,q2⟩:=q
  rw [q1] at h
  rw [TI,Zg]
  right
  rw [Xy,Zg h7]
  have:gI [0] 0=0:=rfl
  simp [this] at h
  show s.kids.length≠2
  omega
 ·rfl
theorem Zjt (hS:Ym n us s=Ji n us s ts) (hc:¬Yw s.op=true) (h7:s.op=7)
  (h:¬((((ts.length:Int)≠1∨gI ts 0≠0)∨s.num≠0)∨(s.kids.length:Int)≠2)):Ym n us s=XR n us s.kids (List.replicate 2 []) true 0:=by
 have h1:(ts.length:Int)=1:=WH.1 fun q=>h (.inl (.inl (.inl q)))
 have h2:gI ts 0=0:=WH.1 fun q=>h (.inl (.inl (.inr q)))
 have h3:s.num=0:=WH.1 fun q=>h (.inl (.inr q))
 have h4:(s.kids.length:Int)=2:=WH.1 fun q=>h (.inr q)
 rw [hS,BW,Z9 hc,Zg h7,Zg ⟨by rw [Sl h1,h2],h3⟩,TI,Z9]
 ·rw [Xy,Zg h7];rfl
 ·rw [Xy,Zg h7];simp;omega
theorem Zju (hS:Ym n us s=Ji n us s ts) (hc:¬Yw s.op=true) (h7:¬s.op=7) (h8:s.op=8)
  (h:(ts.length:Int)≠1∨(gI ts 0≠s.num∨(((((Y3 n.decls s.num).map (Y2 n.decls)).length:Nat):Int)=0∨(s.kids.length:Int)≠((((Y3 n.decls s.num).map (Y2 n.decls)).length:Nat):Int)))):Ym n us s=-1:=by
 rw [hS,BW,Z9 hc,Z9 h7,Zg h8]
 split
 ·rename_i q
  have hg:gI ts 0=s.num:=by rw [q];rfl
  have hl:(ts.length:Int)=1:=by rw [q];rfl
  rw [TI,Zg]
  rw [Xy,Z9 h7]
  omega
 ·rfl
theorem Zjv (hS:Ym n us s=Ji n us s ts) (hc:¬Yw s.op=true) (h7:¬s.op=7) (h8:s.op=8)
  (h:¬((ts.length:Int)≠1∨(gI ts 0≠s.num∨(((((Y3 n.decls s.num).map (Y2 n.decls)).length:Nat):Int)=0∨(s.kids.length:Int)≠((((Y3 n.decls s.num).map (Y2 n.decls)).length:Nat):Int))))) :
  Ym n us s=XR n us s.kids ((Y3 n.decls s.num).map (Y2 n.decls)) true 0:=by
 have h1:(ts.length:Int)=1:=WH.1 fun q=>h (.inl q)
 have h2:gI ts 0=s.num:=WH.1 fun q=>h (.inr (.inl q))
 rw [hS,BW,Z9 hc,Z9 h7,Zg h8,Zg (by rw [Sl h1,h2]),TI,Z9]
 ·rw [Xy,Z9 h7]
 ·rw [Xy,Z9 h7];omega
theorem Ze9 {n:Zp} {num:Int}:(((XB n.routines num).map (·.lent)).getD []).length=if 0<=num/\num<(((n.routines.map W9).length:Nat):Int) then (Ks n num).lnt.length else 0:=by
 split
 ·rename_i h
  rw [Uy] at h
  obtain ⟨r,hr⟩:=Vr (xs:=n.routines) (j:=num.toNat) om
  rw [Q8 om hr,Ks,Ux,hr];rfl
 ·rename_i h
  rw [Uy] at h
  rw [QO om];rfl
theorem Z1z:(0<s.kids.length∨(s.op=10/\0<(((XB n.routines s.num).map (·.lent)).getD []).length)) ↔
  ((s.kids.length:Int)>0∨(s.op=10/\(s.num>=0/\(s.num<(((n.routines.map W9).length:Nat):Int)/\((((Ks n s.num).lnt).length:Nat):Int)>0)))):=by
 rw [Ze9]
 by_cases hq:0<=s.num/\s.num<(((n.routines.map W9).length:Nat):Int)
 ·rw [Zg hq];omega
 ·rw [Z9 hq];omega
theorem stB (hS:Ym n us s=Ji n us s ts) (hc:¬Yw s.op=true) (h7:¬s.op=7) (h8:¬s.op=8)
  (h:((s.kids.length:Int)>0∨(s.op=10/\(s.num>=0/\(s.num<(((n.routines.map W9).length:Nat):Int)/\((((Ks n s.num).lnt).length:Nat):Int)>0))))):Ym n us s=-1:=by
 rw [hS,BW,Z9 hc,Z9 h7,Z9 h8,Zg (Z1z.2 h)]
theorem stS (hS:Ym n us s=Ji n us s ts) (hc:¬Yw s.op=true) (h7:¬s.op=7) (h8:¬s.op=8)
  (h:¬((s.kids.length:Int)>0∨(s.op=10/\(s.num>=0/\(s.num<(((n.routines.map W9).length:Nat):Int)/\((((Ks n s.num).lnt).length:Nat):Int)>0))))):Ym n us s=(XS n s.op s.num ts).getD (-1):=by
 rw [hS,BW,Z9 hc,Z9 h7,Z9 h8,Z9 (fun q=>h (Z1z.1 q))]
theorem Zjy (hty:CZ n) (h:Ym n us s=(XS n s.op s.num ts).getD (-1)):(XS n s.op s.num ts).isSome=decide (0<=Ym n us s):=by
 rw [h]
 cases hs:XS n s.op s.num ts with
 | none=>rfl
 | some x=>have:=Zi5 hty hs;simp [this]
theorem Zjz {t:Int} (h:Ym n us s=(XS n s.op s.num ts).getD (-1)) (hp:∀x,XS n s.op s.num ts=some x->t=x):¬Yw s.op=true->0<=Ym n us s->t=Ym n us s:=by
 intro _ h0
 rw [h] at h0 ⊢
 cases hs:XS n s.op s.num ts with
 | none=>rw [hs] at h0;exact absurd h0 (by decide)
 | some x=>exact hp x hs
end
theorem Zkd {n:Zp} {us:LI} {s:Z5} (h:0<=Ym n us s):(0<=s.op/\s.op<=11)∨(14<=s.op/\s.op<=17):=by
 rw [Ba] at h
 by_cases hq:(0<=s.op/\s.op<=11)∨(14<=s.op/\s.op<=17)
 ·exact hq
 ·exfalso
  split at h
  ·omega
  rw [Z9 om,Z9 om,Z9 om,Z9 om,Z9 om,Z9 om,Z9 om,Z9 om,Z9 om] at h
  omega
theorem IJ {n:Zp} {us:LI} {s:Z5} (h:0<=Ym n us s):Wc s.op=!Yw s.op:=by
 have:=Zkd h
 rw [Wc,Yw,XA];simp;omega
theorem Zki {n:Zp} {xs:List Z5} {vs:LI} {k:Nat} {s:Z5} {t:Int} {r:Option LI} (hs:xs[k]? = some s) (h:0<=Ym n vs s) (ht:¬Yw s.op=true->0<=Ym n vs s->t=Ym n vs s)
  (hr:WA n (xs.drop k) vs=r):WA n (xs.drop (k+1)) (if Yw s.op=true then vs else vs++[t])=r:=by
 rw [Y6 hs,WA,Z9 om] at hr
 rw [<-hr,IJ h]
 by_cases hc:Yw s.op=true
 ·rw [Zg hc,hc];rfl
 ·rw [Z9 hc,Zg (by simpa using hc),ht hc h]
theorem Zkj {n:Zp} {xs:List Z5} {vs:LI} {k:Nat} {s:Z5} {r:Option LI} (hs:xs[k]? = some s) (h:¬0<=Ym n vs s) (hr:WA n (xs.drop k) vs=r):r=none:=by
 rw [Y6 hs,WA,Zg om] at hr;exact hr.symm
theorem Zeq {c:Prop} [Decidable c] {vs:LI} {t:Int} (h:∀x∈vs,0<=x) (ht:¬c->0<=t):∀x∈(if c then vs else vs++[t]),0<=x:=by
 split
 ·exact h
 ·rename_i hc
  exact S9 h (fun x hx=>by rw [XZ.1 hx];exact ht hc)
theorem Ns {m:Nat} {xs:LI} (h:Wr m xs=true):∀x∈xs,0<=x/\x<=m:=by
 rw [Wr,JJ] at h
 exact fun x hx=>of_decide_eq_true (h x hx)
theorem Zer {n:Zp} (h:VW n=true):CZ n:=by
 simp only [VW,QK,Xi,decide_eq_true_eq] at h
 obtain ⟨h1,⟨h2,h3,h4,h5⟩,h6⟩:=h
 have hs:∀r∈n.routines,Wr n.decls.length r.params=true/\0<=r.result:=fun r hr=>by
  have:=Fs h4 (Vm r) (XD.2 ⟨r,hr,rfl⟩)
  simp only [Kt,Xi,decide_eq_true_eq] at this
  exact ⟨this.2.1,this.2.2.1⟩
 simp only [V1,Xi,decide_eq_true_eq] at h2
 obtain ⟨h2a,h2b⟩:=h2
 rw [IH] at h2b
 have key:∀(i:Nat) (d:Zf),n.decls[i]? = some d->UR n.decls d i=true:=fun i d hi=>by
  have:=h2b i (Xj.1 hi).1
  rwa [Vf,El hi] at this
 refine ⟨fun r hr=>(hs r hr).2,fun r hr p hp=>(Ns (hs r hr).1 p hp).1,fun d hd h0=>?_,fun c f hf=>?_⟩
 ·obtain ⟨i,hi⟩:=List.mem_iff_getElem?.1 hd
  have:=key i d hi
  rw [UR,Z9 om] at this
  split at this
  ·cases this
  ·simp only [Xi,decide_eq_true_eq] at this;omega
 ·by_cases hc:Wn n.decls c<1
  ·rw [(G0 hc).1] at hf;cases hf
  ·obtain ⟨k,d,x,q1,q2,q3,q4,q5⟩:=Iy hc
   rw [q5] at hf
   have:=key k d q1
   have hp:0<d.cons.length:=by have:=(Xj.1 q3).1;omega
   rw [UR,Zg hp] at this
   split at this
   ·have:=O8.1 this x (ZY q3)
    simp only [Js,Xi] at this
    exact (Ns this.2 f hf).1
   ·cases this
structure NTu (n:Zp):Prop where
 result:∀r∈n.routines,r.result<=(n.decls.length:Int)
 decl:∀d∈n.decls,d.cons.length=0->d.to_<=(n.decls.length:Int)
 fields:∀c,∀f∈Y2 n.decls c,f<=(n.decls.length:Int)
section
variable {n:Zp} (hu:NTu n)
include hu
end
end Go.Abs
section
namespace Go.Abs
structure Jo where
 mat:Int
 fst:Int
 fds:LI
 chg:Bool
def XK:LI->Int->LI
 | [],_=>[]
 | t::r,p=>if t≠0 then p::XK r (p+1) else XK r (p+1)
theorem Zai {xs:LI} {k:Nat} {t p:Int} {acc r:LI} (h:xs[k]? = some t) (ha:acc++XK (xs.drop k) (p+k)=r) :
  (if t≠0 then acc++[p+k] else acc)++XK (xs.drop (k+1)) (p+((k+1:Nat):Int))=r:=by
 rw [Y6 h,XK] at ha
 rw [show p+((k+1:Nat):Int)=p+k+1 by omega]
 split
 ·rename_i q;rw [Zg q] at ha;rw [Uj];exact ha
 ·rename_i q;rw [Z9 q] at ha;exact ha
theorem Zah {xs:LI} {k:Nat} {p:Int} {acc r:LI} (h:xs.length<=k) (ha:acc++XK (xs.drop k) (p+k)=r):acc=r:=by
 rw [Xg h,XK,Qp] at ha;exact ha
theorem GJ:∀{xs:LI} {p f:Int},f∈XK xs p->p<=f/\f<p+xs.length
 | [],_,_,h=>by simp [XK] at h
 | t::r,p,f,h=>by
  rw [XK] at h
  split at h
  ·rcases YM.1 h with rfl|h
   ·simp only [YR];omega
   ·have:=GJ h;simp only [YR];omega
  ·have:=GJ h;simp only [YR];omega
theorem EO:∀(xs:LI) (p:Int),(XK xs p).length<=xs.length
 | [],_=>by simp [XK]
 | t::r,p=>by
  have:=EO r (p+1)
  rw [XK];split<;>simp<;>omega
def Sk:List Jo->Int->Option Jo
 | [],_=>none
 | a::r,v=>match Sk r v with
  | some x=>some x
  | none=>if a.mat=v then some a else none
structure Zlv (ds:List Zf) (L:ZP) (as1:List Jo):Prop where
 rng:∀a∈as1,0<=a.mat/\a.mat<a.fst/\a.fst+a.fds.length<=L.vars.length
 par:∀a∈as1,∀v:Int,a.fst<=v->v<a.fst+a.fds.length->gI L.par v=a.mat
 non:∀v:Int,0<=v->v<L.vars.length->0<=gI L.par v->∃a∈as1,a.fst<=v/\v<a.fst+a.fds.length
 off:∀v:Int,0<=v->v<L.vars.length->match Sk as1 v with
  | none=>gI L.con v<0
  | some a=>0<=gI L.con v/\a.fst=gI L.fst v/\a.fds=Y2 ds (gI L.con v)
end Go.Abs
namespace Go.Abs
end Go.Abs
namespace Go.Abs
end Go.Abs
namespace Go.Abs
section
variable {n:Zp} {ln:LI} {L:ZP} {op v:Int} {am:List Jo} {a:Jo}
end
end Go.Abs
namespace Go.Abs
end Go.Abs
end
section
namespace Go.Abs
section
variable {n:Zp} {us:LI} {op num:Int}
end
end Go.Abs
namespace Go.Abs
end Go.Abs
namespace Go.Abs
end Go.Abs
end
section
namespace Go.Abs
section
variable {n:Zp} {ln:LI}
end
end Go.Abs
namespace Go.Abs
end Go.Abs
namespace Go.Abs
end Go.Abs
namespace Go.Abs
section
variable {n:Zp} {ln:LI} {L:ZP} {s:Z5}
end
end Go.Abs
namespace Go.Abs
end Go.Abs
namespace Go.Abs
end Go.Abs
namespace Go.Abs
end Go.Abs
end
namespace Go.Abs

end Go.Abs
section
namespace Go.Abs
end Go.Abs
namespace Go.Abs
end Go.Abs
namespace Go.Abs
end Go.Abs
end
section
namespace Go.Abs
end Go.Abs
namespace Go.Abs
end Go.Abs
namespace Go.Abs
end Go.Abs
namespace Go.Abs
end Go.Abs
end
namespace Go.Abs
def Zz (op v:Int):Z5:=.mk op 0 0 [v] []
def T8 (ds:List Zf) (num:Int) (k:Nat):LI:=((Y3 ds num).map (Y2 ds))[k]?.getD []
section
variable {ds:List Zf} {am:List Jo} {m:Nat}
end
theorem OY {ds:List Zf} {num:Int} {k:Nat} {m:LI} (h:((Y3 ds num).map (Y2 ds))[k]? = some m):T8 ds num k=m:=by rw [T8,h];rfl
theorem Z7u {ds:List Zf} (hd:Wt ds) (num:Int) (k:Nat):(T8 ds num k).length<=3:=by
 rw [T8,Ux]
 cases (Y3 ds num)[k]? with
 | none=>simp
 | some c=>exact Um hd c
theorem MQ {xs:List Z5} {k:Nat} {s:Z5} (h:xs[k]? = some s):YG (xs.take (k+1))=YG (xs.take k)+s.sz:=by
 induction xs generalizing k with
 | nil=>simp at h
 | cons t r ih=>
  cases k with
  | zero=>simp at h;subst h;simp [YG]
  | succ k=>rw [CY,CY,YG,YG,ih (by simpa using h)];omega
theorem KU (xs:List Z5) (k:Nat):YG (xs.take k)<=YG xs:=by
 induction xs generalizing k with
 | nil=>simp
 | cons t r ih=>
  cases k with
  | zero=>simp [YG]
  | succ k=>have:=ih k;rw [CY,YG,YG];omega
theorem Zhv {n:Zp} {us:LI} {s:Z5} (g:0<=Ym n us s) (h:Yw s.op=true):Kr n us s=us:=by rw [Kr,IJ g,h];rfl
theorem Zhu {n:Zp} {us:LI} {s:Z5} (g:0<=Ym n us s) (h:¬Yw s.op=true):(Kr n us s).length=us.length+1:=by
 rw [Kr,IJ g,UF.2 h];simp
theorem Zhw {n:Zp} {us:LI} {s:Z5} (g:0<=Ym n us s):(Kr n us s).length=if Yw s.op=true then us.length else us.length+1:=by
 split
 ·rw [Zhv g (by assumption)]
 ·exact Zhu g (by assumption)
theorem Zdi {n:Zp} {us:LI} {s:Z5} (g:0<=Ym n us s) (h:0<s.kids.length):s.op=7∨s.op=8:=by
 rw [Ba] at g
 split at g
 ·omega
 ·rename_i q
  exact C1 fun z=>q (.inr (.inr ⟨h,fun e=>z (.inl e),fun e=>z (.inr e)⟩))
theorem Ct (ys:List Vv):(Za (Vq ys)).length=ys.length*3:=by rw [UB _ (OG _)];simp
theorem P3 (ys:List Vu):(Za (Uo ys)).length=ys.length:=by rw [UB _ (OF _)];simp
theorem P2 (ys:List Zf):(Za (YH ys)).length=ys.length*3:=by rw [UB _ (KH _)];simp
theorem Z81 (ys:List Yl):(Za (XU ys)).length=ys.length:=by rw [UB _ (En _)];simp
theorem Z82 {ds:List Zf} {k:Nat} {d:Zf} (h:ds[k]? = some d):Za (YH (ds.drop k))=TJ d++Za (YH (ds.drop (k+1))):=by rw [Y6 h];rfl
theorem Z80 {ds:List Yl} {k:Nat} {d:Yl} (h:ds[k]? = some d):Za (XU (ds.drop k))=DD d++Za (XU (ds.drop (k+1))):=by rw [Y6 h];rfl
theorem Z0k {ys:List Vv} {ds:List Zf} {k:Nat} {d:Zf} (h:ds[k]? = some d):Za (Vq ys++YH (ds.drop k))=Za (Vq ys)++(TJ d++Za (YH (ds.drop (k+1)))):=by
 rw [VT,Z82 h]
theorem Zgw {ys:List Vu} {ds:List Yl} {k:Nat} {d:Yl} (h:ds[k]? = some d):Za (Uo ys++XU (ds.drop k))=Za (Uo ys)++(DD d++Za (XU (ds.drop (k+1)))):=by
 rw [VT,Z80 h]
theorem Z0j {ys:List Vv} {ds:List Zf} {k:Nat} (h:ys.length=k) (hk:k<=ds.length):(Za (Vq ys++YH (ds.drop k))).length=ds.length*3:=by
 rw [VT,YF,Ct,P2,Jn];omega
theorem Z0i {ys:List Vu} {ds:List Yl} {k:Nat} (h:ys.length=k) (hk:k<=ds.length):(Za (Uo ys++XU (ds.drop k))).length=ds.length*1:=by
 rw [VT,YF,P3,Z81,Jn];omega
theorem Zgy {ys:List Vv} {ds:List Zf} {k:Nat} {f t:Int} {zs:List Vu} {u:Value}:Za (Vq ys)++([.i f,.i t,F8 zs u]++Za (YH (ds.drop (k+1))))=Za (Vq (ys++[Vv.mk f t zs u])++YH (ds.drop (k+1))):=by
 rw [Z7a,VT,VT,Uj];rfl
theorem Zgv {ys:List Vu} {ds:List Yl} {k:Nat} {xs:LI} {u:Value}:Za (Uo ys)++([ZX xs u]++Za (XU (ds.drop (k+1))))=Za (Uo (ys++[Vu.mk xs u])++XU (ds.drop (k+1))):=by
 rw [Z79,VT,VT,Uj];rfl
theorem Zgx {ys:List Vv} {ds:List Zf} {k:Nat} (h:ds.length<=k):Za (Vq ys++YH (ds.drop k))=Za (Vq ys):=by rw [Xg h];simp [YH]
theorem Zgu {ys:List Vu} {ds:List Yl} {k:Nat} (h:ds.length<=k):Za (Uo ys++XU (ds.drop k))=Za (Uo ys):=by rw [Xg h];simp [XU]
theorem Zgz {A B:List AV} {x y z x':AV} {o:Nat} (hA:A.length=o):(A++([x,y,z]++B)).take (o+2)++[x']++(A++([x,y,z]++B)).drop (o+2+1)=A++([x,y,x']++B):=by
 have h:=DP (A:=A++[x,y]) (xs:=[z]) (ys:=[x']) (B:=B) (o:=o+2) (by simp [hA]) rfl
 simpa using h
theorem Zh0 {A B:List AV} {x y z:AV} {o:Nat} (hA:A.length=o):((A++([x,y,z]++B)).drop (o+2)).take 1=[z]:=by
 have h:=Mt (A:=A++[x,y]) (xs:=[z]) (B:=B) (o:=o+2) (by simp [hA])
 simpa using h
theorem Zh1 {A B:List AV} {x y z x':AV} {o:Nat} (hA:A.length=o):(A++([x,y,z]++B)).set (o+2) x'=A++([x,y,x']++B):=by
 subst hA
 rw [List.set_append_right _ _ om]
 simp
theorem Z3a {f t:Int} {zs:List Vu} {u:Value} {cs:List Yl} (h:zs.map Vu.er=cs):[Vv.mk f t zs u].map Vv.er=[Zf.mk f t cs]:=by
 rw [<-h];rfl
theorem TN:∀(xs ys:List Z5),YG (xs++ys)=YG xs+YG ys
 | [],ys=>by simp [YG]
 | x::r,ys=>by rw [K1,YG,YG,TN r ys];omega
theorem FZ (op v:Int):(Zz op v).sz=2:=by rw [Zz,Z5.sz];simp [Xf]
theorem MO (op:Int):∀l:LI,YG (l.map (Zz op))=2*l.length
 | []=>by simp [YG]
 | x::r=>by rw [Ve,YG,FZ,MO op r,YR];omega
section
variable {ds:List Zf} (hd:Wt ds)
include hd
end
section
variable {ds:List Zf} {cons first:LI}
end
section
variable {ds:List Zf} (hd:Wt ds)
include hd
end
def W3:List Z5->Nat
 | []=>0
 | s::r=>if s.op=14∨s.op=15 then W3 r+1 else 0
def Wy (op:Int):List Z5->LI
 | []=>[]
 | s::r=>if s.op=op then gI s.args 0::Wy op r else Wy op r
def Td:LI->Int->LI->LI->LI × LI
 | [],_,D,R=>(D,R)
 | f::r,q,D,R=>if f≠0/\q∈D then Td r (q+1) (D.erase q) R else if f≠0 then Td r (q+1) D (R++[q]) else Td r (q+1) D R
def B5 (xs:List Z5) (x:Int) (fs:LI) (q:Int):LI × LI:=Td fs q (Wy 14 (xs.take (W3 xs))) ((Wy 15 (xs.take (W3 xs))).erase x)
def JO (xs:List Z5) (x:Int) (fs:LI) (q:Int):List Z5:=
 if x∈Wy 15 (xs.take (W3 xs))/\fs.length≠0 then (B5 xs x fs q).1.map (Zz 14)++[Zz 16 x]++(B5 xs x fs q).2.map (Zz 15)++xs.drop (W3 xs) else xs
def Jq (b:Z4) (x:Int) (fs:LI) (q:Int):Z4:=.mk (JO b.steps x fs q) b.result
theorem Hz:∀xs:List Z5,W3 xs<=xs.length
 | []=>Xa _
 | s::r=>by have:=Hz r;rw [W3];split<;>simp<;>omega
theorem Z0t:∀{xs:List Z5} {s:Z5},s∈xs.take (W3 xs)->s.op=14∨s.op=15
 | [],s,h=>by simp [W3] at h
 | t::r,s,h=>by
  rw [W3] at h
  split at h
  ·rename_i q
   rw [CY] at h
   rcases YM.1 h with rfl|h
   ·exact q
   ·exact Z0t h
  ·simp at h
theorem Ik:∀xs:List Z5,(Wy 14 xs).length+(Wy 15 xs).length<=xs.length
 | []=>by simp [Wy]
 | s::r=>by
  have:=Ik r
  rw [Wy,Wy]
  by_cases h:s.op=14
  ·rw [Zg h,Z9 om];simp;omega
  ·rw [Z9 h];split<;>simp<;>omega
theorem Hr:∀(fs:LI) (q:Int) (D R:LI),(Td fs q D R).1.length+(Td fs q D R).2.length<=D.length+R.length+fs.length
 | [],q,D,R=>by simp [Td]
 | f::r,q,D,R=>by
  rw [Td,YR]
  split
  ·have:=Hr r (q+1) (D.erase q) R
   have h2:=List.length_erase_le (a:=q) (l:=D)
   omega
  ·split
   ·have:=Hr r (q+1) D (R++[q])
    simp only [YF,YR,Xx] at this
    omega
   ·have:=Hr r (q+1) D R
    omega
theorem Zff {xs:List Z5} {x:Int} {fs:LI} {q:Int} (h:x∈Wy 15 (xs.take (W3 xs))) (hf:fs.length<=3):(B5 xs x fs q).1.length+(B5 xs x fs q).2.length<=W3 xs+2:=by
 have h1:=Hr fs q (Wy 14 (xs.take (W3 xs))) ((Wy 15 (xs.take (W3 xs))).erase x)
 have h2:=Ik (xs.take (W3 xs))
 have h3:=List.length_pos_of_mem h
 rw [List.length_erase_of_mem h] at h1
 rw [W2] at h2
 have h4:=Hz xs
 unfold B5
 omega
theorem Zjr (xs:List Z5) (k:Nat):YG xs=YG (xs.take k)+YG (xs.drop k):=by rw [<-TN,Tz]
theorem Z1y:∀xs:List Z5,(∀s∈xs,2<=s.sz)->2*xs.length<=YG xs
 | [],_=>by simp
 | s::r,h=>by
  have h1:=Z1y r fun t ht=>h t (XC _ ht)
  have h2:=h s (Xl ..)
  rw [YG,YR];omega
theorem Z3u {xs:List Z5} {x:Int} {fs:LI} {q:Int} (hf:fs.length<=3) (h:∀s∈xs,s.op=14∨s.op=15->2<=s.sz):YG (JO xs x fs q)<=YG xs+6:=by
 rw [JO]
 split
 ·rename_i hc
  have h1:=Zff (q:=q) hc.1 hf
  have h2:=Z1y (xs.take (W3 xs)) fun s hs=>h s (QM hs) (Z0t hs)
  have h3:=Zjr xs (W3 xs)
  have h4:=Hz xs
  rw [W2] at h2
  rw [TN,TN,TN,MO,MO,YG,YG,FZ]
  omega
 ·omega
theorem Lu:∀(fs:LI) (q:Int),(XK fs q).Pairwise (·<·)
 | [],_=>by simp [XK]
 | f::r,q=>by
  rw [XK]
  split
  ·refine WI.2 ⟨fun a ha=>?_,Lu r (q+1)⟩
   have:=GJ ha
   omega
  ·exact Lu r (q+1)
def Cn (s:Z5):Prop:=s=Zz s.op (gI s.args 0)
theorem Z3t {xs:List Z5} {m:Int} {fs:LI} {q:Int} (h:¬(m∈Wy 15 (xs.take (W3 xs))/\fs.length≠0)):JO xs m fs q=xs:=Z9 h
end Go.Abs
section
namespace Go.Abs
mutual
def B9 (ds:List Zf) (m:Nat):Z5->Z5
 | .mk op num into args kids=>.mk op num into args (Tv ds m op num args kids 0)
def Tv (ds:List Zf) (m:Nat) (op num:Int) (args:LI):List Z4->Nat->List Z4
 | [],_=>[]
 | b::r,k=>(if op=8 then Jq (Vd ds (m+(T8 ds num k).length) b) (gI args 0) (T8 ds num k) m else Vd ds m b)::Tv ds m op num args r (k+1)
def UL (ds:List Zf) (m:Nat):List Z5->List Z5
 | []=>[]
 | s::r=>B9 ds m s::UL ds (if Yw s.op=true then m else m+1) r
def Vd (ds:List Zf) (m:Nat):Z4->Z4
 | .mk steps result=>.mk (UL ds m steps) result
end
def HK (ds:List Zf) (m:Nat) (op num:Int) (args:LI) (k:Nat) (b:Z4):Z4:=if op=8 then Jq (Vd ds (m+(T8 ds num k).length) b) (gI args 0) (T8 ds num k) m else Vd ds m b
theorem MH (ds:List Zf) (m:Nat) (s:Z5):B9 ds m s=.mk s.op s.num s.into s.args (Tv ds m s.op s.num s.args s.kids 0):=by cases s;rw [B9];rfl
theorem HI (ds:List Zf) (m:Nat) (b:Z4):Vd ds m b=.mk (UL ds m b.steps) b.result:=by cases b;rw [Vd];rfl
section
variable {ds:List Zf} {m:Nat}
theorem Zic {xs acc r:List Z5} {k:Nat} {s:Z5} (h:xs[k]? = some s) (ha:acc++UL ds m (xs.drop k)=r) :
  (acc++[.mk s.op s.num s.into s.args (Tv ds m s.op s.num s.args s.kids 0)])++UL ds (if Yw s.op=true then m else m+1) (xs.drop (k+1))=r:=by
 rw [Y6 h,UL,MH] at ha
 rw [<-ha];simp
theorem Zib {xs acc r:List Z5} {k:Nat} (h:xs.length<=k) (ha:acc++UL ds m (xs.drop k)=r):acc=r:=by
 rw [Xg h,UL,Qp] at ha;exact ha
theorem Z1a {op num:Int} {args:LI} {bs acc r:List Z4} {k:Nat} {b:Z4} (h:bs[k]? = some b) (ha:acc++Tv ds m op num args (bs.drop k) k=r) :
  (acc++[HK ds m op num args k b])++Tv ds m op num args (bs.drop (k+1)) (k+1)=r:=by
 rw [Y6 h,Tv] at ha
 rw [<-ha,HK];simp
theorem Zi8 {op num:Int} {args:LI} {bs acc r:List Z4} {k j:Nat} (h:bs.length<=k) (ha:acc++Tv ds m op num args (bs.drop k) j=r):acc=r:=by
 rw [Xg h,Tv,Qp] at ha;exact ha
end
mutual
def wS (ds:List Zf):Z5->Prop
 | .mk op num into args kids=>(Wc op=!Yw op)/\(Yw op=true->num=0/\into=0/\kids=[]/\∃a,args=[a])/\(op=8->(∃a,args=[a]/\0<=a/\a<=900000000)/\kids.length=(Y3 ds num).length)/\Bc ds kids
def Bc (ds:List Zf):List Z4->Prop
 | []=>True
 | b::r=>wB ds b/\Bc ds r
def Kw (ds:List Zf):List Z5->Prop
 | []=>True
 | s::r=>wS ds s/\Kw ds r
def wB (ds:List Zf):Z4->Prop
 | .mk steps _=>Kw ds steps
end
section
variable {ds:List Zf}
theorem JI (s:Z5):wS ds s↔(Wc s.op=!Yw s.op)/\(Yw s.op=true->s.num=0/\s.into=0/\s.kids=[]/\∃a,s.args=[a])/\(s.op=8->(∃a,s.args=[a]/\0<=a/\a<=900000000)/\s.kids.length=(Y3 ds s.num).length)/\Bc ds s.kids:=by cases s;rw [wS];rfl
theorem Jm (b:Z4):wB ds b↔Kw ds b.steps:=by cases b;rw [wB];rfl
theorem Bd:∀{xs:List Z5},Kw ds xs↔∀s∈xs,wS ds s
 | []=>by simp [Kw]
 | s::r=>by rw [Kw,Bd];simp
theorem HV:∀{xs:List Z4},Bc ds xs↔∀s∈xs,wB ds s
 | []=>by simp [Bc]
 | s::r=>by rw [Bc,HV];simp
theorem Z2y {b:Z4} {k:Nat} {s:Z5} (h:wB ds b) (hs:b.steps[k]? = some s):wS ds s:=Bd.1 ((Jm b).1 h) s (ZY hs)
theorem N8 {s:Z5} {k:Nat} {b:Z4} (h:wS ds s) (hb:s.kids[k]? = some b):wB ds b:=HV.1 ((JI s).1 h).2.2.2 b (ZY hb)
theorem HW {s:Z5} (h:wS ds s) (hc:Yw s.op=true):Cn s/\s.kids=[]/\∃a,s.args=[a]:=by
 obtain ⟨h1,h2,h3,a,h4⟩:=((JI s).1 h).2.1 hc
 refine ⟨?_,h3,a,h4⟩
 cases s with
 | mk op num into args kids=>
  simp only [Z5.num,Z5.into,Z5.kids,Z5.args] at h1 h2 h3 h4
  subst h1 h2 h3 h4
  rfl
theorem Zlm {op v:Int} (h:op=14∨op=15∨op=16):wS ds (Zz op v):=(JI _).2 ⟨by show Wc op=!Yw op;rcases h with rfl|rfl|rfl<;>rfl,fun _=>⟨rfl,rfl,rfl,v,rfl⟩,fun e=>absurd e (show op≠8 by omega),True.intro⟩
theorem Zln {s:Z5} (h:wS ds s):Wc s.op=!Yw s.op:=((JI s).1 h).1
theorem FC {s:Z5} (h:wS ds s) (h8:s.op=8):(∃a,s.args=[a]/\0<=a/\a<=900000000)/\s.kids.length=(Y3 ds s.num).length:=((JI s).1 h).2.2.1 h8
theorem I5 {xs:List Z5} (h:Kw ds xs):∀s∈xs,Yw s.op=true->Cn s:=fun s hs hc=>(HW (Bd.1 h s hs) hc).1
end
section
variable {n:Zp}
end
mutual
def Z5.pz:Z5->Nat
 | .mk _ _ _ args kids=>1+args.length+DN kids
def Z4.pz:Z4->Nat
 | .mk steps _=>1+DO steps
def DO:List Z5->Nat
 | []=>0
 | s::r=>s.pz+DO r
def DN:List Z4->Nat
 | []=>0
 | b::r=>b.pz+8+DN r
end
mutual
theorem Z5.pz_le:∀s:Z5,s.pz<=9*s.sz
 | .mk _ _ _ args kids=>by have:=SX kids;rw [Z5.pz,Z5.sz];omega
theorem Z4.pz_le:∀b:Z4,b.pz+8<=9*b.sz
 | .mk steps _=>by have:=SY steps;rw [Z4.pz,Z4.sz];omega
theorem SY:∀xs:List Z5,DO xs<=9*YG xs
 | []=>TB _
 | s::r=>by have:=s.pz_le;have:=SY r;rw [DO,YG];omega
theorem SX:∀xs:List Z4,DN xs<=9*Xf xs
 | []=>TB _
 | s::r=>by have:=s.pz_le;have:=SX r;rw [DN,Xf];omega
end
section
variable {ds:List Zf}
theorem Z56 {op:Int} (h:op=14∨op=15):Yw op=true:=by rw [Yw];simp;omega
theorem Zid {xs:List Z5}:∀{m:Nat},Kw ds xs->∀s∈UL ds m xs,s.op=14∨s.op=15->2<=s.sz:=by
 induction xs with
 | nil=>intro m _ s hs;simp [UL] at hs
 | cons t r ih=>
  intro m h s hs ho
  rw [UL] at hs
  rcases YM.1 hs with rfl|hs
  ·rw [MH] at ho ⊢
   obtain ⟨_,_,a,ha⟩:=HW h.1 (Z56 ho)
   rw [Z5.sz,ha];simp
  ·exact ih h.2 s hs ho
variable (hd:Wt ds)
include hd
mutual
theorem Zi9:∀(s:Z5) {m:Nat},wS ds s->(B9 ds m s).sz<=s.pz
 | .mk op num into args kids,m,h=>by
  have:=Z1c kids (m:=m) (op:=op) (num:=num) (args:=args) (k:=0) h.2.2.2
  rw [B9,Z5.sz,Z5.pz];omega
theorem Z1c:∀(bs:List Z4) {m:Nat} {op num:Int} {args:LI} {k:Nat},Bc ds bs->Xf (Tv ds m op num args bs k)<=DN bs
 | [],_,_,_,_,_,_=>Xa _
 | b::r,m,op,num,args,k,h=>by
  have h2:=Z1c r (m:=m) (op:=op) (num:=num) (args:=args) (k:=k+1) h.2
  rw [Tv,Xf,DN]
  split
  ·have h1:=HJ b (m:=m+(T8 ds num k).length) h.1
   have h3:=Z3u (xs:=(Vd ds (m+(T8 ds num k).length) b).steps) (x:=gI args 0) (q:=(m:Int)) (Z7u hd num k) (by rw [HI];exact Zid ((Jm b).1 h.1))
   rw [Jq,Z4.sz]
   rw [Z4.sz_eq] at h1
   omega
  ·have h1:=HJ b (m:=m) h.1
   omega
theorem Z1d:∀(xs:List Z5) {m:Nat},Kw ds xs->YG (UL ds m xs)<=DO xs
 | [],_,_=>Xa _
 | s::r,m,h=>by
  have h1:=Zi9 s (m:=m) h.1
  have h2:=Z1d r (m:=if Yw s.op=true then m else m+1) h.2
  rw [UL,YG,DO];omega
theorem HJ:∀(b:Z4) {m:Nat},wB ds b->(Vd ds m b).sz<=b.pz
 | .mk steps result,m,h=>by
  have:=Z1d steps (m:=m) h
  rw [Vd,Z4.sz,Z4.pz];omega
end
end
section
variable {ds:List Zf} {m:Nat}
end
def BR (ds:List Zf) (r:ZH):ZH:=⟨r.params,r.lent,r.result,Vd ds r.params.length r.body⟩
def HL (n:Zp):Zp:=⟨n.decls,n.routines.map (BR n.decls)⟩
end Go.Abs
namespace Go.Abs
theorem Zhe {xs:List Z5} {k:Nat} {s:Z5} {r:Nat} (h:xs[k]? = some s) (hs:s.op=14∨s.op=15) (ha:k+W3 (xs.drop k)=r):k+1+W3 (xs.drop (k+1))=r:=by
 rw [Y6 h,W3,Zg hs] at ha;omega
theorem Zhf {xs:List Z5} {k:Nat} {s:Z5} {r:Nat} (h:xs[k]? = some s) (hs:¬(s.op=14∨s.op=15)) (ha:k+W3 (xs.drop k)=r):k=r:=by
 rw [Y6 h,W3,Z9 hs] at ha;omega
theorem Zhd {xs:List Z5} {k:Nat} {r:Nat} (h:xs.length<=k) (ha:k+W3 (xs.drop k)=r):k=r:=by
 rw [Xg h,W3] at ha;omega
theorem Z45 {op:Int} {xs:List Z5} {acc r:LI} {k:Nat} {s:Z5} (h:xs[k]? = some s) (hs:s.op=op) (ha:acc++Wy op (xs.drop k)=r):(acc++[gI s.args 0])++Wy op (xs.drop (k+1))=r:=by
 rw [Y6 h,Wy,Zg hs] at ha;rw [<-ha];simp
theorem Z44 {op:Int} {xs:List Z5} {acc r:LI} {k:Nat} {s:Z5} (h:xs[k]? = some s) (hs:¬s.op=op) (ha:acc++Wy op (xs.drop k)=r):acc++Wy op (xs.drop (k+1))=r:=by
 rw [Y6 h,Wy,Z9 hs] at ha;exact ha
theorem Z43 {op:Int} {xs:List Z5} {acc r:LI} {k:Nat} (h:xs.length<=k) (ha:acc++Wy op (xs.drop k)=r):acc=r:=by
 rw [Xg h,Wy,Qp] at ha;exact ha
theorem Z7o {xs acc r:LI} {y:Int} {k:Nat} {x:Int} {d:Bool} (h:xs[k]? = some x) (ha:acc++(if d=true then xs.drop k else (xs.drop k).erase y)=r) :
  (if x=y/\¬d=true then acc else acc++[x])++(if ((x==y&&!d)||d)=true then xs.drop (k+1) else (xs.drop (k+1)).erase y)=r:=by
 rw [Y6 h] at ha
 rw [<-ha]
 by_cases hd:d=true
 ·simp [hd]
 ·by_cases hx:x=y
  ·simp [hd,hx]
  ·rw [Z9 (fun z=>hx z.1),Z9 hd,List.erase_cons_tail (by simpa using hx)]
   simp [hd,hx]
theorem Z7n {xs acc r:LI} {y:Int} {k:Nat} {d:Bool} (h:xs.length<=k) (ha:acc++(if d=true then xs.drop k else (xs.drop k).erase y)=r):acc=r:=by
 rw [Xg h] at ha;simpa using ha
section
variable {fs D R:LI} {q k:Nat} {f:Int} {r:LI × LI}
theorem Zfh (h:fs[k]? = some f) (h0:f≠0) (hm:((q+k:Nat):Int)∈D) (ha:Td (fs.drop k) (q+k) D R=r):Td (fs.drop (k+1)) (q+((k+1:Nat):Int)) (D.erase ((q+k:Nat):Int)) R=r:=by
 rw [Y6 h,Td,Zg ⟨h0,by rw [<-Int.natCast_add];exact hm⟩,<-Int.natCast_add] at ha
 rw [<-ha];congr 1
theorem Zfi (h:fs[k]? = some f) (h0:f≠0) (hm:¬((q+k:Nat):Int)∈D) (ha:Td (fs.drop k) (q+k) D R=r):Td (fs.drop (k+1)) (q+((k+1:Nat):Int)) D (R++[((q+k:Nat):Int)])=r:=by
 rw [Y6 h,Td,Z9 (fun z=>hm (by rw [Int.natCast_add];exact z.2)),Zg h0,<-Int.natCast_add] at ha
 rw [<-ha];congr 1
theorem Zfj (h:fs[k]? = some f) (h0:¬f≠0) (ha:Td (fs.drop k) (q+k) D R=r):Td (fs.drop (k+1)) (q+((k+1:Nat):Int)) D R=r:=by
 rw [Y6 h,Td,Z9 (fun z=>h0 z.1),Z9 h0] at ha
 rw [<-ha];congr 1
theorem Zfg (h:fs.length<=k) (ha:Td (fs.drop k) (q+k) D R=r):r=(D,R):=by
 rw [Xg h,Td] at ha;exact ha.symm
end
theorem Z3v {xs:List Z5} {x:Int} {fs:LI} {q:Int} {D R:LI} (h1:x∈Wy 15 (xs.take (W3 xs))) (h2:fs.length≠0) (hr:B5 xs x fs q=(D,R)):D.map (Zz 14)++[Zz 16 x]++R.map (Zz 15)++xs.drop (W3 xs)=JO xs x fs q:=by
 rw [JO,Zg ⟨h1,h2⟩,hr]
theorem Zia {ds:List Zf} {xs:List Z5}:∀{m:Nat},Kw ds xs->∀s∈UL ds m xs,Yw s.op=true->∃a,s.args=[a]:=by
 induction xs with
 | nil=>intro m _ s hs;simp [UL] at hs
 | cons t r ih=>
  intro m h s hs ho
  rw [UL] at hs
  rcases YM.1 hs with rfl|hs
  ·rw [MH] at ho ⊢
   exact (HW h.1 ho).2.2
  ·exact ih h.2 s hs ho
end Go.Abs
end
namespace Go.Abs
theorem Ni {s:Z5} (h:Cn s):∃a,s.args=[a]:=⟨gI s.args 0,by have:=Yr Z5.args h;exact this⟩
section
variable {xs:LI} {v:Int} {lo hi:Nat}
theorem Z4i {m:Nat} {y:Int} (hs:xs.Pairwise (·<·)) (hy:xs[m]? = some y) (hv:y<v):∀(j:Nat) (x:Int),j<m+1->xs[j]? = some x->x<v:=by
 intro j x hj hx
 rcases Bi j m with h|h
 ·have hm:=(Xj.1 hy).1
  have:=List.pairwise_iff_getElem.1 hs j m om hm h
  rw [Qq om] at hx
  rw [Qq hm] at hy
  have e1:=Qs hx
  have e2:=Qs hy
  omega
 ·have:j=m:=by omega
  subst this;rw [hx] at hy;cases hy;exact hv
theorem Z4h {m:Nat} {y:Int} (hs:xs.Pairwise (·<·)) (hy:xs[m]? = some y) (hv:¬y<v):∀(j:Nat) (x:Int),m<=j->xs[j]? = some x->v<=x:=by
 intro j x hj hx
 rcases Bi m j with h|h
 ·have hm:=(Xj.1 hx).1
  have:=List.pairwise_iff_getElem.1 hs m j om hm h
  rw [Qq hm] at hx
  rw [Qq om] at hy
  have e1:=Qs hx
  have e2:=Qs hy
  omega
 ·have:j=m:=by omega
  subst this;rw [hx] at hy;cases hy;omega
theorem Z4j (hs:xs.Pairwise (·<·)) (h1:∀(j:Nat) (x:Int),j<lo->xs[j]? = some x->x<v) (h2:∀(j:Nat) (x:Int),lo<=j->xs[j]? = some x->v<=x) {y:Int} (hy:xs[lo]? = some y) (hn:y≠v):¬v∈xs:=by
 intro hv
 obtain ⟨j,hj⟩:=Ng hv
 rcases Bi j lo with h|h
 ·have:=h1 j v h hj;omega
 ·have hm:=h2 lo y (Xa _) hy
  rcases Bi lo j with h3|h3
  ·have hjl:=(Xj.1 hj).1
   have:=List.pairwise_iff_getElem.1 hs lo j om hjl h3
   rw [Qq hjl] at hj
   rw [Qq om] at hy
   have e1:=Qs hj
   have e2:=Qs hy
   omega
  ·have:j=lo:=by omega
   subst this;rw [hj] at hy;cases hy;exact hn rfl
theorem Z4k (h1:∀(j:Nat) (x:Int),j<lo->xs[j]? = some x->x<v) (hl:xs.length<=lo):¬v∈xs:=by
 intro hv
 obtain ⟨j,hj⟩:=Ng hv
 have:=h1 j v (by have:=(Xj.1 hj).1;omega) hj
 omega
end
section
variable {m:Int} {xs du dr:List Z5} {lf:LI} {d:Bool} {k:Nat} {s:Z5} {W:List Z5 × List Z5 × LI}
end
def X4:List Z5->Nat
 | []=>0
 | s::r=>if Yw s.op=true then X4 r+1 else 0
def Wi (op x:Int):List Z5->Int->Int
 | [],_=>-1
 | s::r,k=>if s.op=op/\gI s.args 0=x then k else Wi op x r (k+1)
def KE (many:Nat) (s:Z5):Prop:=(s.op=6/\s.into=0)/\s.args.length=many
instance (many:Nat) (s:Z5):Decidable (KE many s):=by unfold KE;infer_instance
def WF (many:Nat):List Z5->Int->Int
 | [],_=>-1
 | s::r,k=>if KE many s then k else WF many r (k+1)
def By (xs:List Z5) (i:Int):Z5:=xs[i.toNat]?.getD (Zz 0 0)
def QS (v:Int) (s:Z5):Z5:=.mk s.op s.num v s.args s.kids
def VA (xs:List Z5) (x:Int):Int:=Wi 16 x (xs.take (X4 xs)) 0
def WO (xs:List Z5) (many:Nat):Int:=WF many (xs.drop (X4 xs)) (X4 xs)
def Ut (xs:List Z5) (x:Int) (many:Nat):List Z5:=
 if VA xs x<0∨WO xs many<0 then xs else (xs.set (VA xs x).toNat (Zz 17 x)).set (WO xs many).toNat (QS (1+x) (By xs (WO xs many)))
def Ug (b:Z4) (x:Int) (many:Nat):Z4:=.mk (Ut b.steps x many) b.result
mutual
def QH (ds:List Zf) (kept:LI):Z5->Z5
 | .mk op num into args kids=>.mk op num into args (UK ds kept op num args kids 0)
def UK (ds:List Zf) (kept:LI) (op num:Int) (args:LI):List Z4->Nat->List Z4
 | [],_=>[]
 | b::r,k=>(if op=8/\¬gI args 0∈kept then Ug (WL ds (if VA b.steps (gI args 0)<0∨WO b.steps (T8 ds num k).length<0 then kept else gI args 0::kept) b) (gI args 0) (T8 ds num k).length else WL ds kept b)::UK ds kept op num args r (k+1)
def UW (ds:List Zf) (kept:LI):List Z5->List Z5
 | []=>[]
 | s::r=>QH ds kept s::UW ds kept r
def WL (ds:List Zf) (kept:LI):Z4->Z4
 | .mk steps result=>.mk (UW ds kept steps) result
end
def H3 (ds:List Zf) (kept:LI) (num:Int) (args:LI) (k:Nat) (b:Z4):LI:=if VA b.steps (gI args 0)<0∨WO b.steps (T8 ds num k).length<0 then kept else gI args 0::kept
def Qj (ds:List Zf) (kept:LI) (op num:Int) (args:LI) (k:Nat) (b:Z4):Z4:=if op=8/\¬gI args 0∈kept then Ug (WL ds (H3 ds kept num args k b) b) (gI args 0) (T8 ds num k).length else WL ds kept b
theorem BO (ds:List Zf) (kept:LI) (s:Z5):QH ds kept s=.mk s.op s.num s.into s.args (UK ds kept s.op s.num s.args s.kids 0):=by cases s;rw [QH];rfl
theorem Hw (ds:List Zf) (kept:LI) (b:Z4):WL ds kept b=.mk (UW ds kept b.steps) b.result:=by cases b;rw [WL];rfl
theorem Hy (ds:List Zf) (kept:LI):∀xs:List Z5,UW ds kept xs=xs.map (QH ds kept)
 | []=>rfl
 | s::r=>by rw [UW,Hy ds kept r];rfl
section
variable {ds:List Zf} {kept:LI}
theorem Zhc {xs acc r:List Z5} {k:Nat} {s:Z5} (h:xs[k]? = some s) (ha:acc++UW ds kept (xs.drop k)=r) :
  (acc++[.mk s.op s.num s.into s.args (UK ds kept s.op s.num s.args s.kids 0)])++UW ds kept (xs.drop (k+1))=r:=by
 rw [Y6 h,UW,BO] at ha
 rw [<-ha];simp
theorem Zhb {xs acc r:List Z5} {k:Nat} (h:xs.length<=k) (ha:acc++UW ds kept (xs.drop k)=r):acc=r:=by
 rw [Xg h,UW,Qp] at ha;exact ha
theorem Zh6 {op num:Int} {args:LI} {bs acc r:List Z4} {k:Nat} {b:Z4} (h:bs[k]? = some b) (ha:acc++UK ds kept op num args (bs.drop k) k=r) :
  (acc++[Qj ds kept op num args k b])++UK ds kept op num args (bs.drop (k+1)) (k+1)=r:=by
 rw [Y6 h,UK] at ha
 rw [<-ha,Qj,H3];simp
theorem Zh5 {op num:Int} {args:LI} {bs acc r:List Z4} {k j:Nat} (h:bs.length<=k) (ha:acc++UK ds kept op num args (bs.drop k) j=r):acc=r:=by
 rw [Xg h,UK,Qp] at ha;exact ha
end
section
variable {ds:List Zf}
mutual
theorem Zh9:∀(s:Z5) {K K':LI},(∀z,z∈K↔z∈K')->QH ds K s=QH ds K' s
 | .mk op num into args kids,K,K',h=>by rw [QH,QH,Z0p kids h]
theorem Z0p:∀(bs:List Z4) {K K':LI} {op num:Int} {args:LI} {k:Nat},(∀z,z∈K↔z∈K')->UK ds K op num args bs k=UK ds K' op num args bs k
 | [],_,_,_,_,_,_,_=>by rw [UK,UK]
 | b::r,K,K',op,num,args,k,h=>by
  have h1:=Z0p r (op:=op) (num:=num) (args:=args) (k:=k+1) h
  have h2:=Mu b h
  have h3:∀z,z∈(gI args 0::K)↔z∈(gI args 0::K'):=fun z=>by rw [YM,YM,h z]
  have h4:=Mu b h3
  rw [UK,UK,h1,h2]
  congr 1
  by_cases hq:op=8/\¬gI args 0∈K
  ·have hq':op=8/\¬gI args 0∈K':=⟨hq.1,fun z=>hq.2 ((h _).2 z)⟩
   rw [Zg hq,Zg hq']
   congr 1
   split
   ·exact h2
   ·exact h4
  ·have hq':¬(op=8/\¬gI args 0∈K'):=fun z=>hq ⟨z.1,fun y=>z.2 ((h _).1 y)⟩
   rw [Z9 hq,Z9 hq']
theorem Z0r:∀(xs:List Z5) {K K':LI},(∀z,z∈K↔z∈K')->UW ds K xs=UW ds K' xs
 | [],_,_,_=>by rw [UW,UW]
 | s::r,K,K',h=>by rw [UW,UW,Zh9 s h,Z0r r h]
theorem Mu:∀(b:Z4) {K K':LI},(∀z,z∈K↔z∈K')->WL ds K b=WL ds K' b
 | .mk steps result,K,K',h=>by rw [WL,WL,Z0r steps h]
end
end
theorem EY:∀xs:List Z5,X4 xs<=xs.length
 | []=>Xa _
 | s::r=>by have:=EY r;rw [X4];split<;>simp<;>omega
section
variable {f:Z5->Z5} (hop:∀s,(f s).op=s.op) (hin:∀s,(f s).into=s.into) (har:∀s,(f s).args=s.args)
include hop
theorem LT:∀xs:List Z5,X4 (xs.map f)=X4 xs
 | []=>rfl
 | s::r=>by rw [Ve,X4,X4,hop,LT r]
include har
theorem NA {op x:Int}:∀(xs:List Z5) (k:Int),Wi op x (xs.map f) k=Wi op x xs k
 | [],_=>rfl
 | s::r,k=>by rw [Ve,Wi,Wi,hop,har,NA r]
theorem Zfe (xs:List Z5) (x:Int):VA (xs.map f) x=VA xs x:=by rw [VA,LT hop,<-List.map_take,NA hop har,VA]
include hin
theorem O6 {many:Nat}:∀(xs:List Z5) (k:Int),WF many (xs.map f) k=WF many xs k
 | [],_=>rfl
 | s::r,k=>by
  have e:KE many (f s)↔KE many s:=by rw [KE,KE,hop,hin,har]
  rw [Ve,WF,WF,O6 r]
  by_cases h:KE many s
  ·rw [Zg h,Zg (e.2 h)]
  ·rw [Z9 h,Z9 (fun z=>h (e.1 z))]
theorem Z5a (xs:List Z5) (many:Nat):WO (xs.map f) many=WO xs many:=by rw [WO,LT hop,<-List.map_drop,O6 hop hin har,WO]
end
theorem Nz {op x:Int}:∀{xs:List Z5} {k:Int},¬Wi op x xs k<0->0<=k->k<=Wi op x xs k/\Wi op x xs k<k+xs.length/\∃s,xs[(Wi op x xs k-k).toNat]? = some s/\s.op=op/\gI s.args 0=x
 | [],k,h,_=>by simp [Wi] at h
 | s::r,k,h,hk=>by
  rw [Wi] at h ⊢
  split
  ·rename_i q
   refine ⟨Int.le_refl _,by rw [YR];omega,s,?_,q⟩
   rw [Int.sub_self];rfl
  ·rename_i q
   rw [Z9 q] at h
   obtain ⟨h1,h2,t,h3,h4⟩:=Nz (xs:=r) (k:=k+1) h om
   refine ⟨by omega,by rw [YR];omega,t,?_,h4⟩
   rw [show (Wi op x r (k+1)-k).toNat=(Wi op x r (k+1)-(k+1)).toNat+1 by omega,List.getElem?_cons_succ]
   exact h3
theorem O5 {many:Nat}:∀{xs:List Z5} {k:Int},¬WF many xs k<0->0<=k->k<=WF many xs k/\WF many xs k<k+xs.length/\∃s,xs[(WF many xs k-k).toNat]? = some s/\KE many s
 | [],k,h,_=>by simp [WF] at h
 | s::r,k,h,hk=>by
  rw [WF] at h ⊢
  split
  ·rename_i q
   refine ⟨Int.le_refl _,by rw [YR];omega,s,?_,q⟩
   rw [Int.sub_self];rfl
  ·rename_i q
   rw [Z9 q] at h
   obtain ⟨h1,h2,t,h3,h4⟩:=O5 (xs:=r) (k:=k+1) h om
   refine ⟨by omega,by rw [YR];omega,t,?_,h4⟩
   rw [show (WF many r (k+1)-k).toNat=(WF many r (k+1)-(k+1)).toNat+1 by omega,List.getElem?_cons_succ]
   exact h3
theorem Fb {xs:List Z5} {x:Int} (h:¬VA xs x<0):0<=VA xs x/\VA xs x<X4 xs/\∃s,xs[(VA xs x).toNat]? = some s/\s.op=16/\gI s.args 0=x:=by
 obtain ⟨h1,h2,s,h3,h4⟩:=Nz h (Int.le_refl 0)
 have hl:=EY xs
 rw [W2,Vn hl] at h2
 have h2':VA xs x<X4 xs:=by unfold VA;omega
 have h1':0<=VA xs x:=h1
 refine ⟨h1',h2',s,?_,h4⟩
 rw [Int.sub_zero] at h3
 have h5:(VA xs x).toNat<X4 xs:=by omega
 rwa [show Wi 16 x (xs.take (X4 xs)) 0=VA xs x from rfl,List.getElem?_take_of_lt h5] at h3
theorem AA {xs:List Z5} {many:Nat} (h:¬WO xs many<0):(X4 xs:Int)<=WO xs many/\WO xs many<xs.length/\∃s,xs[(WO xs many).toNat]? = some s/\KE many s/\By xs (WO xs many)=s:=by
 obtain ⟨h1,h2,s,h3,h4⟩:=O5 h om
 have hl:=EY xs
 rw [Jn] at h2
 have h1':(X4 xs:Int)<=WO xs many:=h1
 have h2':WO xs many<xs.length:=by unfold WO;omega
 rw [E3,show WF many (xs.drop (X4 xs)) (X4 xs)=WO xs many from rfl,show X4 xs+(WO xs many-(X4 xs:Int)).toNat=(WO xs many).toNat by omega] at h3
 exact ⟨h1',h2',s,h3,h4,by rw [By,h3];rfl⟩
theorem Zgh {f:Z5->Z5} (hop:∀s,(f s).op=s.op) (hin:∀s,(f s).into=s.into) (har:∀s,(f s).args=s.args) (hc:∀x,f (Zz 17 x)=Zz 17 x) (hi:∀v s,f (QS v s)=QS v (f s)) (xs:List Z5) (x:Int) (many:Nat) :
  Ut (xs.map f) x many=(Ut xs x many).map f:=by
 rw [Ut,Zfe hop har,Z5a hop hin har,Ut]
 split
 ·rfl
 ·rename_i hq
  obtain ⟨_,_,s,h3,_,h5⟩:=AA (fun z=>hq (.inr z))
  have e:By (xs.map f) (WO xs many)=f (By xs (WO xs many)):=by rw [By,Ux,h3,h5];rfl
  rw [e,List.map_set,List.map_set,hc,hi]
theorem Z0n {ds:List Zf} {K:LI} {b:Z4} {x:Int} {many:Nat}:WL ds K (Ug b x many)=Ug (WL ds K b) x many:=by
 rw [Ug,WL,Ug,Hw,Hy,Hy]
 show Z4.mk _ _=Z4.mk (Ut (b.steps.map (QH ds K)) x many) b.result
 rw [Zgh (f:=QH ds K) (fun s=>by rw [BO];rfl) (fun s=>by rw [BO];rfl) (fun s=>by rw [BO];rfl) (fun x=>by rw [BO];rfl) (fun v s=>by rw [BO,BO];rfl)]
structure CB (c:LI) (q:Int):Prop where
 len:c.length=4
 bd:∀x∈c,0<=x/\x<=q
mutual
def CK:Z5->Prop
 | .mk op _ _ _ kids=>op≠17/\BG kids
def BG:List Z4->Prop
 | []=>True
 | b::r=>Kl b/\BG r
def BH:List Z5->Prop
 | []=>True
 | s::r=>CK s/\BH r
def Kl:Z4->Prop
 | .mk steps _=>BH steps
end
theorem DH (s:Z5):CK s↔s.op≠17/\BG s.kids:=by cases s;rw [CK];rfl
theorem F6 (b:Z4):Kl b↔BH b.steps:=by cases b;rw [Kl];rfl
theorem F7:∀{xs:List Z5},BH xs↔∀s∈xs,CK s
 | []=>by simp [BH]
 | s::r=>by rw [BH,F7];simp
theorem Hl:∀{xs:List Z4},BG xs↔∀s∈xs,Kl s
 | []=>by simp [BG]
 | s::r=>by rw [BG,Hl];simp
theorem HO:∀{xs:List Z5} {i:Nat} {s:Z5} (t:Z5),xs[i]? = some s->YG (xs.set i t)+s.sz=YG xs+t.sz
 | [],_,_,_,h=>by simp at h
 | x::r,0,s,t,h=>by simp at h;subst h;rw [List.set_cons_zero,YG,YG];omega
 | x::r,i+1,s,t,h=>by
  have:=HO (xs:=r) (i:=i) t (by simpa using h)
  rw [List.set_cons_succ,YG,YG];omega
theorem Zcx (v:Int) (s:Z5):(QS v s).sz=s.sz:=by cases s;rw [QS,Z5.sz,Z5.sz];rfl
theorem O7 {xs:List Z5} {x:Int} {many:Nat} (h:¬(VA xs x<0∨WO xs many<0)):(VA xs x).toNat<(WO xs many).toNat:=by
 obtain ⟨h1,h2,_⟩:=Fb (fun z=>h (.inl z))
 obtain ⟨h3,h4,_⟩:=AA (fun z=>h (.inr z))
 omega
theorem Hu {xs:List Z5} {x:Int} {many:Nat} (h:¬(VA xs x<0∨WO xs many<0)) {t:Z5} {s:Z5} (hs:xs[(WO xs many).toNat]? = some s):(xs.set (VA xs x).toNat t)[(WO xs many).toNat]? = some s:=by
 have:=O7 h
 rw [List.getElem?_set_ne om];exact hs
theorem Z0c {xs:List Z5} {x:Int} {many:Nat} (h:∀s∈xs,Yw s.op=true->2<=s.sz):YG (Ut xs x many)<=YG xs:=by
 rw [Ut]
 split
 ·exact Xa _
 ·rename_i hq
  obtain ⟨_,_,s,h3,h4,_⟩:=Fb (fun z=>hq (.inl z))
  obtain ⟨_,_,t,h5,_,h6⟩:=AA (fun z=>hq (.inr z))
  have e1:=HO (Zz 17 x) h3
  have e2:=HO (QS (1+x) (By xs (WO xs many))) (Hu hq (t:=Zz 17 x) h5)
  have h7:=h s (ZY h3) (by rw [h4];rfl)
  rw [FZ] at e1
  rw [Zcx,h6] at e2
  rw [h6]
  omega
section
variable {ds:List Zf}
theorem Zlo {v:Int} {s:Z5} (h:wS ds s) (h6:s.op=6):wS ds (QS v s):=by
 obtain ⟨h1,h2,h3,h4⟩:=(JI s).1 h
 exact (JI _).2 ⟨h1,fun hc=>absurd hc (by show ¬Yw s.op=true;rw [h6];decide),h3,h4⟩
theorem Zll {v:Int}:wS ds (Zz 17 v):=(JI _).2 ⟨rfl,fun _=>⟨rfl,rfl,rfl,v,rfl⟩,fun e=>absurd e (show (17:Int)≠8 by decide),True.intro⟩
theorem Zlk {xs:List Z5} {x:Int} {many:Nat} (h:Kw ds xs):Kw ds (Ut xs x many):=by
 rw [Ut]
 split
 ·exact h
 ·rename_i hq
  obtain ⟨_,_,t,h5,h7,h6⟩:=AA (fun z=>hq (.inr z))
  rw [Bd]
  intro s hs
  rcases List.mem_or_eq_of_mem_set hs with hs|rfl
  ·rcases List.mem_or_eq_of_mem_set hs with hs|rfl
   ·exact Bd.1 h s hs
   ·exact Zll
  ·rw [h6];exact Zlo (Bd.1 h t (ZY h5)) h7.1.1
theorem Zlj {b:Z4} {x:Int} {many:Nat} (h:wB ds b):wB ds (Ug b x many):=by rw [Ug,Jm];exact Zlk ((Jm b).1 h)
variable (hd:Wt ds)
mutual
theorem Zha:∀(s:Z5) {K:LI},wS ds s->(QH ds K s).sz<=s.sz
 | .mk op num into args kids,K,h=>by
  have:=Z0q kids (K:=K) (op:=op) (num:=num) (args:=args) (k:=0) h.2.2.2
  rw [QH,Z5.sz,Z5.sz];omega
theorem Z0q:∀(bs:List Z4) {K:LI} {op num:Int} {args:LI} {k:Nat},Bc ds bs->Xf (UK ds K op num args bs k)<=Xf bs
 | [],_,_,_,_,_,_=>Xa _
 | b::r,K,op,num,args,k,h=>by
  have h2:=Z0q r (K:=K) (op:=op) (num:=num) (args:=args) (k:=k+1) h.2
  have key:∀K2:LI,(Ug (WL ds K2 b) (gI args 0) (T8 ds num k).length).sz<=b.sz:=fun K2=>by
   have h1:=Mv b (K:=K2) h.1
   have h3:=Z0c (xs:=(WL ds K2 b).steps) (x:=gI args 0) (many:=(T8 ds num k).length) (by
    rw [Hw,Hy]
    intro s hs hc
    obtain ⟨t,ht,rfl⟩:=XD.1 hs
    rw [BO] at hc ⊢
    obtain ⟨_,_,a,ha⟩:=HW (Bd.1 ((Jm b).1 h.1) t ht) hc
    rw [Z5.sz,ha];simp)
   rw [Ug,Z4.sz]
   rw [Z4.sz_eq] at h1
   omega
  rw [UK,Xf,Xf]
  split
  ·have:=key (if VA b.steps (gI args 0)<0∨WO b.steps (T8 ds num k).length<0 then K else gI args 0::K)
   omega
  ·have:=Mv b (K:=K) h.1
   omega
theorem Z0s:∀(xs:List Z5) {K:LI},Kw ds xs->YG (UW ds K xs)<=YG xs
 | [],_,_=>Xa _
 | s::r,K,h=>by
  have h1:=Zha s (K:=K) h.1
  have h2:=Z0s r (K:=K) h.2
  rw [UW,YG,YG];omega
theorem Mv:∀(b:Z4) {K:LI},wB ds b->(WL ds K b).sz<=b.sz
 | .mk steps result,K,h=>by
  have:=Z0s steps (K:=K) h
  rw [WL,Z4.sz,Z4.sz];omega
end
end
theorem LU:∀{xs:List Z5} {i:Nat} {s t:Z5},xs[i]? = some s->Yw t.op=Yw s.op->X4 (xs.set i t)=X4 xs
 | [],_,_,_,h,_=>by simp at h
 | x::r,0,s,t,h,e=>by simp at h;subst h;rw [List.set_cons_zero,X4,X4,e]
 | x::r,i+1,s,t,h,e=>by
  rw [List.set_cons_succ,X4,X4,LU (xs:=r) (i:=i) (by simpa using h) e]
theorem Zdw {xs:List Z5} {x:Int} {many:Nat}:X4 (Ut xs x many)=X4 xs:=by
 rw [Ut]
 split
 ·rfl
 ·rename_i hq
  obtain ⟨_,_,s,h3,h4,_⟩:=Fb (fun z=>hq (.inl z))
  obtain ⟨_,_,t,h5,_,h6⟩:=AA (fun z=>hq (.inr z))
  rw [LU (Hu hq (t:=Zz 17 x) h5) (by rw [h6];rfl),LU h3 (by rw [h4];rfl)]
theorem NC {op x:Int}:∀{xs:List Z5} {k:Int},(∀s∈xs,s.op≠op)->Wi op x xs k=-1
 | [],_,_=>rfl
 | s::r,k,h=>by
  rw [Wi,Z9 (fun z=>h s (Xl ..) z.1)]
  exact NC fun t ht=>h t (XC _ ht)
theorem ND {op x:Int}:∀{xs:List Z5} {k:Int},0<=k->(∃s∈xs,s.op=op/\gI s.args 0=x)->0<=Wi op x xs k
 | [],_,_,h=>by obtain ⟨s,hs,_⟩:=h;cases hs
 | s::r,k,hk,h=>by
  rw [Wi]
  split
  ·exact hk
  ·rename_i q
   obtain ⟨t,ht,h1⟩:=h
   rcases YM.1 ht with rfl|ht
   ·exact absurd h1 q
   ·exact ND om ⟨t,ht,h1⟩
theorem Z2f {xs:List Z5} {x:Int} {many:Nat} (hn:BH xs):0<=Wi 17 x ((Ut xs x many).take (X4 (Ut xs x many))) 0↔¬(VA xs x<0∨WO xs many<0):=by
 rw [Zdw]
 constructor
 ·intro h hq
  rw [Ut,Zg hq,NC (fun s hs=>((DH s).1 (F7.1 hn s (QM hs))).1)] at h
  omega
 ·intro hq
  obtain ⟨h1,h2,s,h3,h4,_⟩:=Fb (fun z=>hq (.inl z))
  have hap:=O7 hq
  refine ND (Int.le_refl 0) ⟨Zz 17 x,?_,rfl,rfl⟩
  rw [Ut,Z9 hq]
  refine ZY (i:=(VA xs x).toNat) ?_
  rw [List.getElem?_take_of_lt om,List.getElem?_set_ne om,List.getElem?_set_self (Xj.1 h3).1]
def BI (b:Z4):Prop:=∀s∈b.steps,BG s.kids
theorem CJ {b:Z4} (h:Kl b):BI b:=fun s hs=>((DH s).1 (F7.1 ((F6 b).1 h) s hs)).2
theorem Zev {b:Z4} {k j:Nat} {s:Z5} {c:Z4} (h:BI b) (hs:b.steps[k]? = some s) (hc:s.kids[j]? = some c):Kl c:=Hl.1 (h s (ZY hs)) c (ZY hc)
theorem Sf {b:Z4} {x:Int} {many:Nat} (h:Kl b):BI (Ug b x many):=by
 intro s hs
 have hs:s∈Ut b.steps x many:=hs
 rw [Ut] at hs
 split at hs
 ·exact CJ h s hs
 ·rename_i hq
  obtain ⟨_,_,t,h5,_,h6⟩:=AA (fun z=>hq (.inr z))
  rcases List.mem_or_eq_of_mem_set hs with hs|rfl
  ·rcases List.mem_or_eq_of_mem_set hs with hs|rfl
   ·exact CJ h s hs
   ·exact True.intro
  ·rw [h6];exact CJ h t (ZY h5)
theorem Zgg {ds:List Zf} {b:Z4} {x:Int} {many:Nat} (h:wB ds b):(Ug b x many).sz<=b.sz:=by
 have:=Z0c (xs:=b.steps) (x:=x) (many:=many) fun s hs hc=>by
  have h7:=I5 ((Jm b).1 h) s hs hc
  rw [h7,FZ];omega
 rw [Ug,Z4.sz,b.sz_eq];omega
def BN (ds:List Zf) (r:ZH):ZH:=⟨r.params,r.lent,r.result,WL ds [] r.body⟩
def Hx (n:Zp):Zp:=⟨n.decls,n.routines.map (BN n.decls)⟩
mutual
def DL:Z5->Bool
 | .mk op _ into _ kids=>(!Yw op&&into==0)&&UC kids
def VM:Z4->Bool
 | .mk steps _=>UI steps
def UI:List Z5->Bool
 | []=>true
 | s::r=>DL s&&UI r
def UC:List Z4->Bool
 | []=>true
 | b::r=>VM b&&UC r
end
theorem Hs (b:Z4):VM b=UI b.steps:=by cases b;rw [VM];rfl
theorem Me (s:Z5):DL s=((!Yw s.op&&s.into==0)&&UC s.kids):=by cases s;rw [DL];rfl
def VN:List ZH->Bool
 | []=>true
 | r::rs=>VM r.body&&VN rs
def Y0 (n:Zp):Bool:=WG n&&VN n.routines
theorem Zfo {xs:List Z5} {k:Nat} {s:Z5} {v w:Bool} (h:xs[k]? = some s) (ha:(v&&UI (xs.drop k))=w):((v&&DL s)&&UI (xs.drop (k+1)))=w:=by
 rw [Y6 h,UI] at ha;rw [Bool.and_assoc];exact ha
theorem Zfn {xs:List Z5} {k:Nat} {v w:Bool} (h:xs.length<=k) (ha:(v&&UI (xs.drop k))=w):v=w:=by
 rw [Xg h,UI,Bool.and_true] at ha;exact ha
theorem Zfq {xs:List Z4} {k:Nat} {s:Z4} {v w:Bool} (h:xs[k]? = some s) (ha:(v&&UC (xs.drop k))=w):((v&&VM s)&&UC (xs.drop (k+1)))=w:=by
 rw [Y6 h,UC] at ha;rw [Bool.and_assoc];exact ha
theorem Zfp {xs:List Z4} {k:Nat} {v w:Bool} (h:xs.length<=k) (ha:(v&&UC (xs.drop k))=w):v=w:=by
 rw [Xg h,UC,Bool.and_true] at ha;exact ha
theorem SP {xs:List ZH} {k:Nat} {s:ZH} (h:xs[k]? = some s):VN (xs.drop k)=(VM s.body&&VN (xs.drop (k+1))):=by rw [Y6 h,VN]
theorem SQ {xs:List ZH} {k:Nat} {s:ZH} {w:Bool} (h:xs[k]? = some s) (hs:VM s.body=true) (ha:VN (xs.drop k)=w):VN (xs.drop (k+1))=w:=by
 rw [SP h,hs,Bool.true_and] at ha;exact ha
theorem SO {xs:List ZH} {k:Nat} {w:Bool} (h:xs.length<=k) (ha:VN (xs.drop k)=w):true=w:=by
 rw [Xg h,VN] at ha;exact ha
theorem SN {xs:List ZH} {k:Nat} {s:ZH} {w:Bool} (h:xs[k]? = some s) (hs:¬VM s.body=true) (ha:VN (xs.drop k)=w):false=w:=by
 rw [SP h,UF.2 hs,Bool.false_and] at ha;exact ha
theorem Mf {xs:List Z5} {k:Nat} {s:Z5} (h:xs[k]? = some s):UI (xs.drop k)=(((!Yw s.op&&s.into==0)&&UC s.kids)&&UI (xs.drop (k+1))):=by rw [Y6 h,UI,Me]
theorem Zfu {xs:List Z5} {k:Nat} {s:Z5} {w:Bool} (h:xs[k]? = some s) (hs:Yw s.op=true∨s.into≠0) (ha:UI (xs.drop k)=w):false=w:=by
 rw [Mf h] at ha
 rw [<-ha]
 rcases hs with hs|hs
 ·rw [hs];rfl
 ·rw [show (s.into==0)=false by simpa using hs];simp
theorem Zfv {xs:List Z5} {k:Nat} {s:Z5} {w:Bool} (h:xs[k]? = some s) (hs:UC s.kids=false) (ha:UI (xs.drop k)=w):false=w:=by
 rw [Mf h,hs] at ha;simpa using ha
theorem Zfx {xs:List Z5} {k:Nat} {s:Z5} {w:Bool} (h:xs[k]? = some s) (h1:¬(Yw s.op=true∨s.into≠0)) (h2:UC s.kids=true) (ha:UI (xs.drop k)=w):UI (xs.drop (k+1))=w:=by
 rw [Mf h,h2,UF.2 (fun z=>h1 (.inl z)),show (s.into==0)=true by simpa using fun z=>h1 (.inr z)] at ha
 simpa using ha
theorem Zfw {xs:List Z5} {k:Nat} {w:Bool} (h:xs.length<=k) (ha:UI (xs.drop k)=w):true=w:=by
 rw [Xg h,UI] at ha;exact ha
theorem Zfr {xs:List Z4} {k:Nat} {s:Z4} {w:Bool} (h:xs[k]? = some s) (hs:¬VM s=true) (ha:UC (xs.drop k)=w):w=false:=by
 rw [Y6 h,UC,UF.2 hs] at ha;exact ha.symm
theorem Zft {xs:List Z4} {k:Nat} {s:Z4} {w:Bool} (h:xs[k]? = some s) (hs:VM s=true) (ha:UC (xs.drop k)=w):UC (xs.drop (k+1))=w:=by
 rw [Y6 h,UC,hs,Bool.true_and] at ha;exact ha
theorem Zfs {xs:List Z4} {k:Nat} {w:Bool} (h:xs.length<=k) (ha:UC (xs.drop k)=w):w=true:=by
 rw [Xg h,UC] at ha;exact ha.symm
theorem Z7m {xs ys:LI} (h:xs.length=ys.length) (ha:∀i,i<xs.length->xs[i]? = ys[i]?):xs=ys:=List.ext_getElem? fun i=>by
 by_cases hi:i<xs.length
 ·exact ha i hi
 ·rw [Qr om,Qr om]

mutual
def Z2.sz:Z2->Nat
 | .mk _ _ kids=>1+XH kids
def XH:List Z2->Nat
 | []=>0
 | e::r=>e.sz+XH r
end
theorem Z2.sz_eq (e:Z2):e.sz=1+XH e.kids:=by cases e;rw [Z2.sz];rfl
theorem Et:∀xs ys:List Z2,XH (xs++ys)=XH xs+XH ys
 | [],ys=>by simp [XH]
 | x::r,ys=>by rw [K1,XH,XH,Et r];omega
theorem Cr:∀{xs:List Z2} {k:Nat} {e:Z2},xs[k]? = some e->e.sz<=XH xs
 | [],k,e,h=>by simp at h
 | x::r,0,e,h=>by simp at h;subst h;rw [XH];omega
 | x::r,k+1,e,h=>by have:=Cr (xs:=r) (k:=k) (by simpa using h);rw [XH];omega
theorem OR:∀{xs:List Z2},xs.length<=XH xs
 | []=>TB _
 | x::r=>by have:=OR (xs:=r);have:=x.sz_eq;rw [XH,YR];omega
def AE:Zf:=⟨0,0,[⟨[]⟩,⟨[0,1]⟩]⟩
def AF:Zf:=⟨0,0,[⟨[]⟩,⟨[3,0,3]⟩]⟩
def Ox:List Zf:=[⟨0,0,[⟨[1,3]⟩]⟩,⟨1,0,[]⟩,⟨0,0,[⟨[1,1,0]⟩,⟨[0]⟩,⟨[3]⟩]⟩,⟨0,1,[]⟩]
def AR:List (List Zf):=[[AE,⟨0,0,[]⟩,AF],[AE,⟨0,0,[]⟩,AF,⟨0,0,[⟨[1,3]⟩]⟩],[AE,⟨0,0,[]⟩,AF,⟨1,0,[]⟩],[AE,⟨0,0,[]⟩,AF,⟨0,0,[⟨[1,1,0]⟩,⟨[0]⟩,⟨[3]⟩]⟩],[AE,⟨0,0,[]⟩,AF,⟨0,1,[]⟩]]
def GD (ds:List Zf):Prop:=ds∈AR
theorem GD.ok {ds:List Zf} (h:GD ds):Wt ds:=by
 have k:=(by decide:∀ds∈AR,ds.length<=4/\(∀d∈ds,d.cons.length<=3)/\∀d∈ds,∀c∈d.cons,c.fields.length<=3) ds h
 exact ⟨k.1,k.2.1,k.2.2⟩
theorem GD.len {ds:List Zf} (h:GD ds):3<=ds.length/\ds.length<=4:=by
 exact (by decide:∀ds∈AR,3<=ds.length/\ds.length<=4) ds h
def Jd (t:Int):Prop:=t=0∨t=1∨t=3
instance (t:Int):Decidable (Jd t):=inferInstanceAs (Decidable (_∨_∨_))
theorem GD.low {ds:List Zf} (h:GD ds):Y3 ds 0=[]/\Y3 ds 1=[0,1]/\Y3 ds 2=[]/\Y3 ds 3=[2,3]/\Y2 ds 0=[]/\Y2 ds 1=[0,1]/\Y2 ds 2=[]/\Y2 ds 3=[3,0,3]:=
 (by decide:∀ds∈AR,Y3 ds 0=[]/\Y3 ds 1=[0,1]/\Y3 ds 2=[]/\Y3 ds 3=[2,3]/\Y2 ds 0=[]/\Y2 ds 1=[0,1]/\Y2 ds 2=[]/\Y2 ds 3=[3,0,3]) ds h
theorem GD.fields {ds:List Zf} (h:GD ds):∀c∈Y3 ds 1++(Y3 ds 3++Y3 ds 4),∀t∈Y2 ds c,Jd t:=
 (by decide:∀ds∈AR,∀c∈Y3 ds 1++(Y3 ds 3++Y3 ds 4),∀t∈Y2 ds c,Jd t) ds h
theorem GD.cons_cases {ds:List Zf} (h:GD ds) {t:Int} {c:Int} (hc:c∈Y3 ds t):(0<=c/\c<=9)/\(t=1∨t=3∨t=4)/\(Y2 ds c).length<=3/\∀u∈Y2 ds c,Jd u:=by
 have ht:1<=t/\t<=ds.length:=by
  by_cases q:1<=t/\t<=ds.length
  ·exact q
  ·rw [Y3,Z9 q] at hc;cases hc
 have hl:=h.len
 have hlow:=h.low
 have key:∀c∈Y3 ds 1++(Y3 ds 3++Y3 ds 4),0<=c/\c<=9:=
  (by decide:∀ds∈AR,∀c∈Y3 ds 1++(Y3 ds 3++Y3 ds 4),0<=c/\c<=9) ds h
 have h4:t=1∨t=2∨t=3∨t=4:=by omega
 have hf:=h.fields
 have hd:=Um h.ok c
 rcases h4 with rfl|rfl|rfl|rfl
 ·exact ⟨key c (Xv.2 (.inl hc)),.inl rfl,hd,hf c (Xv.2 (.inl hc))⟩
 ·rw [hlow.2.2.1] at hc;cases hc
 ·exact ⟨key c (Xv.2 (.inr (Xv.2 (.inl hc)))),.inr (.inl rfl),hd,hf c (Xv.2 (.inr (Xv.2 (.inl hc))))⟩
 ·exact ⟨key c (Xv.2 (.inr (Xv.2 (.inr hc)))),.inr (.inr rfl),hd,hf c (Xv.2 (.inr (Xv.2 (.inr hc))))⟩
def JN:List (LI × Int):=[([],0),([1],0),([1,1],1),([1],1),([1,0],1),([2,1],1),([1,1],0),([3],0),([0],1),([0,1],1),([3,0],3),([3],1),([1,3,0],0),([0],0),([0,0],0),([1,0],0)]
def TD (f:Func):Prop:=(f.params,f.result)∈JN
theorem TD.bd {f:Func} (h:TD f):f.params.length<=3/\(∀t∈f.params,0<=t/\t<=3)/\Jd f.result:=by
 have key:∀q∈JN,q.1.length<=3/\(∀t∈q.1,0<=t/\t<=3)/\Jd q.2:=by decide
 exact key _ h
theorem TD.clo {ds:List Zf} {f:Func} (hd:GD ds) (h:TD f) (hp:0<Uz ds (gI f.params ((f.params.length:Int)-1)) f.result):∀t∈f.params.dropLast,Jd t:=by
 have key:∀q∈JN,0<Uz ds (gI q.1 ((q.1.length:Int)-1)) q.2->∀t∈q.1.dropLast,Jd t:=
  (by decide +kernel:∀ds∈AR,∀q∈JN,0<Uz ds (gI q.1 ((q.1.length:Int)-1)) q.2->∀t∈q.1.dropLast,Jd t) ds hd
 exact key _ h hp
structure GP (p:Wh):Prop where
 decls:GD p.decls
 len:1<=p.funcs.length/\p.funcs.length<=4
 sigs:∀f∈p.funcs,TD f
def Ql (ds:List Zf) (op num:Int) (m:Nat) (k:Nat):Nat:=
 if op=13 then m+k else if op=8 then (if k=0 then m else m+(Y2 ds (gI (Y3 ds num) ((k:Int)-1))).length) else m
mutual
def eW (ds:List Zf) (nf:Nat):Nat->Z2->Prop
 | m,.mk op num kids=>(0<=op/\op<=13)/\(op=12->kids=[]/\0<=num/\num<m)/\(op=13->kids.length=2)/\(op=7->kids.length=3)/\(op=8->kids.length=1+(Y3 ds num).length)/\(op=9->0<=num/\num<nf)/\(-2000<=num/\num<=2000)/\kids.length<=4 /\
  Kd ds nf (Ql ds op num m) 0 kids
def Kd (ds:List Zf) (nf:Nat) (sc:Nat->Nat):Nat->List Z2->Prop
 | _,[]=>True
 | k,e::r=>eW ds nf (sc k) e/\Kd ds nf sc (k+1) r
end
theorem Z7h {ds:List Zf} {nf m:Nat} (e:Z2):eW ds nf m e↔(0<=e.op/\e.op<=13)/\(e.op=12->e.kids=[]/\0<=e.num/\e.num<m)/\(e.op=13->e.kids.length=2)/\(e.op=7->e.kids.length=3)/\(e.op=8->e.kids.length=1+(Y3 ds e.num).length)/\(e.op=9->0<=e.num/\e.num<nf)/\(-2000<=e.num/\e.num<=2000)/\e.kids.length<=4 /\
  Kd ds nf (Ql ds e.op e.num m) 0 e.kids:=by cases e;rw [eW];rfl
theorem Dm {ds:List Zf} {nf:Nat} {sc:Nat->Nat}:∀{xs:List Z2} {j k:Nat} {e:Z2},Kd ds nf sc j xs->xs[k]? = some e->eW ds nf (sc (j+k)) e
 | [],j,k,e,_,h=>by simp at h
 | x::r,j,0,e,hw,h=>by simp at h;subst h;exact hw.1
 | x::r,j,k+1,e,hw,h=>by
  have:=Dm (xs:=r) (j:=j+1) (k:=k) hw.2 (by simpa using h)
  rw [show j+(k+1)=j+1+k by omega];exact this
theorem ON {ds:List Zf} {nf:Nat} {sc:Nat->Nat}:∀{xs ys:List Z2} {j:Nat},Kd ds nf sc j (xs++ys)↔Kd ds nf sc j xs/\Kd ds nf sc (j+xs.length) ys
 | [],ys,j=>by simp [Kd]
 | x::r,ys,j=>by
  rw [K1,Kd,Kd,ON (xs:=r),and_assoc,YR,show j+1+r.length=j+(r.length+1) by omega]
theorem IX {ds:List Zf} {nf m:Nat} {sc:Nat->Nat} (hs:∀k,sc k=m):∀{xs:List Z2} {j:Nat},(∀e∈xs,eW ds nf m e)->Kd ds nf sc j xs
 | [],_,_=>True.intro
 | x::r,j,h=>⟨by rw [hs];exact h x (Xl ..),IX hs fun e he=>h e (XC _ he)⟩
theorem Cq {ds:List Zf} {nf m:Nat} {op num:Int} {kids:List Z2} (ho:0<=op/\op<=11/\op≠7/\op≠8) (hc:op=9->0<=num/\num<nf) (hn:-2000<=num/\num<=2000) (hl:kids.length<=4) (hk:∀e∈kids,eW ds nf m e):eW ds nf m (.mk op num kids):=by
 rw [eW]
 refine ⟨by omega,fun h=>by omega,fun h=>by omega,fun h=>by omega,fun h=>by omega,hc,hn,hl,IX (m:=m) (fun k=>?_) hk⟩
 rw [Ql,Z9 om,Z9 om]
theorem Z7i {ds:List Zf} {nf m:Nat} {z:Int} (hz:-2000<=z/\z<=2000):eW ds nf m (.mk 0 z []):=Cq om (fun h=>by omega) hz (by simp) (fun e he=>by cases he)
theorem Z7j {ds:List Zf} {nf m:Nat} {z:Int} (hz:0<=z/\z<m) (hm:m<=2000):eW ds nf m (.mk 12 z []):=by
 rw [eW]
 exact ⟨by omega,fun _=>⟨rfl,hz⟩,fun h=>by omega,fun h=>by omega,fun h=>by omega,fun h=>by omega,by omega,by simp,True.intro⟩
theorem OL {ds:List Zf} {nf m:Nat} {num:Int} {kids:List Z2} (hn:-2000<=num/\num<=2000) (hl:kids.length=3) (hk:∀e∈kids,eW ds nf m e):eW ds nf m (.mk 7 num kids):=by
 rw [eW]
 refine ⟨by omega,fun h=>by omega,fun h=>by omega,fun _=>hl,fun h=>by omega,fun h=>by omega,hn,by omega,IX (m:=m) (fun k=>?_) hk⟩
 rw [Ql,Z9 om,Z9 om]
theorem OM {ds:List Zf} {nf m:Nat} {num:Int} {a b:Z2} (hn:-2000<=num/\num<=2000) (ha:eW ds nf m a) (hb:eW ds nf (m+1) b):eW ds nf m (.mk 13 num [a,b]):=by
 rw [eW]
 exact ⟨by omega,fun h=>by omega,fun _=>rfl,fun h=>by omega,fun h=>by omega,fun h=>by omega,hn,by simp,ha,hb,True.intro⟩
theorem IW {ds:List Zf} {nf m:Nat} {num:Int} {a:Z2} {arms:List Z2} (hn:-2000<=num/\num<=2000) (h3:arms.length<=3) (hl:arms.length=(Y3 ds num).length) (ha:eW ds nf m a) (hk:Kd ds nf (Ql ds 8 num m) 1 arms):eW ds nf m (.mk 8 num (a::arms)):=by
 rw [eW]
 refine ⟨by omega,fun h=>by omega,fun h=>by omega,fun h=>by omega,fun _=>by rw [YR];omega,fun h=>by omega,hn,by rw [YR];omega,?_,hk⟩
 rw [Ql,Z9 om,Zg rfl,Zg rfl]
 exact ha
def bS (b:Nat):Nat:=max 4 (10*b-10)
def bC (b:Nat):Nat:=max 40 (100*b-100)
def X7:List Z5->Nat
 | []=>0
 | s::r=>(if Yw s.op=true then 0 else 1)+X7 r
theorem Jv:∀xs ys:List Z5,X7 (xs++ys)=X7 xs+X7 ys
 | [],ys=>by simp [X7]
 | x::r,ys=>by rw [K1,X7,X7,Jv r];omega
theorem Bw:∀xs:List Z5,X7 xs<=xs.length
 | []=>Xa _
 | x::r=>by have:=Bw r;rw [X7,YR];split<;>omega
def UX (ds:List Zf) (op num:Int) (m:Nat) (k:Nat):Nat:=if op=8 then m+(Y2 ds (gI (Y3 ds num) k)).length else m
mutual
def fS (ds:List Zf) (nf:Nat):Nat->Z5->Prop
 | m,.mk op num into args kids=>((0<=op/\op<=11)∨(14<=op/\op<=17))/\(∀a∈args,0<=a/\a<m)/\(14<=op->num=0/\into=0/\kids=[]/\∃a,args=[a])/\(op=7->kids.length=2)/\(op=8->kids.length=(Y3 ds num).length)/\(op=7∨op=8->∃a,args=[a]) /\
  (op=9->0<=num/\num<nf)/\(-2000<=num/\num<=2000)/\(0<=into/\into<=m)/\args.length<=4/\(op≠7/\op≠8->kids=[])/\TX ds nf (UX ds op num m) 0 kids
def TX (ds:List Zf) (nf:Nat) (sc:Nat->Nat):Nat->List Z4->Prop
 | _,[]=>True
 | k,b::r=>fB ds nf (sc k) b/\TX ds nf sc (k+1) r
def Tn (ds:List Zf) (nf:Nat):Nat->List Z5->Prop
 | _,[]=>True
 | m,s::r=>fS ds nf m s/\Tn ds nf (if Yw s.op=true then m else m+1) r
def fB (ds:List Zf) (nf:Nat):Nat->Z4->Prop
 | m,.mk steps result=>Tn ds nf m steps/\0<=result/\result<(m+X7 steps:Nat)
end
section
variable {ds:List Zf} {nf:Nat}
structure FS (ds:List Zf) (nf m:Nat) (s:Z5):Prop where
 op:(0<=s.op/\s.op<=11)∨(14<=s.op/\s.op<=17)
 args:∀a∈s.args,0<=a/\a<m
 cnt:14<=s.op->s.num=0/\s.into=0/\s.kids=[]/\∃a,s.args=[a]
 k7:s.op=7->s.kids.length=2
 k8:s.op=8->s.kids.length=(Y3 ds s.num).length
 one:s.op=7∨s.op=8->∃a,s.args=[a]
 call:s.op=9->0<=s.num/\s.num<nf
 num:-2000<=s.num/\s.num<=2000
 into:0<=s.into/\s.into<=m
 alen:s.args.length<=4
 kn:s.op≠7/\s.op≠8->s.kids=[]
 kids:TX ds nf (UX ds s.op s.num m) 0 s.kids
theorem Gk {m:Nat} (s:Z5):fS ds nf m s↔FS ds nf m s:=by
 cases s
 rw [fS]
 exact ⟨fun ⟨h1,h2,h3,h4,h5,h6,h7,h8,h9,h10,h11,h12⟩=>⟨h1,h2,h3,h4,h5,h6,h7,h8,h9,h10,h11,h12⟩,fun h=>⟨h.op,h.args,h.cnt,h.k7,h.k8,h.one,h.call,h.num,h.into,h.alen,h.kn,h.kids⟩⟩
theorem Ev {m:Nat} (b:Z4):fB ds nf m b↔Tn ds nf m b.steps/\0<=b.result/\b.result<(m+X7 b.steps:Nat):=by cases b;rw [fB];rfl
theorem Ew {sc:Nat->Nat}:∀{xs:List Z4} {j k:Nat} {b:Z4},TX ds nf sc j xs->xs[k]? = some b->fB ds nf (sc (j+k)) b
 | [],j,k,b,_,h=>by simp at h
 | x::r,j,0,b,hw,h=>by simp at h;subst h;exact hw.1
 | x::r,j,k+1,b,hw,h=>by
  have:=Ew (xs:=r) (j:=j+1) (k:=k) hw.2 (by simpa using h)
  rw [show j+(k+1)=j+1+k by omega];exact this
theorem OU {sc:Nat->Nat}:∀{xs ys:List Z4} {j:Nat},TX ds nf sc j (xs++ys)↔TX ds nf sc j xs/\TX ds nf sc (j+xs.length) ys
 | [],ys,j=>by simp [TX]
 | x::r,ys,j=>by
  rw [K1,TX,TX,OU (xs:=r),and_assoc,YR,show j+1+r.length=j+(r.length+1) by omega]
theorem OV {sc:Nat->Nat} {xs:List Z4} {b:Z4} (h:TX ds nf sc 0 xs) (hb:fB ds nf (sc xs.length) b):TX ds nf sc 0 (xs++[b]):=
 OU.2 ⟨h,by rw [Vf];exact hb,True.intro⟩
theorem Do:∀{xs ys:List Z5} {m:Nat},Tn ds nf m (xs++ys)↔Tn ds nf m xs/\Tn ds nf (m+X7 xs) ys
 | [],ys,m=>by simp [Tn,X7]
 | x::r,ys,m=>by
  rw [K1,Tn,Tn,Do (xs:=r),and_assoc,X7]
  by_cases h:Yw x.op=true
  ·rw [Zg h,Zg h,Vf]
  ·rw [Z9 h,Z9 h,Bh]
theorem Gl {xs:List Z5} {s:Z5} {m:Nat} (h:Tn ds nf m xs) (hs:fS ds nf (m+X7 xs) s):Tn ds nf m (xs++[s]):=Do.2 ⟨h,hs,True.intro⟩
theorem Ex:∀{xs:List Z5} {k m:Nat} {s:Z5},Tn ds nf m xs->xs[k]? = some s->fS ds nf (m+X7 (xs.take k)) s
 | [],k,m,s,_,h=>by simp at h
 | x::r,0,m,s,hw,h=>by simp at h;subst h;exact hw.1
 | x::r,k+1,m,s,hw,h=>by
  have:=Ex (xs:=r) (k:=k) hw.2 (by simpa using h)
  rw [CY,X7]
  by_cases hc:Yw x.op=true
  ·rw [Zg hc] at this ⊢;rw [Vf];exact this
  ·rw [Z9 hc] at this ⊢;rw [<-Bh];exact this
mutual
theorem Zlp:∀(s:Z5) {m:Nat},fS ds nf m s->m+4*s.sz<=900000000->Wt ds->wS ds s
 | .mk op num into args kids,m,h,hb,hd=>by
  rw [fS] at h
  obtain ⟨h1,h2,h3,h4,h5,h6,h7,h8,h9,h10,h11,h12⟩:=h
  rw [Z5.sz] at hb
  rw [wS]
  refine ⟨?_,fun hc=>h3 (show 14<=op/\op<=17 by simpa [Yw] using hc).1,fun h8'=>⟨?_,h5 h8'⟩,Z30 kids h12 (fun k=>?_) hd⟩
  ·rcases h1 with h1|h1
   ·have e1:Yw op=false:=by simp [Yw];omega
    have e2:Wc op=true:=by simp [Wc];omega
    rw [e1,e2];rfl
   ·have e1:Yw op=true:=by simp [Yw];omega
    have e2:Wc op=false:=by simp [Wc];omega
    rw [e1,e2];rfl
  ·obtain ⟨a,ha⟩:=h6 (.inr h8')
   have:=h2 a (by rw [ha];exact XZ.2 rfl)
   exact ⟨a,ha,by omega⟩
  ·have hf:=Um hd (gI (Y3 ds num) k)
   show UX ds op num m k+4*Xf kids<=900000003
   rw [UX];split<;>omega
theorem Z30:∀(bs:List Z4) {sc:Nat->Nat} {k:Nat},TX ds nf sc k bs->(∀k,sc k+4*Xf bs<=900000003)->Wt ds->Bc ds bs
 | [],_,_,_,_,_=>True.intro
 | b::r,sc,k,h,hb,hd=>by
  have hp:=b.sz_eq
  exact ⟨Z2z b h.1 (by have:=hb k;rw [Xf] at this;omega) hd,Z30 r h.2 (fun j=>by have:=hb j;rw [Xf] at this;omega) hd⟩
theorem Z31:∀(xs:List Z5) {m:Nat},Tn ds nf m xs->m+4*YG xs<=900000000->Wt ds->Kw ds xs
 | [],_,_,_,_=>True.intro
 | s::r,m,h,hb,hd=>by
  rw [YG] at hb
  have hp:=s.sz_pos
  refine ⟨Zlp s h.1 om hd,Z31 r h.2 ?_ hd⟩
  split<;>omega
theorem Z2z:∀(b:Z4) {m:Nat},fB ds nf m b->m+4*b.sz<=900000004->Wt ds->wB ds b
 | .mk steps result,m,h,hb,hd=>by
  rw [Z4.sz] at hb
  rw [fB] at h
  rw [wB]
  exact Z31 steps h.1 om hd
end
mutual
theorem Zgn:∀(s:Z5) {m:Nat},fS ds nf m s->s.rng
 | .mk op num into args kids,m,h=>by
  rw [fS] at h
  obtain ⟨h1,h2,h3,h4,h5,h6,h7,h8,h9,h10,h11,h12⟩:=h
  rw [Z5.rng]
  exact ⟨by omega,Z0e kids h12⟩
theorem Z0e:∀(bs:List Z4) {sc:Nat->Nat} {k:Nat},TX ds nf sc k bs->K7 bs
 | [],_,_,_=>True.intro
 | b::r,sc,k,h=>⟨Mo b h.1,Z0e r h.2⟩
theorem Z0f:∀(xs:List Z5) {m:Nat},Tn ds nf m xs->KS xs
 | [],_,_=>True.intro
 | s::r,m,h=>⟨Zgn s h.1,Z0f r h.2⟩
theorem Mo:∀(b:Z4) {m:Nat},fB ds nf m b->b.rng
 | .mk steps result,m,h=>by rw [fB] at h;rw [Z4.rng];exact Z0f steps h.1
end
end
structure FN (n:Zp) (q:Nat):Prop where
 decls:GD n.decls
 len:1<=n.routines.length/\n.routines.length<=4
 sigs:∀r∈n.routines,(r.params,r.result)∈JN
 lent:∀r∈n.routines,r.lent.length<=3/\∀i∈r.lent,0<=i/\i<r.params.length
 body:∀r∈n.routines,fB n.decls n.routines.length r.params.length r.body/\r.body.sz<=q
theorem FN.ok {n:Zp} {q:Nat} (h:FN n q):Xe n:=
 ⟨h.decls.ok,h.len.2,fun r hr=>(TD.bd (f:=⟨r.params,r.result,default⟩) (h.sigs r hr)).1,fun r hr=>by have:=(h.lent r hr).1;omega⟩
def Pk (n k:Int):Prop:=0<=k/\(0<n->k<n)/\(n<=0->k=0)
theorem Pk.lt {n k:Int} (h:Pk n k) (hn:0<n):0<=k/\k<n:=⟨h.1,h.2.1 hn⟩
theorem Pk.zero {n:Int}:Pk n 0:=⟨Int.le_refl _,fun h=>h,fun _=>rfl⟩
theorem Pk.rem {n a:Int} (ha:0<=a) (hn:0<n):Pk n (a % n):=⟨Int.emod_nonneg _ om,fun _=>Int.emod_lt_of_pos _ hn,fun _=>by omega⟩
def AD (ds:List Zf):Prop:=ds.length<=8/\∀d∈ds,d.cons.length<=4/\∀c∈d.cons,c.fields.length<=4
theorem GD.ad {ds:List Zf} (h:GD ds):AD ds:=(by decide:∀ds∈AR,ds.length<=8/\∀d∈ds,d.cons.length<=4/\∀c∈d.cons,c.fields.length<=4) ds h
theorem AD.set {ds:List Zf} (h:AD ds) (k:Nat) {d:Zf} (hd:d.cons.length<=4/\∀c∈d.cons,c.fields.length<=4):AD (ds.set k d):=
 ⟨by rw [T1];exact h.1,fun x hx=>(List.mem_or_eq_of_mem_set hx).elim (h.2 x) fun e=>by rw [e];exact hd⟩
theorem AD.app {ds es:List Zf} (h:AD ds) (hl:ds.length+es.length<=8) (hd:∀d∈es,d.cons.length<=4/\∀c∈d.cons,c.fields.length<=4):AD (ds++es):=
 ⟨by rw [YF];exact hl,fun x hx=>(Xv.1 hx).elim (h.2 x) (hd x)⟩
theorem GD.three:GD [AE,⟨0,0,[]⟩,AF]:=List.Mem.head _
theorem GD.four:∀{k:Nat} {x:Zf},Ox[k]? = some x->GD ([AE,⟨0,0,[]⟩,AF]++[x])
 | 0,x,h=>by cases h;exact .tail _ (.head _)
 | 1,x,h=>by cases h;exact .tail _ (.tail _ (.head _))
 | 2,x,h=>by cases h;exact .tail _ (.tail _ (.tail _ (.head _)))
 | 3,x,h=>by cases h;exact .tail _ (.tail _ (.tail _ (.tail _ (.head _))))
 | k+4,x,h=>by simp [Ox] at h
theorem BK {l:LI} {z a b:Int} (h:z∈l) (hl:l.all (fun x=>decide (a<=x/\x<=b))=true):a<=z/\z<=b:=by
 have:=JJ.1 hl z h
 exact of_decide_eq_true this
def rk (t:Int):Nat:=if Jd t then 0 else 1
theorem Mn (t:Int):rk t<=1:=by rw [rk];split<;>omega
theorem Z0d {t:Int} (h:Jd t):rk t=0:=Zg h
def SE (g:Wh) (q:Nat) (e:Z2):Prop:=(∀m,eW g.decls g.funcs.length m e)/\e.sz<=q
def GE (g:Wh) (m q:Nat) (e:Z2):Prop:=eW g.decls g.funcs.length m e/\e.sz<=q
theorem SE.ge {g:Wh} {q q' m:Nat} {e:Z2} (h:SE g q e) (hq:q<=q'):GE g m q' e:=⟨h.1 m,Ww h.2 hq⟩
theorem GE.le {g:Wh} {m q q':Nat} {e:Z2} (h:GE g m q e) (hq:q<=q'):GE g m q' e:=⟨h.1,Ww h.2 hq⟩
theorem Gj {m:Nat}:∀{xs:List Z2},(∀e∈xs,e.sz<=m)->XH xs<=xs.length*m
 | [],_=>TB _
 | x::r,h=>by
  have h1:=h x (Xl ..)
  have h2:=Gj (xs:=r) fun e he=>h e (XC _ he)
  rw [XH,YR,TR];omega
theorem XJ {α:Type} {p:α->Prop} {xs:List α} {a:α} (h:∀x∈xs,p x) (ha:p a):∀x∈xs++[a],p x:=fun x hx=>(Xv.1 hx).elim (h x) fun q=>by rw [XZ.1 q];exact ha
theorem SE.int {g:Wh} {z:Int} {q:Nat} (hz:-2000<=z/\z<=2000) (hq:1<=q):SE g q (.mk 0 z []):=⟨fun _=>Z7i hz,by simpa [Z2.sz,XH] using hq⟩
theorem SE.node {g:Wh} {op num:Int} {ys:List Z2} {q k:Nat} (ho:op=6∨op=10) (hn:0<=num/\num<=2000) (hy:∀e∈ys,SE g 1 e) (hl:ys.length<=k) (hk:k<=3) (hq:1+k<=q):SE g q (.mk op num ys):=by
 refine ⟨fun m=>Cq om (fun h=>by omega) om om fun e he=>(hy e he).1 m,?_⟩
 have:=Gj (xs:=ys) (m:=1) fun e he=>(hy e he).2
 rw [Z2.sz];omega
def Bn (ds:List Zf) (t c:Int):Prop:=(0<=c/\c<=9)/\(Y2 ds c).length<=3*rk t/\∀u∈Y2 ds c,Jd u
instance (ds:List Zf) (t c:Int):Decidable (Bn ds t c):=inferInstanceAs (Decidable (_/\_/\_))
theorem Z0z {ds:List Zf} (h:GD ds):∀t∈[(1:Int),2,3,4],∀c∈Y3 ds t,(t∈Y2 ds c->∀c0,(Y3 ds t)[0]? = some c0->Bn ds t c0)/\(¬t∈Y2 ds c->Bn ds t c):=by
 intro t ht c hc
 have k1:=(by decide:∀ds∈AR,∀t∈[(1:Int),2,3,4],∀c∈Y3 ds t,(t∈Y2 ds c->Bn ds t (gI (Y3 ds t) 0))/\(¬t∈Y2 ds c->Bn ds t c)) ds h t ht c hc
 refine ⟨fun q c0 h0=>?_,k1.2⟩
 have:=k1.1 q
 rwa [TY (i:=0) h0] at this
theorem O9 {ds:List Zf} (h:GD ds) {t c:Int} (hc:c∈Y3 ds t):t∈[(1:Int),2,3,4]:=by
 obtain ⟨_,h2,_⟩:=h.cons_cases hc
 rcases h2 with rfl|rfl|rfl<;>simp
theorem Zht {ds:List Zf} (h:GD ds) {t c c0:Int} (hc:c∈Y3 ds t) (ht:t∈Y2 ds c) (h0:(Y3 ds t)[0]? = some c0):Bn ds t c0:=(Z0z h t (O9 h hc) c hc).1 ht c0 h0
theorem Zhs {ds:List Zf} (h:GD ds) {t c:Int} (hc:c∈Y3 ds t) (ht:¬t∈Y2 ds c):Bn ds t c:=(Z0z h t (O9 h hc) c hc).2 ht
theorem Zgm {ds:List Zf} (h:GD ds) {t:Int} (h0:(Y3 ds t).length=0) (ht:0<t):rk t=1:=by
 rw [rk,Z9]
 rintro (q|q|q)
 ·omega
 ·rw [q,h.low.2.1] at h0;cases h0
 ·rw [q,h.low.2.2.2.1] at h0;cases h0
def An (g:Wh) (t i:Int):Prop:=0<=i/\∃f,g.funcs[i.toNat]? = some f/\0<f.params.length/\Uz g.decls (gI f.params ((f.params.length:Int)-1)) f.result=t
theorem An.lt {g:Wh} {t i:Int} (h:An g t i):0<=i/\i<g.funcs.length:=by
 obtain ⟨h1,f,h2,_⟩:=h
 have:=(Xj.1 h2).1
 omega
theorem An.mk {g:Wh} {t x2:Int} {k:Nat} {f:Func} (hf:g.funcs[k]? = some f) (hl:0<f.params.length) (hx:f.params[f.params.length-1]? = some x2) (ha:Uz g.decls x2 f.result=t):An g t (k:Int):=by
 refine ⟨by omega,f,by simpa using hf,hl,?_⟩
 rw [TY (i:=(f.params.length:Int)-1) (by rw [show ((f.params.length:Int)-1).toNat=f.params.length-1 by omega];exact hx)]
 exact ha
theorem An.low {g:Wh} {t i u:Int} {f:Func} {j:Nat} (hg:GP g) (h:An g t i) (ht:0<t) (hf:g.funcs[i.toNat]? = some f) (hj:j+1<f.params.length) (hu:f.params[j]? = some u):rk u=0:=by
 obtain ⟨_,f',h2,_,h4⟩:=h
 have e:f'=f:=Qs (h2.symm.trans hf)
 subst e
 have h5:=(hg.sigs f' (ZY hf)).clo hg.decls (by rw [h4];exact ht)
 refine Z0d (h5 u ?_)
 rw [List.dropLast_eq_take]
 exact ZY (i:=j) (by rw [List.getElem?_take_of_lt om];exact hu)
end Go.Abs
section
namespace Go.Abs
theorem JR (b:Nat):bS b=max 4 (10*b-10):=rfl
theorem JQ (b:Nat):bC b=max 40 (100*b-100):=rfl
theorem F5 {L q b:Nat} (hL:L<=3) (hb:3<=b) (hq:L*q<=b-1):1+L*bS q<=bS b:=by
 rw [JR,JR]
 have:L=0∨L=1∨L=2∨L=3:=by omega
 rcases this with rfl|rfl|rfl|rfl<;>omega
theorem Zej {L q b:Nat} (hL:L<=3) (hb:3<=b) (hq:L*q<=b-2):5+L*bS q<=bS b:=by
 rw [JR,JR]
 have:L=0∨L=1∨L=2∨L=3:=by omega
 rcases this with rfl|rfl|rfl|rfl<;>omega
theorem Ze8 {b:Nat} (hb:3<=b):1+(bS (b / 2)+bS (b / 2))<=bS b:=by rw [JR,JR];omega
theorem Z3x {b:Nat} (hb:3<=b):5+bS (b-2)<=bS b:=by rw [JR,JR];omega
theorem B3 {L q b:Nat} (hL:L<=3) (hb:3<=b) (hq:L*q<=b-1):10+L*bC q<=bC b:=by
 rw [JQ,JQ]
 have:L=0∨L=1∨L=2∨L=3:=by omega
 rcases this with rfl|rfl|rfl|rfl<;>omega
theorem Zei {L q b:Nat} (hL:L<=3) (hb:3<=b) (hq:L*q<=b-2):40+L*bC q<=bC b:=by
 rw [JQ,JQ]
 have:L=0∨L=1∨L=2∨L=3:=by omega
 rcases this with rfl|rfl|rfl|rfl<;>omega
theorem Ze7 {b:Nat} (hb:3<=b):10+(bC (b / 2)+bC (b / 2))<=bC b:=by rw [JQ,JQ];omega
theorem Z3w {b:Nat} (hb:3<=b):40+bC (b-2)<=bC b:=by rw [JQ,JQ];omega
theorem NF (b:Nat):4<=bS b:=by rw [JR];omega
theorem NE (b:Nat):40<=bC b:=by rw [JQ];omega
theorem Qx (L b:Nat):L*(b / L)<=b:=Nat.mul_div_le b L
theorem S8 {k L C:Nat} (h:k<L):(k+1)*C=k*C+C/\(k+1)*C<=L*C:=⟨by rw [TR,Nat.one_mul],K3 C h⟩
theorem DS {ds:List Zf} {d x:Int} {m k:Nat} (h:(Y3 ds d)[k]? = some x):Ql ds 8 d m (1+k)=m+(Y2 ds x).length:=by
 rw [Ql,Z9 om,Zg rfl,Z9 om,TY (i:=((1+k:Nat):Int)-1) (by rw [show (((1+k:Nat):Int)-1).toNat=k by omega];exact h)]
section
variable {g:Wh} {m:Nat}
theorem GE.var {z:Int} {q:Nat} (hz:0<=z/\z<m) (hm:m<=2000) (hq:1<=q):GE g m q (.mk 12 z []):=⟨Z7j hz hm,by simpa [Z2.sz,XH] using hq⟩
theorem GE.list {ys:List Z2} {L s:Nat} (h:∀e∈ys,GE g m s e) (hl:ys.length=L):XH ys<=L*s:=by rw [<-hl];exact Gj fun e he=>(h e he).2
theorem GE.node {op num:Int} {ys:List Z2} {L s q:Nat} (ho:0<=op/\op<=11/\op≠7/\op≠8) (hc:op=9->0<=num/\num<g.funcs.length) (hn:-2000<=num/\num<=2000) (h:∀e∈ys,GE g m s e) (hl:ys.length=L) (hL:L<=3) (hq:1+L*s<=q):GE g m q (.mk op num ys):=by
 have:=GE.list h hl
 exact ⟨Cq ho hc hn om fun e he=>(h e he).1,by rw [Z2.sz];omega⟩
theorem GE.if_ {num:Int} {ys:List Z2} {s q:Nat} (hn:-2000<=num/\num<=2000) (h:∀e∈ys,GE g m s e) (hl:ys.length=3) (hq:1+3*s<=q):GE g m q (.mk 7 num ys):=by
 have:=GE.list h hl
 exact ⟨OL hn hl fun e he=>(h e he).1,by rw [Z2.sz];omega⟩
theorem GE.let_ {a b:Z2} {s q:Nat} (ha:GE g m s a) (hb:GE g (m+1) s b) (hq:1+(s+s)<=q):GE g m q (.mk 13 0 [a,b]):=by
 refine ⟨OM om ha.1 hb.1,?_⟩
 have h1:=ha.2
 have h2:=hb.2
 simp only [Z2.sz,XH];omega
theorem GE.two {op num:Int} {a b:Z2} {s1 s2 q:Nat} (ho:0<=op/\op<=11/\op≠7/\op≠8/\op≠9) (hn:-2000<=num/\num<=2000) (ha:GE g m s1 a) (hb:GE g m s2 b) (hq:1+(s1+s2)<=q):GE g m q (.mk op num [a,b]):=by
 refine ⟨Cq om (fun h=>by omega) hn (by simp) fun e he=>?_,?_⟩
 ·rcases YM.1 he with rfl|he
  ·exact ha.1
  ·rw [XZ.1 he];exact hb.1
 ·have h1:=ha.2
  have h2:=hb.2
  simp only [Z2.sz,XH];omega
theorem GE.match_ {d:Int} {e:Z2} {ys:List Z2} {L s q:Nat} (hd:-2000<=d/\d<=2000) (he:GE g m 4 e) (hw:Kd g.decls g.funcs.length (Ql g.decls 8 d m) 1 ys) (hs:∀e∈ys,e.sz<=s) (hl:ys.length=L) (hL:L=(Y3 g.decls d).length) (h3:L<=3) (hq:5+L*s<=q):GE g m q (.mk 8 d (e::ys)):=by
 refine ⟨IW hd om om he.1 hw,?_⟩
 have h1:=Gj hs
 rw [hl] at h1
 have h2:=he.2
 rw [Z2.sz,XH];omega
end
def NL (s:Nat) (left w:Int):Prop:=((s:Int)<=left/\w=left-s)∨(left<s/\w=-1)
end Go.Abs
namespace Go.Abs
theorem CI {L b p pp M:Nat} (hL:L<=3) (hb:3<=b) (h:pp<=p+8) (hp:p+(bC b-1)<=M):pp+L*bC ((b-1) / L)<=M:=by
 have:=B3 hL hb (Qx L (b-1))
 omega
end Go.Abs
end
namespace Go.Abs
theorem Z7r (a b:Z2):XH [a,b]=a.sz+b.sz:=by simp only [XH];omega
theorem Gi (a b c:Z2):XH [a,b,c]=a.sz+b.sz+c.sz:=by simp only [XH];omega
theorem Eb:bS 3=20/\bS 4=30/\bS 12=110/\bS 16=150/\bS 18=170/\bC 3=200/\bC 4=300/\bC 16=1500:=by decide
theorem FI {b:Nat} (h:b<=20):bS b<=190/\bC b<=1900/\(b<=2->bS b<=10):=by rw [JR,JQ];omega
section
variable {g:Wh} {m:Nat}
theorem SE.ofs {op num:Int} {ys:List Z2} {q:Nat} (ho:0<=op/\op<=11/\op≠7/\op≠8/\op≠9) (hn:-2000<=num/\num<=2000) (hl:ys.length<=4) (hy:∀e∈ys,∃s,SE g s e) (hq:1+XH ys<=q):SE g q (.mk op num ys):=
 ⟨fun m=>Cq om (fun h=>by omega) hn hl fun e he=>let ⟨_,h⟩:=hy e he;h.1 m,by rw [Z2.sz];exact hq⟩
theorem SE.nil {op num:Int} {q:Nat} (ho:0<=op/\op<=11/\op≠7/\op≠8/\op≠9) (hn:-2000<=num/\num<=2000) (hq:1<=q):SE g q (.mk op num []):=
 SE.ofs ho hn (by simp) (fun e he=>by cases he) (by simpa [XH] using hq)
theorem SE.two {op num:Int} {a b:Z2} {s1 s2 q:Nat} (ho:0<=op/\op<=11/\op≠7/\op≠8/\op≠9) (hn:-2000<=num/\num<=2000) (ha:SE g s1 a) (hb:SE g s2 b) (hq:1+(s1+s2)<=q):SE g q (.mk op num [a,b]):=by
 refine SE.ofs ho hn (by simp) (fun e he=>?_) ?_
 ·rcases YM.1 he with rfl|he
  ·exact ⟨_,ha⟩
  ·rw [XZ.1 he];exact ⟨_,hb⟩
 ·have h1:=ha.2
  have h2:=hb.2
  rw [Z7r];omega
theorem SE.three {op num:Int} {a b c:Z2} {s1 s2 s3 q:Nat} (ho:0<=op/\op<=11/\op≠7/\op≠8/\op≠9) (hn:-2000<=num/\num<=2000) (ha:SE g s1 a) (hb:SE g s2 b) (hc:SE g s3 c) (hq:1+(s1+s2+s3)<=q):SE g q (.mk op num [a,b,c]):=by
 refine SE.ofs ho hn (by simp) (fun e he=>?_) ?_
 ·rcases YM.1 he with rfl|he
  ·exact ⟨_,ha⟩
  ·rcases YM.1 he with rfl|he
   ·exact ⟨_,hb⟩
   ·rw [XZ.1 he];exact ⟨_,hc⟩
 ·have h1:=ha.2
  have h2:=hb.2
  have h3:=hc.2
  rw [Gi];omega
theorem GE.int {z:Int} {q:Nat} (hz:-2000<=z/\z<=2000) (hq:1<=q):GE g m q (.mk 0 z []):=(SE.int (g:=g) (q:=q) hz hq).ge (Xa _)
theorem GE.three {op num:Int} {a b c:Z2} {s1 s2 s3 q:Nat} (ho:0<=op/\op<=11/\op≠8/\op≠9) (hn:-2000<=num/\num<=2000) (ha:GE g m s1 a) (hb:GE g m s2 b) (hc:GE g m s3 c) (hq:1+(s1+s2+s3)<=q):GE g m q (.mk op num [a,b,c]):=by
 have hk:∀e∈[a,b,c],eW g.decls g.funcs.length m e:=fun e he=>by
  rcases YM.1 he with rfl|he
  ·exact ha.1
  ·rcases YM.1 he with rfl|he
   ·exact hb.1
   ·rw [XZ.1 he];exact hc.1
 refine ⟨?_,?_⟩
 ·by_cases h7:op=7
  ·subst h7;exact OL hn rfl hk
  ·exact Cq om (fun h=>by omega) hn (by simp) hk
 ·have h1:=ha.2
  have h2:=hb.2
  have h3:=hc.2
  rw [Z2.sz,Gi];omega
theorem GE.one {op num:Int} {a:Z2} {s1 q:Nat} (ho:0<=op/\op<=11/\op≠7/\op≠8/\op≠9) (hn:-2000<=num/\num<=2000) (ha:GE g m s1 a) (hq:1+s1<=q):GE g m q (.mk op num [a]):=by
 refine ⟨Cq om (fun h=>by omega) hn (by simp) fun e he=>?_,?_⟩
 ·rw [XZ.1 he];exact ha.1
 ·have h1:=ha.2
  simp only [Z2.sz,XH];omega
theorem GE.letS {a b:Z2} {s1 s2 q:Nat} (ha:GE g m s1 a) (hb:GE g (m+1) s2 b) (hq:1+(s1+s2)<=q):GE g m q (.mk 13 0 [a,b]):=by
 refine ⟨OM om ha.1 hb.1,?_⟩
 have h1:=ha.2
 have h2:=hb.2
 simp only [Z2.sz,XH];omega
theorem GE.matchL (hg:GP g) {e a b:Z2} {s1 s2 s3 q:Nat} (he:GE g m s1 e) (ha:GE g m s2 a) (hb:GE g (m+2) s3 b) (hq:1+(s1+s2+s3)<=q):GE g m q (.mk 8 1 [e,a,b]):=by
 have hl:=hg.decls.low
 refine ⟨IW om (by simp) (by rw [hl.2.1];rfl) he.1 ⟨?_,?_,True.intro⟩,?_⟩
 ·rw [DS (k:=0) (x:=0) (by rw [hl.2.1];rfl),hl.2.2.2.2.1];exact ha.1
 ·rw [DS (k:=1) (x:=1) (by rw [hl.2.1];rfl),hl.2.2.2.2.2.1];exact hb.1
 ·have h1:=he.2
  have h2:=ha.2
  have h3:=hb.2
  rw [Z2.sz,Gi];omega
theorem GE.matchT (hg:GP g) {e a b:Z2} {s1 s2 s3 q:Nat} (he:GE g m s1 e) (ha:GE g m s2 a) (hb:GE g (m+3) s3 b) (hq:1+(s1+s2+s3)<=q):GE g m q (.mk 8 3 [e,a,b]):=by
 have hl:=hg.decls.low
 refine ⟨IW om (by simp) (by rw [hl.2.2.2.1];rfl) he.1 ⟨?_,?_,True.intro⟩,?_⟩
 ·rw [DS (k:=0) (x:=2) (by rw [hl.2.2.2.1];rfl),hl.2.2.2.2.2.2.1];exact ha.1
 ·rw [DS (k:=1) (x:=3) (by rw [hl.2.2.2.1];rfl),hl.2.2.2.2.2.2.2];exact hb.1
 ·have h1:=he.2
  have h2:=ha.2
  have h3:=hb.2
  rw [Z2.sz,Gi];omega
theorem Ih {α:Type} {p:α->Prop} {a:α} (h:p a):∀x∈[a],p x:=fun x hx=>by rw [XZ.1 hx];exact h
end
structure I6 (g:Wh):Prop where
 gp:GP g
 body:∀f∈g.funcs,eW g.decls g.funcs.length f.params.length f.body/\f.body.sz<=30
structure GL (ds:List Zf) (k j:Nat) (rq:List Func):Prop where
 len:rq.length=4
 sigs:∀f∈rq,TD f
 zero:∀f,rq[0]? = some f->f.params.length=0
 body:∀i f,j<=i->i<k->rq[i]? = some f->eW ds k f.params.length f.body/\f.body.sz<=30
theorem GL.gp {ds:List Zf} {k j:Nat} {rq:List Func} (h:GL ds k j rq) (hd:GD ds) (hk:1<=k/\k<=4):GP ⟨ds,rq.take k⟩:=
 ⟨hd,by show 1<=(rq.take k).length/\_;rw [W2,h.len];omega,fun f hf=>h.sigs f (QM hf)⟩
theorem GL.len_take {ds:List Zf} {k j:Nat} {rq:List Func} (h:GL ds k j rq) (hk:k<=4):(rq.take k).length=k:=by rw [W2,h.len];omega
theorem GL.set {ds:List Zf} {k j:Nat} {rq:List Func} {f:Func} {e:Z2} (h:GL ds k j rq) (hj:1<=j) (hf:rq[j-1]? = some f) (he:eW ds k f.params.length e/\e.sz<=30):GL ds k (j-1) (rq.set (j-1) ⟨f.params,f.result,e⟩):=by
 have hl:=(Xj.1 hf).1
 refine ⟨by rw [T1];exact h.len,fun x hx=>?_,fun x hx=>?_,fun i x h1 h2 hx=>?_⟩
 ·rcases List.mem_or_eq_of_mem_set hx with hx|rfl
  ·exact h.sigs x hx
  ·exact h.sigs f (ZY hf)
 ·rw [List.getElem?_set] at hx
  split at hx
  ·rename_i h0
   cases hx
   exact h.zero f (by rw [<-h0];exact hf)
  ·exact h.zero x hx
 ·rw [List.getElem?_set] at hx
  split at hx
  ·cases hx
   exact he
  ·exact h.body i x om h2 hx
theorem GL.done {ds:List Zf} {k:Nat} {rq:List Func} (h:GL ds k 0 rq) (hd:GD ds) (hk:1<=k/\k<=4):I6 ⟨ds,rq.take k⟩:=by
 refine ⟨h.gp hd hk,fun f hf=>?_⟩
 show eW ds (rq.take k).length _ _/\_
 rw [h.len_take hk.2]
 obtain ⟨i,hi⟩:=Ng hf
 have hi2:i<(rq.take k).length:=(Xj.1 hi).1
 rw [h.len_take hk.2] at hi2
 rw [List.getElem?_take_of_lt hi2] at hi
 exact h.body i f om hi2 hi
theorem ME {l:List Func} {f:Func} {k:Nat} (h:l[k]? = some f) (hl:l.all (fun f=>decide ((f.params,f.result)∈JN))=true):TD f:=show (f.params,f.result)∈JN from of_decide_eq_true (JJ.1 hl f (ZY h))
theorem GL.start {ds:List Zf} {k:Nat} {e:Z2} {a b c:Func} (ha:TD a) (hb:TD b) (hc:TD c):GL ds k k [⟨[],0,e⟩,a,b,c]:=by
 refine ⟨rfl,fun f hf=>?_,fun f hf=>?_,fun i f h1 h2=>by omega⟩
 ·rcases YM.1 hf with rfl|hf
  ·exact List.Mem.head _
  ·rcases YM.1 hf with rfl|hf
   ·exact ha
   ·rcases YM.1 hf with rfl|hf
    ·exact hb
    ·rw [XZ.1 hf];exact hc
 ·cases hf;rfl
theorem Zez {l:LI} {k:Nat} {a b:Nat} (h:(k:Int)∈l) (hl:l.all (fun x=>decide ((a:Int)<=x/\x<=b))=true):a<=k/\k<=b:=by
 have:=of_decide_eq_true (JJ.1 hl _ h)
 omega
mutual
def Kn (p:Int->Prop):Z5->Prop
 | .mk op _ _ _ kids=>p op/\Km p kids
def Km (p:Int->Prop):List Z4->Prop
 | []=>True
 | b::r=>Vz p b/\Km p r
def Qg (p:Int->Prop):List Z5->Prop
 | []=>True
 | s::r=>Kn p s/\Qg p r
def Vz (p:Int->Prop):Z4->Prop
 | .mk steps _=>Qg p steps
end
section
variable {p q:Int->Prop}
theorem Fa (s:Z5):Kn p s↔p s.op/\Km p s.kids:=by cases s;rw [Kn];rfl
theorem Ho (b:Z4):Vz p b↔Qg p b.steps:=by cases b;rw [Vz];rfl
theorem DI:∀{xs:List Z4},Km p xs↔∀b∈xs,Vz p b
 | []=>by simp [Km]
 | b::r=>by rw [Km,DI];simp
theorem CM:∀{xs:List Z5},Qg p xs↔∀b∈xs,Kn p b
 | []=>by simp [Qg]
 | b::r=>by rw [Qg,CM];simp
theorem Hp {xs ys:List Z5}:Qg p (xs++ys)↔Qg p xs/\Qg p ys:=by simp only [CM,Xv];exact ⟨fun h=>⟨fun b hb=>h b (.inl hb),fun b hb=>h b (.inr hb)⟩,fun h b hb=>hb.elim (h.1 b) (h.2 b)⟩
theorem So {xs:List Z4} {b:Z4} (h:Km p xs) (hb:Vz p b):Km p (xs++[b]):=DI.2 (XJ (DI.1 h) hb)
theorem Hq {xs:List Z5} {b:Z5} (h:Qg p xs) (hb:Kn p b):Qg p (xs++[b]):=CM.2 (XJ (CM.1 h) hb)
end
def WY (op:Int):Prop:=op<=11
def VJ (op:Int):Prop:=op<=15
end Go.Abs
section
namespace Go.Abs
structure LW (ds:List Zf) (nf q:Nat) (e:Z2) (ys:List Z5) (v:Int):Prop where
 fs:Tn ds nf q ys
 v:0<=v/\v<(q+X7 ys:Nat)
 sz:YG ys<=6*e.sz
 op:Qg WY ys
theorem LW.dn {ds:List Zf} {nf q:Nat} {e:Z2} {ys:List Z5} {v:Int} (h:LW ds nf q e ys v):X7 ys<=6*e.sz/\ys.length<=6*e.sz:=by
 have h1:=Bw ys
 have h2:=JD ys
 have h3:=h.sz
 omega
structure LB (ds:List Zf) (nf q:Nat) (e:Z2) (b:Z4):Prop where
 fb:fB ds nf q b
 sz:b.sz<=1+6*e.sz
 op:Vz WY b
section
variable {ds:List Zf} {nf q:Nat}
theorem Ee:∀xs ys:List Z4,Xf (xs++ys)=Xf xs+Xf ys
 | [],ys=>by simp [Xf]
 | x::r,ys=>by rw [K1,Xf,Xf,Ee r];omega
theorem LW.block {e:Z2} {ys:List Z5} {v:Int} (h:LW ds nf q e ys v):LB ds nf q e ⟨ys,v⟩:=
 ⟨by rw [fB];exact ⟨h.fs,h.v⟩,by rw [Z4.sz];have:=h.sz;omega,by rw [Vz];exact h.op⟩
theorem LW.var {e:Z2} {v:Int} (hv:0<=v/\v<q):LW ds nf q e [] v:=⟨True.intro,by simpa [X7] using hv,by simp [YG],True.intro⟩
theorem LW.let_ {e a b:Z2} {ys zs:List Z5} {v1 v2:Int} (ha:LW ds nf q a ys v1) (hb:LW ds nf (q+X7 ys) b zs v2) (he:a.sz+b.sz<e.sz):LW ds nf q e (ys++zs) v2:=by
 refine ⟨Do.2 ⟨ha.fs,hb.fs⟩,by rw [Jv,<-Bh];exact hb.v,?_,Hp.2 ⟨ha.op,hb.op⟩⟩
 have h1:=ha.sz
 have h2:=hb.sz
 rw [TN];omega
theorem Em {ys:List Z5} {s:Z5} (h:Yw s.op=false):X7 (ys++[s])=X7 ys+1:=by
 rw [Jv]
 simp [X7,h]
theorem LW.node {e:Z2} {ys:List Z5} {as1:LI} (ho:0<=e.op/\e.op<=11/\e.op≠7/\e.op≠8) (hc:e.op=9->0<=e.num/\e.num<nf) (hn:-2000<=e.num/\e.num<=2000) (hf:Tn ds nf q ys) (ha:∀a∈as1,0<=a/\a<(q+X7 ys:Nat)) (hl:as1.length<=4) (hs:YG ys<=6*XH e.kids) (hop:Qg WY ys) :
  LW ds nf q e (ys++[⟨e.op,e.num,0,as1,[]⟩]) ((q+X7 ys:Nat):Int):=by
 have hcb:Yw e.op=false:=by simp [Yw];omega
 refine ⟨Gl hf ?_,?_,?_,Hq hop (by rw [Kn];exact ⟨by show e.op<=11;omega,True.intro⟩)⟩
 ·rw [fS]
  exact ⟨.inl ⟨by omega,by omega⟩,ha,fun h=>by omega,fun h=>by omega,fun h=>by omega,fun h=>by omega,hc,hn,by omega,hl,fun _=>rfl,True.intro⟩
 ·rw [Em (show Yw (Z5.mk e.op e.num 0 as1 []).op=false from hcb)];omega
 ·rw [TN,e.sz_eq]
  simp only [YG,Z5.sz,Xf]
  omega
theorem LW.branch {e:Z2} {ys:List Z5} {v:Int} {bs:List Z4} {s0 sr:Nat} (ho:e.op=7∨e.op=8) (h7:e.op=7->bs.length=2) (h8:e.op=8->bs.length=(Y3 ds e.num).length) (hn:-2000<=e.num/\e.num<=2000) (hf:Tn ds nf q ys) (hv:0<=v/\v<(q+X7 ys:Nat))
  (hb:TX ds nf (UX ds e.op e.num (q+X7 ys)) 0 bs) (hl:bs.length<=3) (h0:YG ys<=6*s0) (h1:Xf bs<=bs.length+6*sr) (hs:s0+sr<=XH e.kids) (hop:Qg WY ys) (hob:Km WY bs):LW ds nf q e (ys++[⟨e.op,e.num,0,[v],bs⟩]) ((q+X7 ys:Nat):Int):=by
 have hcb:Yw e.op=false:=by simp [Yw];omega
 refine ⟨Gl hf ?_,?_,?_,Hq hop (by rw [Kn];exact ⟨by show e.op<=11;omega,hob⟩)⟩
 ·rw [fS]
  exact ⟨.inl ⟨by omega,by omega⟩,fun a ha=>by rw [XZ.1 ha];exact hv,fun h=>by omega,h7,h8,fun _=>⟨v,rfl⟩,fun h=>by omega,hn,by omega,by simp,fun h=>by omega,hb⟩
 ·rw [Em (show Yw (Z5.mk e.op e.num 0 [v] bs).op=false from hcb)];omega
 ·rw [TN,e.sz_eq]
  simp only [YG,Z5.sz,YR,Xx]
  omega
theorem Z0x {ds:List Zf} {op num:Int} {m k:Nat} (h:op=13):Ql ds op num m k=m+k:=Zg h
theorem Zhq {ds:List Zf} {op num:Int} {m:Nat} (h:op≠13):Ql ds op num m 0=m:=by simp [Ql,h]
theorem Z0y {ds:List Zf} {op num:Int} {m k:Nat} (h:op≠13/\op≠8):Ql ds op num m k=m:=by simp [Ql,h.1,h.2]
theorem Zhr {ds:List Zf} {op num x:Int} {m k j:Nat} (h:op=8) (hk:k=j+1) (hx:(Y3 ds num)[j]? = some x):Ql ds op num m k=m+(Y2 ds x).length:=by
 subst h;subst hk;rw [Nat.add_comm j 1];exact DS hx
theorem MA {ds:List Zf} {op num x:Int} {m j:Nat} (h:op=8) (hx:(Y3 ds num)[j]? = some x):UX ds op num m j=m+(Y2 ds x).length:=by
 rw [UX,Zg h,TY (i:=(j:Int)) (by simpa using hx)]
theorem MB {ds:List Zf} {op num:Int} {m j:Nat} (h:op≠8):UX ds op num m j=m:=Z9 h
theorem Bx {xs:List Z2} {k:Nat} {e:Z2} (h:xs[k]? = some e):XH (xs.take (k+1))=XH (xs.take k)+e.sz:=by rw [WB h,Et,XH,XH];rfl
theorem AL {xs:List Z2} (k:Nat):XH (xs.take k)<=XH xs:=by
 have h:=Yr XH (Tz k xs)
 rw [Et] at h;omega
theorem OS {xs:List Z2} {a b:Z2} (ha:xs[0]? = some a) (hb:xs[1]? = some b):a.sz+b.sz<=XH xs:=by
 have h1:XH (xs.take 1)=XH (xs.take 0)+a.sz:=Bx ha
 have h2:XH (xs.take 2)=XH (xs.take 1)+b.sz:=Bx hb
 have h3:=AL (xs:=xs) 2
 omega
theorem FB {us:LI} {v:Int} {d:Nat} (hu:∀a∈us,0<=a/\a<(q:Int)) (hv:0<=v/\v<(q+d:Nat)):∀a∈us++[v],0<=a/\a<((q+d:Nat):Int):=
 XJ (fun a ha=>by have:=hu a ha;omega) hv
theorem HT {us:LI} {d:Nat} (hu:∀a∈us,0<=a/\a<(q:Int)):∀a∈us,0<=a/\a<((q+d:Nat):Int):=fun a ha=>by have:=hu a ha;omega
theorem Zl7 {us ns:LI} {d mf:Nat} (hu:∀a∈us,0<=a/\a<(q:Int)) (hn:∀i∈ns,((q+d:Nat):Int)<=i/\i<((q+d:Nat):Int)+mf):∀a∈us++ns,0<=a/\a<((q+d+mf:Nat):Int):=fun a ha=>by
 rcases Xv.1 ha with h|h
 ·have:=hu a h;omega
 ·have:=hn a h;omega
theorem FP:∀bs:List Z4,bs.length<=Xf bs
 | []=>Xa _
 | b::r=>by have:=FP r;have:=b.sz_pos;rw [Xf,YR];omega
end
end Go.Abs
namespace Go.Abs
structure RF (ds:List Zf) (nf q:Nat) (p:Int->Prop) (r:ZH):Prop where
 sig:(r.params,r.result)∈JN
 lent:r.lent.length<=3/\∀i∈r.lent,0<=i/\i<r.params.length
 body:fB ds nf r.params.length r.body/\r.body.sz<=q
 op:Vz p r.body
structure FO (n:Zp) (q:Nat) (p:Int->Prop):Prop where
 fn:FN n q
 op:∀r∈n.routines,Vz p r.body
theorem FO.rf {n:Zp} {q:Nat} {p:Int->Prop} (h:FO n q p) {r:ZH} (hr:r∈n.routines):RF n.decls n.routines.length q p r:=⟨h.fn.sigs r hr,h.fn.lent r hr,h.fn.body r hr,h.op r hr⟩
theorem FO.all {n:Zp} {q:Nat} {p:Int->Prop} (hd:GD n.decls) (hl:1<=n.routines.length/\n.routines.length<=4) (h:∀r∈n.routines,RF n.decls n.routines.length q p r):FO n q p:=
 ⟨⟨hd,hl,fun r hr=>(h r hr).sig,fun r hr=>(h r hr).lent,fun r hr=>(h r hr).body⟩,fun r hr=>(h r hr).op⟩
structure RN (ds:List Zf) (nf:Nat) (r:ZH):Prop where
 sig:(r.params,r.result)∈JN
 lent:r.lent=[]
 body:fB ds nf r.params.length r.body/\r.body.sz<=181
 op:Vz WY r.body
theorem RN.all {n:Zp} {q:Nat} (hd:GD n.decls) (hl:1<=n.routines.length/\n.routines.length<=4) (h:∀r∈n.routines,RN n.decls n.routines.length r) (hq:181<=q):FO n q WY:=
 FO.all hd hl fun r hr=>⟨(h r hr).sig,by rw [(h r hr).lent];exact ⟨by simp,fun i hi=>by cases hi⟩,⟨(h r hr).body.1,Ww (h r hr).body.2 hq⟩,(h r hr).op⟩
end Go.Abs
namespace Go.Abs
theorem RN.of {ds:List Zf} {nf:Nat} {ps:LI} {rt:Int} {b:Z4} {e:Z2} (hs:(ps,rt)∈JN) (h:LB ds nf ps.length e b) (he:e.sz<=30):RN ds nf ⟨ps,[],rt,Z4.mk b.steps b.result⟩:=by
 have e1:Z4.mk b.steps b.result=b:=by cases b;rfl
 rw [e1]
 exact ⟨hs,rfl,⟨h.fb,by have:=h.sz;show b.sz<=181;omega⟩,h.op⟩
end Go.Abs
end
namespace Go.Abs
theorem MP:∀{xs:List Z5} {s:Z5},s∈xs->s.sz<=YG xs
 | [],s,h=>by cases h
 | x::r,s,h=>by
  rw [YG]
  rcases YM.1 h with rfl|h
  ·omega
  ·have:=MP h;omega
theorem In:∀{xs:List Z4} {b:Z4},b∈xs->b.sz<=Xf xs
 | [],b,h=>by cases h
 | x::r,b,h=>by
  rw [Xf]
  rcases YM.1 h with rfl|h
  ·omega
  ·have:=In h;omega
structure LC (n:Zp) (k:Nat) (xs:List LI):Prop where
 len:xs.length=k
 ok:∀(i:Nat) (l:LI),xs[i]? = some l->l.length<=3/\∀r,n.routines[i]? = some r->∀v∈l,0<=v/\v<(r.params.length:Int)
theorem LC.nil {n:Zp}:LC n 0 []:=⟨rfl,fun i l h=>by simp at h⟩
theorem LC.snoc {n:Zp} {k:Nat} {xs:List LI} {l:LI} (h:LC n k xs) (hl:l.length<=3) (hv:∀r,n.routines[k]? = some r->∀v∈l,0<=v/\v<(r.params.length:Int)):LC n (k+1) (xs++[l]):=by
 refine ⟨by rw [YF,h.len];rfl,fun i l' hi=>?_⟩
 by_cases hk:i<xs.length
 ·rw [CW hk] at hi
  exact h.ok i l' hi
 ·rw [C2 om] at hi
  have h0:i-xs.length=0:=by
   cases e:i-xs.length with
   | zero=>rfl
   | succ q=>rw [e] at hi;simp at hi
  rw [h0] at hi
  cases hi
  have e:i=k:=by have:=h.len;omega
  subst e
  exact ⟨hl,hv⟩
def Ur:LI->Int->LI
 | [],y=>[y]
 | x::r,y=>if x>y then y::x::r else if x=y then x::r else x::Ur r y
def QD (d:Bool) (xs:LI) (y:Int):LI:=if d=true then xs else Ur xs y
theorem GW {xs:LI} {y:Int}:QD true xs y=xs:=rfl
theorem GV {xs:LI} {y:Int}:QD false xs y=Ur xs y:=rfl
theorem PY {xs acc r:LI} {y x:Int} {k:Nat} {d:Bool} (hx:xs[k]? = some x) (hd:d=true) (h:acc++QD d (xs.drop k) y=r):(acc++[x])++QD d (xs.drop (k+1)) y=r:=by
 subst hd
 rw [GW,Y6 hx] at h
 rw [GW,<-h];simp
theorem Zcp {xs acc r:LI} {y x:Int} {k:Nat} {d:Bool} (hx:xs[k]? = some x) (hd:¬d=true) (hl:¬x>=y) (h:acc++QD d (xs.drop k) y=r):(acc++[x])++QD d (xs.drop (k+1)) y=r:=by
 have hd:=UF.2 hd
 subst hd
 rw [GV,Y6 hx,Ur,Z9 om,Z9 om] at h
 rw [GV,<-h];simp
theorem Zcq {xs acc r:LI} {y x:Int} {k:Nat} {d:Bool} (hx:xs[k]? = some x) (hd:¬d=true) (hl:x>y) (h:acc++QD d (xs.drop k) y=r):((acc++[y])++[x])++QD true (xs.drop (k+1)) y=r:=by
 have hd:=UF.2 hd
 subst hd
 rw [GV,Y6 hx,Ur,Zg hl] at h
 rw [GW,<-h];simp
theorem Zcr {xs acc r:LI} {y x:Int} {k:Nat} {d:Bool} (hx:xs[k]? = some x) (hd:¬d=true) (hl:x=y) (h:acc++QD d (xs.drop k) y=r):(acc++[x])++QD true (xs.drop (k+1)) y=r:=by
 have hd:=UF.2 hd
 subst hd
 rw [GV,Y6 hx,Ur,Z9 om,Zg hl] at h
 rw [GW,<-h];simp
theorem Zco {xs acc acc2 r:LI} {y x:Int} {k:Nat} {d d2:Bool} (hx:xs[k]? = some x) (h:acc++QD d (xs.drop k) y=r)
  (hc:(acc2=acc/\d2=d/\(d=true∨¬x>=y))∨(acc2=acc++[y]/\d2=true/\¬d=true/\x>y)∨(acc2=acc/\d2=true/\¬d=true/\x=y)):(acc2++[x])++QD d2 (xs.drop (k+1)) y=r:=by
 rcases hc with ⟨rfl,rfl,h3⟩|⟨rfl,rfl,h3,h4⟩|⟨rfl,rfl,h3,h4⟩
 ·rcases h3 with h3|h3
  ·exact PY hx h3 h
  ·by_cases q:d2=true
   ·exact PY hx q h
   ·exact Zcp hx q h3 h
 ·exact Zcq hx h3 h4 h
 ·exact Zcr hx h3 h4 h
theorem Zcn {xs acc r:LI} {y:Int} {k:Nat} {d:Bool} (hk:xs.length<=k) (h:acc++QD d (xs.drop k) y=r):(if d=true then acc else acc++[y])=r:=by
 rw [Xg hk] at h
 by_cases q:d=true
 ·rw [QD,Zg q,Qp] at h;rw [Zg q];exact h
 ·rw [QD,Z9 q,Ur] at h;rw [Z9 q];exact h
theorem DA:∀(xs:LI) (y:Int),(Ur xs y).length<=xs.length+1
 | [],y=>Xa _
 | x::r,y=>by
  have:=DA r y
  rw [Ur]
  split
  ·simp
  ·split
   ·simp
   ·simp only [YR];omega
theorem ES:∀{xs:LI} {y z:Int},z∈Ur xs y↔z∈xs∨z=y
 | [],y,z=>by simp [Ur]
 | x::r,y,z=>by
  rw [Ur]
  split
  ·simp only [YM];exact ⟨fun h=>h.elim .inr .inl,fun h=>h.elim .inr .inl⟩
  ·split
   ·rename_i h;subst h;simp only [YM];exact ⟨fun h=>.inl h,fun h=>h.elim id .inl⟩
   ·simp only [YM,ES (xs:=r)];exact ⟨fun h=>by rcases h with h|h|h<;>simp [h],fun h=>by rcases h with (h|h)|h<;>simp [h]⟩
def Ca (xs:LI):Prop:=xs.Pairwise (·<·)
theorem PX:∀{xs:LI} {y:Int},Ca xs->Ca (Ur xs y)
 | [],y,_=>by simp [Ur,Ca]
 | x::r,y,h=>by
  obtain ⟨h1,h2⟩:=WI.1 h
  rw [Ur]
  split
  ·rename_i q
   refine WI.2 ⟨fun z hz=>?_,h⟩
   rcases YM.1 hz with rfl|hz
   ·omega
   ·have:=h1 z hz;omega
  ·split
   ·exact h
   ·refine WI.2 ⟨fun z hz=>?_,PX h2⟩
    rcases ES.1 hz with hz|rfl
    ·exact h1 z hz
    ·omega
def Qh:LI->Int->LI
 | [],_=>[]
 | x::r,y=>if x=y then Qh r y else x::Qh r y
theorem Fc:∀(xs:LI) (y:Int),(Qh xs y).length<=xs.length
 | [],y=>Xa _
 | x::r,y=>by
  have:=Fc r y
  rw [Qh]
  split
  ·rw [YR];omega
  ·rw [YR,YR];omega
theorem DJ:∀{xs:LI} {y z:Int},z∈Qh xs y->z∈xs
 | [],y,z,h=>by rw [Qh] at h;exact h
 | x::r,y,z,h=>by
  rw [Qh] at h
  split at h
  ·exact XC _ (DJ h)
  ·rcases YM.1 h with rfl|h
   ·exact Xl ..
   ·exact XC _ (DJ h)
theorem Zfl {xs acc r:LI} {y x:Int} {k:Nat} (hx:xs[k]? = some x) (h:acc++Qh (xs.drop k) y=r):(if x≠y then acc++[x] else acc)++Qh (xs.drop (k+1)) y=r:=by
 rw [Y6 hx,Qh] at h
 by_cases q:x=y
 ·rw [Zg q] at h;rw [Z9 (fun z=>z q)];exact h
 ·rw [Z9 q] at h;rw [Zg q,<-h];simp
theorem Zfk {xs acc r:LI} {y:Int} {k:Nat} (hk:xs.length<=k) (h:acc++Qh (xs.drop k) y=r):acc=r:=by
 rw [Xg hk,Qh,Qp] at h;exact h
def UZ (n:Int) (xs:LI) (a:Int):LI:=if 0<=a/\a<n then Ur xs a else xs
def QZ (n:Int):LI->LI->LI
 | [],xs=>xs
 | a::r,xs=>QZ n r (UZ n xs a)
mutual
def JH (n:Int):Z5->LI->LI
 | .mk op _ _ args kids,xs=>if Yw op=true then xs else Jj n kids (QZ n args xs)
def Jj (n:Int):List Z4->LI->LI
 | [],xs=>xs
 | b::r,xs=>Jj n r (Te n b xs)
def Tf (n:Int):List Z5->LI->LI
 | [],xs=>xs
 | s::r,xs=>Tf n r (JH n s xs)
def Te (n:Int):Z4->LI->LI
 | .mk steps result,xs=>UZ n (Tf n steps xs) result
end
section
variable {n:Int}
theorem Z2t (s:Z5) (xs:LI):JH n s xs=if Yw s.op=true then xs else Jj n s.kids (QZ n s.args xs):=by cases s;rw [JH];rfl
theorem Z2r (b:Z4) (xs:LI):Te n b xs=UZ n (Tf n b.steps xs) b.result:=by cases b;rw [Te];rfl
theorem HS (xs:LI) (a:Int):(UZ n xs a).length<=xs.length+1:=by
 rw [UZ];split
 ·exact DA xs a
 ·omega
theorem Z2q:∀(as1 xs:LI),(QZ n as1 xs).length<=xs.length+as1.length
 | [],xs=>Xa _
 | a::r,xs=>by
  have h1:=Z2q r (UZ n xs a)
  have h2:=HS (n:=n) xs a
  rw [QZ,YR];omega
mutual
theorem Z2u:∀(s:Z5) (xs:LI),(JH n s xs).length<=xs.length+s.sz
 | .mk op num into args kids,xs=>by
  have h1:=Z2s kids (QZ n args xs)
  have h2:=Z2q (n:=n) args xs
  rw [JH,Z5.sz];split<;>omega
theorem Z2s:∀(bs:List Z4) (xs:LI),(Jj n bs xs).length<=xs.length+Xf bs
 | [],xs=>Xa _
 | b::r,xs=>by
  have h1:=Z2s r (Te n b xs)
  have h2:=HR b xs
  rw [Jj,Xf];omega
theorem N5:∀(bs:List Z5) (xs:LI),(Tf n bs xs).length<=xs.length+YG bs
 | [],xs=>Xa _
 | b::r,xs=>by
  have h1:=N5 r (JH n b xs)
  have h2:=Z2u b xs
  rw [Tf,YG];omega
theorem HR:∀(b:Z4) (xs:LI),(Te n b xs).length<=xs.length+b.sz
 | .mk steps result,xs=>by
  have h1:=N5 steps xs
  have h2:=HS (n:=n) (Tf n steps xs) result
  rw [Te,Z4.sz];omega
end
theorem Zl2 {as1 ys r:LI} {k:Nat} {a:Int} (h:as1[k]? = some a) (ha:QZ n (as1.drop k) ys=r):QZ n (as1.drop (k+1)) (UZ n ys a)=r:=by
 rw [Y6 h,QZ] at ha;exact ha
theorem Zl4 {bs:List Z4} {ys r:LI} {k:Nat} {b:Z4} (h:bs[k]? = some b) (ha:Jj n (bs.drop k) ys=r):Jj n (bs.drop (k+1)) (Te n b ys)=r:=by
 rw [Y6 h,Jj] at ha;exact ha
theorem Zl6 {bs:List Z5} {ys r:LI} {k:Nat} {b:Z5} (h:bs[k]? = some b) (ha:Tf n (bs.drop k) ys=r):Tf n (bs.drop (k+1)) (JH n b ys)=r:=by
 rw [Y6 h,Tf] at ha;exact ha
theorem Zl1 {as1 ys r:LI} {k:Nat} (h:as1.length<=k) (ha:QZ n (as1.drop k) ys=r):ys=r:=by rw [Xg h,QZ] at ha;exact ha
theorem Zl3 {bs:List Z4} {ys r:LI} {k:Nat} (h:bs.length<=k) (ha:Jj n (bs.drop k) ys=r):ys=r:=by rw [Xg h,Jj] at ha;exact ha
theorem Zl5 {bs:List Z5} {ys r:LI} {k:Nat} (h:bs.length<=k) (ha:Tf n (bs.drop k) ys=r):ys=r:=by rw [Xg h,Tf] at ha;exact ha
end
end Go.Abs
section
namespace Go.Abs
theorem Zdu {xs:List Z5} {k:Nat} {s:Z5} {r:Nat} (h:xs[k]? = some s) (hs:Yw s.op=true) (ha:k+X4 (xs.drop k)=r):k+1+X4 (xs.drop (k+1))=r:=by
 rw [Y6 h,X4,Zg hs] at ha;omega
theorem Zdv {xs:List Z5} {k:Nat} {s:Z5} {r:Nat} (h:xs[k]? = some s) (hs:¬Yw s.op=true) (ha:k+X4 (xs.drop k)=r):k=r:=by
 rw [Y6 h,X4,Z9 hs] at ha;omega
theorem Zdt {xs:List Z5} {k:Nat} {r:Nat} (h:xs.length<=k) (ha:k+X4 (xs.drop k)=r):k=r:=by
 rw [Xg h,X4] at ha;omega
theorem Z4d {op x:Int} {xs:List Z5} {k:Nat} {s:Z5} {r:Int} (h:xs[k]? = some s) (hs:s.op=op/\gI s.args 0=x) (ha:Wi op x (xs.drop k) k=r):(k:Int)=r:=by
 rw [Y6 h,Wi,Zg hs] at ha;exact ha
theorem NB {op x:Int} {xs:List Z5} {k:Nat} {s:Z5} {r:Int} (h:xs[k]? = some s) (hs:¬(s.op=op/\gI s.args 0=x)) (ha:Wi op x (xs.drop k) k=r):Wi op x (xs.drop (k+1)) ((k+1:Nat):Int)=r:=by
 rw [Y6 h,Wi,Z9 hs] at ha;rw [<-ha];congr 1
theorem Z4c {op x:Int} {xs:List Z5} {k:Nat} {r:Int} (h:xs.length<=k) (ha:Wi op x (xs.drop k) k=r):-1=r:=by
 rw [Xg h,Wi] at ha;exact ha
theorem Z5d {many:Nat} {xs:List Z5} {k:Nat} {s:Z5} {r:Int} (h:xs[k]? = some s) (hs:KE many s) (ha:WF many (xs.drop k) k=r):(k:Int)=r:=by
 rw [Y6 h,WF,Zg hs] at ha;exact ha
theorem Z5c {many:Nat} {xs:List Z5} {k:Nat} {s:Z5} {r:Int} (h:xs[k]? = some s) (hs:¬KE many s) (ha:WF many (xs.drop k) k=r):WF many (xs.drop (k+1)) ((k+1:Nat):Int)=r:=by
 rw [Y6 h,WF,Z9 hs] at ha;rw [<-ha];congr 1
theorem Z5b {many:Nat} {xs:List Z5} {k:Nat} {r:Int} (h:xs.length<=k) (ha:WF many (xs.drop k) k=r):-1=r:=by
 rw [Xg h,WF] at ha;exact ha
theorem Zgi {xs:List Z5} {x:Int} {many:Nat} (h:VA xs x<0∨WO xs many<0):Ut xs x many=xs:=Zg h
theorem Zgj {xs:List Z5} {x:Int} {many:Nat} {s:Z5} (h:¬(VA xs x<0∨WO xs many<0)) (hs:By xs (WO xs many)=s):(xs.set (VA xs x).toNat (Zz 17 x)).set (WO xs many).toNat (QS (1+x) s)=Ut xs x many:=by
 rw [Ut,Z9 h,hs]
theorem Ke (xs:List Z5):(Za (Zy xs)).length=xs.length*5:=by rw [UB _ (Xu _)];simp
theorem Gq (s:Z5) (r:List Z5):Za (Zy (s::r))=Xw s++Za (Zy r):=by rw [VF,VF];rfl
theorem P8 {xs:List Z5} {k:Nat} {x:Z5} (h:xs[k]? = some x):Za (Zy (xs.take k))++Za [YL x]=Za (Zy (xs.take (k+1))):=by
 rw [WB h,WZ,VT,Gq]
 have:Za (Zy [])=[]:=by rw [VF];rfl
 rw [this];rfl
theorem P9 {xs:List Z5} {i:Nat} {s:Z5} (h:xs[i]? = some s):Za (Zy xs)=Za (Zy (xs.take i))++(Xw s++Za (Zy (xs.drop (i+1)))):=by
 have hi:=(Xj.1 h).1
 have e:xs=xs.take i++(s::xs.drop (i+1)):=by rw [<-Y6 h,Tz]
 conv=>lhs;rw [e,WZ,VT,Gq]
theorem Gr {xs:List Z5} {i:Nat} {s t:Z5} (h:xs[i]? = some s):(Za (Zy xs)).take (i*5)++Xw t++(Za (Zy xs)).drop (i*5+(Xw t).length)=Za (Zy (xs.set i t)):=by
 have hi:=(Xj.1 h).1
 have hl:(Za (Zy (xs.take i))).length=i*5:=by rw [Ke,W2,Vn om]
 rw [P9 h,DP (xs:=Xw s) (ys:=Xw t) hl rfl]
 have e:xs.set i t=xs.take i++(t::xs.drop (i+1)):=by rw [E4,Zg hi]
 rw [e,WZ,VT,Gq]
theorem La {xs:List Z5} {i:Nat} {s:Z5} (h:xs[i]? = some s):((Za (Zy xs)).drop (i*5)).take (Xw s).length=Xw s:=by
 have hi:=(Xj.1 h).1
 have hl:(Za (Zy (xs.take i))).length=i*5:=by rw [Ke,W2,Vn om]
 rw [P9 h]
 exact Mt hl
structure KY (xs:LI) (v:Int) (k:Nat) (acc:LI) (d:Bool):Prop where
 len:acc.length<=k+(if d=true then 1 else 0)
 sub:∀z∈acc,z∈xs.take k∨z=v
 all:∀z∈xs.take k,z∈acc
 done:d=true->v∈acc
theorem KY.zero (xs:LI) (v:Int):KY xs v 0 [] false:=⟨by simp,by simp,by simp,by simp⟩
theorem KY.step {xs:LI} {v:Int} {k:Nat} {acc:LI} {d:Bool} {x:Int} (h:KY xs v k acc d) (hx:xs[k]? = some x) {acc2:LI} {d2:Bool}
  (hc:(acc2=acc++[x]/\d2=d)∨(acc2=(acc++[v])++[x]/\d2=true/\¬d=true)∨(acc2=acc++[x]/\d2=true/\x=v)):KY xs v (k+1) acc2 d2:=by
 obtain ⟨h1,h2,h3,h4⟩:=h
 have ht:∀z,z∈xs.take (k+1)↔z∈xs.take k∨z=x:=fun z=>by rw [WB hx];simp
 rcases hc with ⟨rfl,rfl⟩|⟨rfl,rfl,hd⟩|⟨rfl,rfl,rfl⟩
 ·refine ⟨by simp;omega,fun z hz=>?_,fun z hz=>?_,fun q=>List.mem_append_left _ (h4 q)⟩
  ·rw [ht]
   rcases Xv.1 hz with hz|hz
   ·rcases h2 z hz with q|q
    ·exact .inl (.inl q)
    ·exact .inr q
   ·exact .inl (.inr (XZ.1 hz))
  ·rcases (ht z).1 hz with q|q
   ·exact List.mem_append_left _ (h3 z q)
   ·subst q;simp
 ·rw [Z9 hd] at h1
  refine ⟨by simp;omega,fun z hz=>?_,fun z hz=>?_,fun _=>by simp⟩
  ·rw [ht]
   simp only [Xv,XZ] at hz
   rcases hz with (hz|hz)|hz
   ·rcases h2 z hz with q|q
    ·exact .inl (.inl q)
    ·exact .inr q
   ·exact .inr hz
   ·exact .inl (.inr hz)
  ·rcases (ht z).1 hz with q|q
   ·exact List.mem_append_left _ (List.mem_append_left _ (h3 z q))
   ·subst q;simp
 ·refine ⟨by simp;split at h1<;>omega,fun z hz=>?_,fun z hz=>?_,fun _=>by simp⟩
  ·rw [ht]
   rcases Xv.1 hz with hz|hz
   ·rcases h2 z hz with q|q
    ·exact .inl (.inl q)
    ·exact .inr q
   ·exact .inl (.inr (XZ.1 hz))
  ·rcases (ht z).1 hz with q|q
   ·exact List.mem_append_left _ (h3 z q)
   ·subst q;simp
theorem KY.fin {xs:LI} {v:Int} {k:Nat} {acc:LI} {d:Bool} (h:KY xs v k acc d) (hk:k=xs.length) :
  (d=true->acc.length<=xs.length+1/\∀z,z∈acc↔z∈xs∨z=v)/\(¬d=true->(acc++[v]).length<=xs.length+1/\∀z,z∈acc++[v]↔z∈xs∨z=v):=by
 obtain ⟨h1,h2,h3,h4⟩:=h
 subst hk
 rw [VC] at h2 h3
 refine ⟨fun hd=>?_,fun hd=>?_⟩
 ·rw [Zg hd] at h1
  exact ⟨h1,fun z=>⟨h2 z,fun q=>q.elim (h3 z) fun e=>e▸h4 hd⟩⟩
 ·rw [Z9 hd] at h1
  refine ⟨by simp;omega,fun z=>?_⟩
  rw [Xv,XZ]
  exact ⟨fun q=>q.elim (h2 z) .inr,fun q=>q.elim (fun e=>.inl (h3 z e)) .inr⟩
end Go.Abs
namespace Go.Abs
theorem KY.go {xs:LI} {v:Int} {k:Nat} {acc:LI} {d:Bool} {x:Int} (h:KY xs v k acc d) (hx:xs[k]? = some x) {acc2:LI} {d2:Bool}
  (hc:(acc2=acc/\d2=d)∨(acc2=acc++[v]/\d2=true/\¬d=true)∨(acc2=acc/\d2=true/\x=v)):KY xs v (k+1) (acc2++[x]) d2:=by
 refine h.step hx ?_
 rcases hc with ⟨e1,e2⟩|⟨e1,e2,e3⟩|⟨e1,e2,e3⟩
 ·exact .inl ⟨by rw [e1],e2⟩
 ·exact .inr (.inl ⟨by rw [e1],e2,e3⟩)
 ·exact .inr (.inr ⟨by rw [e1],e2,e3⟩)
section
variable {ds:List Zf} {kept K2:LI} {op num x:Int} {args:LI} {j many:Nat} {kd:Z4}
theorem Zh7 (h8:op=8) (hx:gI args 0=x) (hk:¬x∈kept) (hm:(T8 ds num j).length=many) (hq:¬(VA kd.steps x<0∨WO kd.steps many<0)) (hK:∀z,z∈K2↔z∈kept∨z=x):WL ds K2 (Ug kd x many)=Qj ds kept op num args j kd:=by
 subst hx hm
 have e:∀z,z∈K2↔z∈gI args 0::kept:=fun z=>by rw [hK z,YM];exact Or.comm
 rw [Qj,Zg ⟨h8,hk⟩,H3,Z9 hq,Z0n,Mu kd e]
theorem Zh8 (h8:op=8) (hx:gI args 0=x) (hk:¬x∈kept) (hm:(T8 ds num j).length=many) (hq:VA kd.steps x<0∨WO kd.steps many<0):WL ds kept (Ug kd x many)=Qj ds kept op num args j kd:=by
 subst hx hm
 rw [Qj,Zg ⟨h8,hk⟩,H3,Zg hq,Z0n]
theorem Z0o (h:¬(op=8/\¬gI args 0∈kept)):WL ds kept kd=Qj ds kept op num args j kd:=by rw [Qj,Z9 h]
end
end Go.Abs
namespace Go.Abs
theorem FT:∀{xs:List Z4} {k:Nat} {b:Z4},xs[k]? = some b->Xf (xs.take k)+b.sz<=Xf xs
 | [],_,_,h=>by simp at h
 | x::r,0,b,h=>by simp at h;subst h;simp [Xf]
 | x::r,k+1,b,h=>by
  have:=FT (xs:=r) (k:=k) (by simpa using h)
  rw [CY,Xf,Xf];omega
theorem Io {xs:List Z4} {k:Nat} (h:xs.length<=k):Xf (xs.take k)=Xf xs:=by rw [WM h]
end Go.Abs
end
namespace Go.Abs
theorem Z1w {xs:List Z5} {k:Nat} {s:Z5} (h:xs[k]? = some s):YG (xs.drop k)=s.sz+YG (xs.drop (k+1)):=by rw [Y6 h,YG]
theorem Z1x (xs:List Z5) (k:Nat):YG (xs.drop k)<=YG xs:=by
 have h:=Yr YG (Tz k xs)
 rw [TN] at h;omega
theorem FQ {xs:List Z4} {k:Nat} {b:Z4} (h:xs[k]? = some b):Xf (xs.take (k+1))=Xf (xs.take k)+b.sz:=by rw [WB h,Ee,Xf,Xf];rfl
structure CL (ds:List Zf) (nf m:Nat) (xs:List Z5) (d z:Nat):Prop where
 fs:Tn ds nf m xs
 dn:X7 xs=d
 op:Qg VJ xs
 sz:YG xs<=z
section
variable {ds:List Zf} {nf m d z:Nat} {xs:List Z5}
theorem CL.nil:CL ds nf m [] 0 0:=⟨True.intro,rfl,True.intro,Xa _⟩
theorem CL.len (h:CL ds nf m xs d z):xs.length<=z:=Ww (JD xs) h.sz
theorem CL.le (h:CL ds nf m xs d z) {z2:Nat} (hz:z<=z2):CL ds nf m xs d z2:=⟨h.fs,h.dn,h.op,Ww h.sz hz⟩
theorem Z7t {op v:Int} (ho:op=14∨op=15) (hv:0<=v/\v<(m:Int)):fS ds nf m (Zz op v):=by
 rw [Zz,fS]
 exact ⟨.inr om,fun a ha=>by rw [XZ.1 ha];exact hv,fun _=>⟨rfl,rfl,rfl,v,rfl⟩,fun h=>by omega,fun h=>by omega,fun h=>by omega,fun h=>by omega,by omega,by omega,by simp,fun _=>rfl,True.intro⟩
theorem Oa {op:Int} (ho:op=14∨op=15):Yw op=true:=by simp [Yw];omega
theorem CL.cnt (h:CL ds nf m xs d z) {op v:Int} (ho:op=14∨op=15) (hv:0<=v/\v<((m+d:Nat):Int)):CL ds nf m (xs++[Zz op v]) d (z+2):=by
 have hc:Yw (Zz op v).op=true:=Oa ho
 refine ⟨Gl h.fs (by rw [h.dn];exact Z7t ho hv),?_,Hq h.op ?_,?_⟩
 ·rw [Jv,h.dn,X7,Zg hc];rfl
 ·rw [Fa];exact ⟨by show op<=15;omega,True.intro⟩
 ·have:=h.sz
  have e:(Zz op v).sz=2:=rfl
  rw [TN,YG,e,YG];omega
theorem CL.cnts {op:Int} (ho:op=14∨op=15):∀{vs:LI} {xs:List Z5} {z:Nat},CL ds nf m xs d z->(∀v∈vs,0<=v/\v<((m+d:Nat):Int))->CL ds nf m (xs++vs.map (Zz op)) d (z+2*vs.length)
 | [],xs,z,h,_=>by simpa using h
 | v::r,xs,z,h,hv=>by
  have h1:=CL.cnts ho (vs:=r) (h.cnt ho (hv v (Xl ..))) fun x hx=>hv x (XC _ hx)
  rw [Ve,show xs++Zz op v::r.map (Zz op)=xs++[Zz op v]++r.map (Zz op) by simp]
  exact h1.le (by rw [YR];omega)
theorem CL.one (h:CL ds nf m xs d z) {s:Z5} (hs:fS ds nf (m+d) s) (hc:Yw s.op=false) (ho:Kn VJ s):CL ds nf m (xs++[s]) (d+1) (z+s.sz):=by
 refine ⟨Gl h.fs (by rw [h.dn];exact hs),by rw [Em hc,h.dn],Hq h.op ho,?_⟩
 have:=h.sz
 rw [TN,YG,YG];omega
theorem CL.app (h:CL ds nf m xs d z) {ys:List Z5} {d2 z2:Nat} (h2:CL ds nf (m+d) ys d2 z2):CL ds nf m (xs++ys) (d+d2) (z+z2):=by
 refine ⟨Do.2 ⟨h.fs,by rw [h.dn];exact h2.fs⟩,by rw [Jv,h.dn,h2.dn],Hp.2 ⟨h.op,h2.op⟩,?_⟩
 have:=h.sz
 have:=h2.sz
 rw [TN];omega
end
structure KB (ds:List Zf) (nf m:Nat) (b:Z4) (z:Nat):Prop where
 fb:fB ds nf m b
 op:Vz VJ b
 sz:b.sz<=z
section
variable {ds:List Zf} {nf m d z:Nat} {xs:List Z5}
theorem CL.block (h:CL ds nf m xs d z) {r:Int} (hr:0<=r/\r<((m+d:Nat):Int)):KB ds nf m ⟨xs,r⟩ (1+z):=by
 refine ⟨by rw [fB,h.dn];exact ⟨h.fs,hr⟩,by rw [Vz];exact h.op,?_⟩
 have:=h.sz
 rw [Z4.sz];omega
theorem KB.le {b:Z4} (h:KB ds nf m b z) {z2:Nat} (hz:z<=z2):KB ds nf m b z2:=⟨h.fb,h.op,Ww h.sz hz⟩
theorem KB.cl {b:Z4} (h:KB ds nf m b z):CL ds nf m b.steps (X7 b.steps) (z-1)/\0<=b.result/\b.result<((m+X7 b.steps:Nat):Int):=by
 obtain ⟨h1,h2⟩:=(Ev b).1 h.fb
 refine ⟨⟨h1,rfl,(Ho b).1 h.op,?_⟩,h2⟩
 have:=h.sz
 have:=b.sz_eq
 omega
theorem KB.put {b:Z4} (h:KB ds nf m b z) {as1 bs:LI} (ha:∀v∈as1,0<=v/\v<(m:Int)) (hb:∀v∈bs,0<=v/\v<(m:Int)):KB ds nf m ⟨as1.map (Zz 14)++bs.map (Zz 15)++b.steps,b.result⟩ (z+2*as1.length+2*bs.length):=by
 obtain ⟨h1,h2⟩:=h.cl
 have q1:CL ds nf m ([]++as1.map (Zz 14)) 0 (0+2*as1.length):=CL.nil.cnts (.inl rfl) ha
 have q2:=(q1.cnts (op:=15) (.inr rfl) hb).app h1
 have:=h.sz
 have:=b.sz_eq
 rw [C4,Vf] at q2
 exact (q2.block h2).le om
end
structure KK (ds:List Zf) (nf:Nat) (sc:Nat->Nat) (ks:List Z4) (z:Nat):Prop where
 fb:TX ds nf sc 0 ks
 op:Km VJ ks
 sz:Xf ks<=z
section
variable {ds:List Zf} {nf m z:Nat} {sc:Nat->Nat}
theorem KK.nil:KK ds nf sc [] 0:=⟨True.intro,True.intro,Xa _⟩
theorem KK.snoc {ks:List Z4} {b:Z4} {j z2:Nat} (h:KK ds nf sc ks z) (hj:ks.length=j) (hb:KB ds nf (sc j) b z2):KK ds nf sc (ks++[b]) (z+z2):=by
 refine ⟨OV h.fb (by rw [hj];exact hb.fb),So h.op hb.op,?_⟩
 have:=h.sz
 have:=hb.sz
 rw [Ee];simp only [Xf];omega
theorem KK.le {ks:List Z4} (h:KK ds nf sc ks z) {z2:Nat} (hz:z<=z2):KK ds nf sc ks z2:=⟨h.fb,h.op,Ww h.sz hz⟩
theorem OW {s:Z5} {ks:List Z4} {into:Int} (h:FS ds nf m s) (h11:s.op<=11) (hl:ks.length=s.kids.length) (hi:0<=into/\into<=m) (hk:KK ds nf (UX ds s.op s.num m) ks z):fS ds nf m ⟨s.op,s.num,into,s.args,ks⟩/\Kn VJ ⟨s.op,s.num,into,s.args,ks⟩/\(Z5.mk s.op s.num into s.args ks).sz<=5+z:=by
 refine ⟨?_,?_,?_⟩
 ·rw [fS]
  refine ⟨h.op,h.args,fun q=>by omega,fun q=>by rw [hl];exact h.k7 q,fun q=>by rw [hl];exact h.k8 q,h.one,h.call,h.num,hi,h.alen,fun q=>?_,hk.fb⟩
  have:=h.kn q
  rw [this] at hl
  exact List.eq_nil_of_length_eq_zero hl
 ·rw [Kn];exact ⟨by show s.op<=15;omega,hk.op⟩
 ·have:=h.alen
  have:=hk.sz
  rw [Z5.sz];omega
end
structure KT (ds:List Zf) (nf m:Nat) (st:Z5) (z:Nat):Prop where
 fs:fS ds nf m st
 cb:Yw st.op=false
 op:Kn VJ st
 sz:st.sz<=z
theorem KT.of {ds:List Zf} {nf m z:Nat} {s:Z5} {ks:List Z4} {into:Int} (h:FS ds nf m s) (h11:s.op<=11) (hl:ks.length=s.kids.length) (hi:0<=into/\into<=m) (hk:KK ds nf (UX ds s.op s.num m) ks z):KT ds nf m ⟨s.op,s.num,into,s.args,ks⟩ (5+z):=by
 obtain ⟨h1,h2,h3⟩:=OW h h11 hl hi hk
 exact ⟨h1,by show Yw s.op=false;simp [Yw];omega,h2,h3⟩
theorem CL.kt {ds:List Zf} {nf m d z z2:Nat} {xs:List Z5} {st:Z5} (h:CL ds nf m xs d z) (hs:KT ds nf (m+d) st z2):CL ds nf m (xs++[st]) (d+1) (z+z2):=(h.one hs.fs hs.cb hs.op).le (by have:=hs.sz;omega)
theorem FS.few {ds:List Zf} {nf m:Nat} {s:Z5} (h:FS ds nf m s) (hd:Wt ds):s.kids.length<=3:=by
 by_cases h7:s.op=7
 ·have:=h.k7 h7;omega
 ·by_cases h8:s.op=8
  ·have:=h.k8 h8
   have:=M8 hd s.num
   omega
  ·rw [h.kn ⟨h7,h8⟩];simp
theorem RF.lend {ds:List Zf} {nf q:Nat} {p:Int->Prop} {r:ZH} {l:LI} (h:RF ds nf q p r) (h1:l.length<=3) (h2:∀v∈l,0<=v/\v<(r.params.length:Int)):RF ds nf q p ⟨r.params,l,r.result,r.body⟩:=⟨h.sig,⟨h1,h2⟩,h.body,h.op⟩
theorem RF.with {ds:List Zf} {nf q q2:Nat} {p p2:Int->Prop} {r:ZH} {b:Z4} (h:RF ds nf q p r) (h1:fB ds nf r.params.length b) (h2:b.sz<=q2) (h3:Vz p2 b):RF ds nf q2 p2 ⟨r.params,r.lent,r.result,b⟩:=⟨h.sig,h.lent,⟨h1,h2⟩,h3⟩
theorem Z4.eta (b:Z4):Z4.mk b.steps b.result=b:=by cases b;rfl
theorem LC.at {n:Zp} {k:Nat} {xs:List LI} {i:Nat} {l:LI} {r:ZH} (h:LC n k xs) (hl:xs[i]? = some l) (hr:n.routines[i]? = some r):l.length<=3/\∀v∈l,0<=v/\v<(r.params.length:Int):=⟨(h.ok i l hl).1,(h.ok i l hl).2 r hr⟩
theorem II:∀{xs:List Z5},(∀s∈xs,Kn WY s)->∀k,k<=xs.length->X7 (xs.take k)=k
 | _,_,0,_=>rfl
 | [],_,k+1,h=>absurd h (by simp)
 | x::r,h,k+1,hk=>by
  have h1:=((Fa x).1 (h x (Xl ..))).1
  have hc:Yw x.op=false:=by have:x.op<=11:=h1;simp [Yw];omega
  rw [CY,X7,Z9 (by rw [hc];simp),II (fun s hs=>h s (XC _ hs)) k (by simpa using hk)]
  omega
theorem KB.put1 {ds:List Zf} {nf m z:Nat} {b:Z4} (h:KB ds nf m b z) {op:Int} (ho:op=14∨op=15) {as1:LI} (ha:∀v∈as1,0<=v/\v<(m:Int)):KB ds nf m ⟨as1.map (Zz op)++b.steps,b.result⟩ (z+2*as1.length):=by
 obtain ⟨h1,h2⟩:=h.cl
 have q1:CL ds nf m ([]++as1.map (Zz op)) 0 (0+2*as1.length):=CL.nil.cnts ho ha
 have q2:=q1.app h1
 have:=h.sz
 have:=b.sz_eq
 rw [C4,Vf] at q2
 exact (q2.block h2).le om
theorem FO.fin {n:Zp} {rs:List ZH} {q q2:Nat} {p:Int->Prop} (h:FN n q2) (e:rs.length=n.routines.length) (hr:∀r∈rs,RF n.decls n.routines.length q p r):FO ⟨n.decls,rs⟩ q p/\rs.length=n.routines.length:=
 ⟨FO.all h.decls (by show 1<=rs.length/\rs.length<=4;rw [e];exact h.len) (by show ∀r∈rs,RF n.decls rs.length q p r;rw [e];exact hr),e⟩
theorem KT.le {ds:List Zf} {nf m z z2:Nat} {st:Z5} (h:KT ds nf m st z) (hz:z<=z2):KT ds nf m st z2:=⟨h.fs,h.cb,h.op,Ww h.sz hz⟩
theorem KB.len {ds:List Zf} {nf m z:Nat} {b:Z4} (h:KB ds nf m b z):b.steps.length<=z:=by
 have:=h.sz
 have:=b.sz_eq
 have:=JD b.steps
 omega
end Go.Abs
