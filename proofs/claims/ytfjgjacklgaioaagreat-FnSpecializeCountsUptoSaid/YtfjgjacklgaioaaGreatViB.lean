/-
  A part of the proofs of several laws (see the last file): no condition.
-/
import Derived.Test.YtfjgjacklgaioaaGreatViA
import Derived.Test.YtfjgjacklgaioaaGreatRows
import Derived.Deep.Slices
import Derived.ChangeArms
set_option linter.all false
set_option linter.unusedVariables false
set_option linter.unusedSimpArgs false
set_option linter.unusedSectionVars false
set_option maxRecDepth 10000
set_option maxHeartbeats 4000000
namespace Go.Abs
theorem Ag.mono {w:World} {G G':Yd} {v:Value} {k:Nat} {ls:List AV} (hA:U6 G w w G') (h:Ag w G v k ls):Ag w G' v k ls:=by
 rcases h with ⟨rfl,h0⟩|⟨g,len,cap,cur,el,rfl,h1,h2,h3,h4,h5⟩
 ·exact .inl ⟨rfl,h0⟩
 ·exact .inr ⟨g,len,cap,cur,el,rfl,h1,h2,h3,h4,h5.mono hA⟩
theorem QD.same {w:World} {G G':Yd} {r:Res} (hA:U6 G w w G') (h:QD w G r):QD w G' r:=by
 cases r with
 | obj b ls=>obtain ⟨cs,e,h1,h2⟩:=h;exact ⟨cs,e,h1,h2.mono hA⟩
 | tail v k=>exact h
 | ge s=>exact h
 | vec v ls=>
  rcases h with ⟨rfl,h0⟩|⟨g,cap,cur,el,rfl,h1,h2,h3,h4⟩
  ·exact .inl ⟨rfl,h0⟩
  ·exact .inr ⟨g,cap,cur,el,rfl,h1,h2,h3,h4.mono hA⟩
 | many ts=>exact h
 | own B m=>exact h
 | row v k ls=>exact h.mono hA
theorem Yw.alloc_rrow {w:World} {G:Yd} {h:List Res} (hh:Yw w G h) (cs:Array Value) (t:TypeId) {ls:List AV} {len cap k:Nat} (hcap:len<=cap) (Xu:cs.size=cap*k) (hl:ls.length=len*k)
  (hls:YV w G ls (cs.toList.take (len*k))) :
  Yw (w.alloc (.cells cs t)) G (.row (.slice (some ⟨w.heap.size,0,none⟩) len cap) k ls::h)/\YY w G h (w.alloc (.cells cs t)) G (.row (.slice (some ⟨w.heap.size,0,none⟩) len cap) k ls::h):=by
 have hA:U6 G w (w.alloc (.cells cs t)) G:=⟨fun b j hg=>Ea w _ (hh.lt b j hg),fun _ _ h=>h⟩
 refine hh.alloc (.cells cs t) (h':=[.row (.slice (some ⟨w.heap.size,0,none⟩) len cap) k ls]) (fun _ _ h=>h) (fun _ _ h=>.inl h) ?_ ?_ (C4 _ _) ?_
 ·intro r hr
  rw [XK.1 hr]
  exact .inr ⟨_,len,cap,cs,t,rfl,Dm w _,hcap,Xu,hl,hls.mono hA⟩
 ·intro r hr b j hf
  rw [XK.1 hr] at hf
  exact hf
 ·intro r hr b j hf hg
  rw [XK.1 hr] at hf
  have:=hh.lt b j hg
  have:b=w.heap.size:=hf
  omega
theorem Yw.rwrite {w:World} {G:Yd} {h2:List Res} {g len cap k:Nat} {ls ls':List AV} (hh:Yw w G (.row (.slice (some ⟨g,0,none⟩) len cap) k ls::h2)) {cs cs':Array Value} {e:TypeId}
  (hb:w.heap[g]? = some (.cells cs e (0,0))) (Xu:cs'.size=cs.size) (hle:len<=cap) (hcap:cs.size=cap*k) (hl:ls'.length=len*k) (hls:YV w G ls' (cs'.toList.take (len*k))) :
  Yw (w.setRow g cs') G (.row (.slice (some ⟨g,0,none⟩) len cap) k ls'::h2) /\
   YY w G (.row (.slice (some ⟨g,0,none⟩) len cap) k ls::h2) (w.setRow g cs') G (.row (.slice (some ⟨g,0,none⟩) len cap) k ls'::h2):=by
 have hmem:Res.row (.slice (some ⟨g,0,none⟩) len cap) k ls∈Res.row (.slice (some ⟨g,0,none⟩) len cap) k ls::h2:=Xf ..
 have hA:U6 G w (w.setRow g cs') G:=⟨fun c j hg=>by
  have hne:c≠g:=fun he=>hh.prot _ hmem c j he hg
  simp [World.cell?,U4 w g c cs' hne],fun _ _ h=>h⟩
 have hpw:=Vj.1 hh.apart
 have hother:∀r∈h2,∀c j,r.fp c j->c≠g:=fun r hr c j hf hc=>hpw.1 r hr c j hc hf
 have e1:YY w G [.row (.slice (some ⟨g,0,none⟩) len cap) k ls] (w.setRow g cs') G [.row (.slice (some ⟨g,0,none⟩) len cap) k ls']:=by
  refine ⟨rfl,rfl,rfl,by simp [World.setRow],fun _ _ h=>h,?_,fun _ _ _ h=>.inl h,?_⟩
  ·intro c hc
   by_cases hcb:c=g
   ·subst hcb
    exact .inr ⟨cs,cs',e,(0,0),hb,setRow_heap w c cs cs' e (0,0) hb,Xu,fun j hj=>absurd ⟨_,Xf ..,rfl⟩ hj⟩
   ·exact .inl (U4 w g c cs' hcb)
  ·rintro c j _ ⟨r,hr,hf⟩
   rw [XK.1 hr] at hf
   exact ⟨_,Xf ..,hf⟩
 have e2:Yw (w.setRow g cs') G [.row (.slice (some ⟨g,0,none⟩) len cap) k ls']:=by
  refine ⟨fun r hr=>?_,C4 _ _,fun r hr c j hf hg=>?_,fun c j hg=>?_⟩
  ·rw [XK.1 hr]
   exact .inr ⟨g,len,cap,cs',e,rfl,setRow_heap w g cs cs' e (0,0) hb,hle,Xu.trans hcap,hl,hls.mono hA⟩
  ·rw [XK.1 hr] at hf
   exact hh.prot _ hmem c j hf hg
  ·have:=hh.lt c j hg
   simpa [World.setRow] using this
 exact Yw.frame (h:=[.row (.slice (some ⟨g,0,none⟩) len cap) k ls]) (k:=h2) hh e1 e2
theorem Zgw {w:World} {G:Yd} {h:List Res} {k:Nat} (hh:Yw w G h):Yw w G (.row (.slice none 0 0) k []::h)/\YY w G h w G (.row (.slice none 0 0) k []::h):=
 ⟨⟨fun r hr=>by
   rcases YH.1 hr with rfl|hr
   ·exact .inl ⟨rfl,rfl⟩
   ·exact hh.ok r hr,Vj.2 ⟨fun _ _ _ _ hf=>hf.elim,hh.apart⟩,fun r hr b o hf hg=>by
   rcases YH.1 hr with rfl|hr
   ·exact hf.elim
   ·exact hh.prot r hr b o hf hg,hh.lt⟩,
  ⟨rfl,rfl,rfl,YU _,fun _ _ h=>h,fun _ _=>.inl rfl,fun _ _ _ h=>.inl h,fun b o _ ⟨r,hr,hf⟩=>by
   rcases YH.1 hr with rfl|hr
   ·exact hf.elim
   ·exact ⟨r,hr,hf⟩⟩⟩
theorem Ag.form {w:World} {G:Yd} {v:Value} {k:Nat} {ls:List AV} (h:Ag w G v k ls):∃a len cap,v=.slice a len cap/\ls.length=len*k:=by
 rcases h with ⟨rfl,rfl⟩|⟨g,len,cap,cur,e,rfl,_,_,_,h4,_⟩
 ·exact ⟨none,0,0,rfl,by simp⟩
 ·exact ⟨_,len,cap,rfl,h4⟩
theorem CA {w:World} {G:Yd} {v:Value} {k:Nat} {es:List AV} {h2:List Res} (hh:Yw w G (.row v k (Zi es)::h2)) (hes:∀y∈es,y.leaves.length=k) (hk:0<k) :
  ∃G',Yw w G' (.tail v k::h2)/\YY w G (.row v k (Zi es)::h2) w G' (.tail v k::h2)/\RV w G' (.sl es (some v)) v:=by
 have hpw:=Vj.1 hh.apart
 have hfl:=UX es hes
 rcases hh.ok _ (Xf ..) with ⟨rfl,h0⟩|⟨g,len,cap,cur,e,rfl,h1,h3,h4,h5,h6⟩
 ·have hes0:es=[]:=by
   cases es with
   | nil=>rfl
   | cons y r=>
    have h7:0<(r.length+1)*k:=Nat.mul_pos om hk
    rw [h0,YW] at hfl
    rw [<-hfl] at h7
    simp at h7
  subst hes0
  obtain ⟨k1,k2⟩:=MX (sz:=k) (hh.sub (AF _ _))
  refine ⟨G,k1,⟨rfl,rfl,rfl,YU _,fun _ _ h=>h,fun _ _=>.inl rfl,fun _ _ _ h=>.inl h,?_⟩,.nil (by simp)⟩
  rintro b o _ ⟨r,hr,hf⟩
  rcases YH.1 hr with rfl|hr
  ·exact hf.elim
  ·exact ⟨r,Xr _ hr,hf⟩
 ·have hlen:len=es.length:=HQ hk (h5.symm.trans hfl)
  subst hlen
  let G':Yd:=fun b o=>G b o∨(b=g/\o<es.length*k)
  have hA:U6 G w w G':=⟨fun _ _ _=>rfl,fun _ _ h=>.inl h⟩
  have hmem:Res.row (.slice (some ⟨g,0,none⟩) es.length cap) k (Zi es)∈Res.row (.slice (some ⟨g,0,none⟩) es.length cap) k (Zi es)::h2:=Xf ..
  refine ⟨G',⟨fun r hr=>?_,Vj.2 ⟨fun r hr b o f1 f2=>hpw.1 r hr b o f1.1 f2,hpw.2⟩,fun r hr b o hf hg=>?_,fun b o hg=>?_⟩,
   ⟨rfl,rfl,rfl,YU _,fun _ _ h=>.inl h,fun _ _=>.inl rfl,fun b o _ hg=>hg.imp id fun ⟨e1,_⟩=>⟨_,hmem,e1⟩,?_⟩,?_⟩
  ·rcases YH.1 hr with rfl|hr
   ·exact .inr ⟨g,es.length,cap,cur,e,rfl,h1,h3,h4⟩
   ·exact (hh.ok r (Xr _ hr)).same hA
  ·rcases YH.1 hr with rfl|hr2
   ·obtain ⟨hbg,hf2⟩:=hf
    rcases hg with hg|⟨_,hg⟩
    ·exact hh.prot _ hmem b o hbg hg
    ·omega
   ·rcases hg with hg|⟨hbg,_⟩
    ·exact hh.prot r (Xr _ hr2) b o hf hg
    ·exact hpw.1 r hr2 b o hbg hf
  ·rcases hg with hg|⟨rfl,_⟩
   ·exact hh.lt b o hg
   ·exact (T5.1 h1).1
  ·rintro b o _ ⟨r,hr,hf⟩
   rcases YH.1 hr with rfl|hr
   ·exact ⟨_,hmem,hf.1⟩
   ·exact ⟨r,Xr _ hr,hf⟩
  ·refine .sl (k:=k) (fun x hx=>by cases hx;rfl) h3 (Vd.of_flat es hes (WD.of_cells (h6.mono hA) fun j u hj=>?_))
   have hjl:j<es.length*k:=by
    have:=(Xq.1 hj).1
    have h7:=h6.length
    omega
   rw [Qf,Ze hjl] at hj
   refine ⟨?_,.inr ⟨rfl,by omega⟩⟩
   rw [Vl,cell_of_row w g j cur e (0,0) h1]
   simpa using hj
section
variable {P:Program} {n:Nat} {ops:Array Oper} {B:Fr->List Res->Prop} {k:Nat} {F:Fr} {h h2:List Res}
theorem HA {k:Nat}:Tp h (.row (.slice none 0 0) k []::h):=fun _ _ hh=>let ⟨a,b⟩:=Zgw hh;⟨_,a,b⟩
theorem Zju (j:Nat) {v:Value} {kk m:Nat} {ls:List AV} (hl:Dt P ops F k=some (.val v)) (hj:h[j]? = some (.row v kk ls)) (hm:ls.length=m*kk) (hk:0<kk):Xy P (ZA ops k) F h [] (.val (.int .i64 m)):=by
 unfold Dt at hl
 generalize hoo:ZA ops k=o at hl
 obtain ⟨dst,op,type,pos,after,guard⟩:=o
 cases op<;>simp only at hl<;>try (cases hl)
 rename_i c
 obtain ⟨callee,args,tys⟩:=c
 simp only at hl
 split at hl
 ·rename_i x t hargs htys
  split at hl
  ·rename_i el hu
   simp only [Wm] at hl
   intro n w G a hF hh
   have hv:=hF.ev x
   rw [hl] at hv
   have hv:=hv.val_inv
   obtain ⟨ad,len,cap,rfl,hlen⟩:=Ag.form (hh.ok _ (Y0 hj))
   have:len=m:=HQ hk (hlen.symm.trans hm)
   subst this
   have e1:args=#[x]:=by rw [<-Uk (xs:=args),hargs]
   have e2:tys=#[t]:=by rw [<-Uk (xs:=tys),htys]
   subst e1;subst e2
   exact ⟨_,.val,fun w' _ _=>by simp [execOp,resolve,invoke,builtin,hv,Builtin.len_,VG hu,goInt]⟩
  ·cases hl
 ·cases hl
def LU (ops:Array Oper) (F:Fr) (k:Nat):Option (TypeId × AV):=
 match (ZA ops k).op with
 | .load t x=>some (t,F.ev x)
 | _=>none
theorem Zjv (j:Nat) {g len cap kk o:Nat} {ls zs:List AV} {t:TypeId} {y:AV} (hl:LU ops F k=some (t,.val (.pointer (some ⟨g,o,none⟩)))) (hj:h[j]? = some (.row (.slice (some ⟨g,0,none⟩) len cap) kk ls))
  (hz:(ls.drop o).take zs.length=zs) (hy:Ba P t zs=some y):Xy P (ZA ops k) F h [g] y:=by
 unfold LU at hl
 generalize hoo:ZA ops k=q at hl
 obtain ⟨dst,op,type,pos,after,guard⟩:=q
 cases op<;>simp only at hl<;>try (cases hl)
 rename_i t' x
 intro n w G a hF hh
 simp only [Wm,Prod.mk.injEq] at hl
 obtain ⟨rfl,hl⟩:=hl
 have hv:=hF.ev x
 rw [hl] at hv
 have hv:=hv.val_inv
 rcases hh.ok _ (Y0 hj) with ⟨h0,_⟩|⟨g',len',cap',cur,e,h0,h1,h2,h3,h4,h5⟩
 ·cases h0
 ·cases h0
  have hc:=(h5.drop o).take zs.length
  rw [hz] at hc
  obtain ⟨v,j1,j2⟩:=Hk (P:=P) (b:=g) (o:=o) hy hc
  refine ⟨v,j1,fun w' _ hw=>?_⟩
  have hrow:=hw g (by simp)
  rw [h1] at hrow
  simp only [execOp,hv]
  refine Vi ?_
  simp only [Instr.loadAt,Instr.sureAddr,Sem.run_bind,Sem.run_pure,Result.andThen_ok]
  refine j2 w' fun j u hj=>?_
  rw [cell_of_row w' g (o+j) cur e (0,0) hrow]
  rw [Qf] at hj
  split at hj
  ·rw [CK,Qf] at hj
   split at hj
   ·simpa using hj
   ·cases hj
  ·cases hj
theorem St {K:Fr->List Res->Prop} {g len cap kk:Nat} {ls xs:List AV} {i:Nat} (hs:storeAt P ops F k=some (g,i,xs)) (hlt:i+xs.length<=ls.length)
  (hK:K F (.row (.slice (some ⟨g,0,none⟩) len cap) kk (ls.take i++xs++ls.drop (i+xs.length))::h2)):WI P n (ZA ops k) F (.row (.slice (some ⟨g,0,none⟩) len cap) kk ls::h2) K:=by
 unfold storeAt at hs
 generalize hoo:ZA ops k=q at hs
 obtain ⟨dst,op,type,pos,after,guard⟩:=q
 cases op<;>simp only at hs<;>try (cases hs)
 rename_i t x z
 split at hs
 ·rename_i b' o' inf hx hi
  split at hs
  ·rename_i hc
   simp only [W5] at hc
   simp only [Wm,Prod.mk.injEq] at hs
   obtain ⟨rfl,rfl,hz⟩:=hs
   intro Q w G a hF hh
   have hvx:=hF.ev x
   rw [hx] at hvx
   have hvx:=hvx.val_inv
   have hvy:=hF.ev z
   have hcs:=hvy.cells hc.2.1
   rw [hz] at hcs hc
   have hone:=hcs.one_cells hc.2.2
   have Xu:inf.size=xs.length:=UO hc.1
   have hlen:(a.eval z).cells.size=xs.length:=by have:=hcs.length;simpa using this
   rcases hh.ok (.row (.slice (some ⟨b',0,none⟩) len cap) kk ls) (Xf ..) with ⟨h0,_⟩|⟨g',len',cap',cur,e,h0,h1,h2',h3,h4,h5⟩
   ·cases h0
   ·cases h0
    have hlc:len*kk<=cap*kk:=Kh _ h2'
    have hst:=run_storeCells_at P b' o' e (a.eval z).cells.toList 0 cur w h1 (by simp [hlen];omega) hone
    simp only [DW,Jf] at hst
    have hr:(execOp a.eval { dst:=none,op:=.store t x z,type:=type,pos:=pos,after:=after,guard:=guard }).run P w =
      .ok .skip (w.setRow b' (cur.toList.take o'++(a.eval z).cells.toList++cur.toList.drop (o'+(a.eval z).cells.size)).toArray):=by
     simp only [execOp,hvx]
     simp [Instr.storeAt,Instr.sureAddr,storeVar,QZ hi,hlen,Xu,hst]
    unfold Oper.wp
    rw [hr]
    have hcl:(a.eval z).cells.toList.length=xs.length:=by simpa using hlen
    obtain ⟨j1,j2⟩:=hh.rwrite (ls':=ls.take o'++xs++ls.drop (o'+xs.length)) (cs':=(cur.toList.take o'++(a.eval z).cells.toList++cur.toList.drop (o'+(a.eval z).cells.size)).toArray) h1
     (by simp [hlen];omega) h2' h3 (by simp;omega) (by
      rw [DV,hlen]
      have e1:(cur.toList.take o'++(a.eval z).cells.toList++cur.toList.drop (o'+xs.length)).take (len*kk) =
        (cur.toList.take (len*kk)).take o'++(a.eval z).cells.toList++(cur.toList.take (len*kk)).drop (o'+xs.length):=by
       have q1:(cur.toList.take o'++(a.eval z).cells.toList).length=o'+xs.length:=by simp [hlen];omega
       rw [List.take_append,q1,VA om,List.take_take,Ul om,List.drop_take]
      rw [e1]
      exact ((h5.take o').append hcs).append (h5.drop _))
    refine ⟨F,_,G,hK,?_,j1,j2⟩
    have:=hF.mono (j2.agree hh)
    simpa [Act.put] using this
  ·cases hs
 ·cases hs
theorem Zfe {K:Fr->List Res->Prop} {sz:Nat} (hd:VD n (ZA ops k)=true) (ha:Q0 P ops F k=some ([],0,sz))
  (hK:∀g,K (F.put (ZA ops k).dst (.val (.slice (some ⟨g,0,none⟩) 0 0))) (.row (.slice (some ⟨g,0,none⟩) 0 0) sz []::h)):WI P n (ZA ops k) F h K:=by
 unfold Q0 at ha
 generalize hoo:ZA ops k=q at ha hd hK
 obtain ⟨dst,op,type,pos,after,guard⟩:=q
 cases op<;>simp only at ha<;>try (cases ha)
 rename_i t ln parts
 split at ha
 case h_2=>cases ha
 rename_i e ht
 split at ha
 case h_2=>cases ha
 rename_i i hi
 split at ha
 case h_2=>cases ha
 rename_i hc
 simp only [W5] at hc
 split at ha
 case h_2=>cases ha
 rename_i ls' hf
 simp only [Wm,Prod.mk.injEq] at ha
 obtain ⟨rfl,rfl,Xu⟩:=ha
 intro Q w G a hF hh
 obtain ⟨cs,h1,h2⟩:=Hh hF parts ht hi rfl hc.1 hc.2 hf
 have hr:(execOp a.eval { dst:=dst,op:=.buildSlice t 0 parts,type:=type,pos:=pos,after:=after,guard:=guard }).run P w =
   .ok (.value (.slice (some ⟨w.heap.size,0,none⟩) 0 0)) (w.alloc (.cells cs e)):=by
  simp only [execOp]
  exact Vi h2
 unfold Oper.wp
 rw [hr]
 have hlc:=h1.length
 simp only [Jf] at hlc
 obtain ⟨j1,j2⟩:=hh.alloc_rrow cs e (ls:=[]) (len:=0) (cap:=0) (k:=sz) (YU _) (by simpa using hlc) (by simp) (by simpa using YV.nil)
 exact ⟨_,_,G,hK _,(hF.mono (j2.agree hh)).put (UU hd) .val,j1,j2⟩
theorem Zfc {K:Fr->List Res->Prop} {g sz:Nat} {xs:List AV} {hx:Option Value} (hd:VD n (ZA ops k)=true) (ha:UQ P ops F k=some (.val (.slice (some ⟨g,0,none⟩) 0 0),.sl xs hx,sz))
  (hxs:∀y∈xs,y.leaves.length=sz) (hbound:xs.length<=4294967296)
  (hK:∀v:Hd,K (F.put (ZA ops k).dst (.val v.v)) (.row v.v sz (Zi xs)::h2)):WI P n (ZA ops k) F (.row (.slice (some ⟨g,0,none⟩) 0 0) sz []::h2) K:=by
 unfold UQ at ha
 generalize hoo:ZA ops k=o at ha hd hK
 obtain ⟨dst,op,type,pos,after,guard⟩:=o
 cases op<;>simp only at ha<;>try (cases ha)
 rename_i c
 obtain ⟨callee,args,tys⟩:=c
 simp only at ha
 split at ha
 case h_2=>cases ha
 rename_i s x t t' hargs htys
 split at ha
 case h_2=>cases ha
 rename_i e htt ht
 have:=UO htt
 subst this
 split at ha
 case h_2=>cases ha
 rename_i i hinfo
 split at ha
 case h_2=>cases ha
 rename_i z hz
 split at ha
 case h_2=>cases ha
 rename_i hb
 simp only [W5] at hb
 simp only [Wm,Prod.mk.injEq] at ha
 obtain ⟨h3,h4,hk1⟩:=ha
 have e1:args=#[s,x]:=by rw [<-Uk (xs:=args),hargs]
 have e2:tys=#[t,t]:=by rw [<-Uk (xs:=tys),htys]
 subst e1;subst e2
 have hzs:z.cells.size=sz:=by rw [UO hb.1,hk1]
 have hby:=Vk hb.2
 intro Q w G a hF hh
 have v1:=hF.ev s
 have v2:=hF.ev x
 rw [h3] at v1
 rw [h4] at v2
 have v1:=v1.val_inv
 have v2:=v2.forget
 have finish:∀(v':Hd) w',(Builtin.append_ #[t,t] type #[.slice (some ⟨g,0,none⟩) 0 0,a.eval x]).run P w=.ok v'.v w'->Yw w' G (.row v'.v sz (Zi xs)::h2) ->
   YY w G (.row (.slice (some ⟨g,0,none⟩) 0 0) sz []::h2) w' G (.row v'.v sz (Zi xs)::h2) ->
   ({ dst:=dst,op:=.call { callee:=.builtin .append,args:=#[s,x],argTypes:=#[t,t] },type:=type,pos:=pos,after:=after,guard:=guard }:Oper).wp P a w
    (fun a' w'=>∃F' h' G',K F' h'/\FR w' G' n F' a'/\Yw w' G' h'/\YY w G (.row (.slice (some ⟨g,0,none⟩) 0 0) sz []::h2) w' G' h') Q:=by
  intro v' w' hr j1 j2
  have hrun:(execOp a.eval { dst:=dst,op:=.call { callee:=.builtin .append,args:=#[s,x],argTypes:=#[t,t] },type:=type,pos:=pos,after:=after,guard:=guard }).run P w=.ok (.value v'.v) w':=by
   simp only [execOp,resolve,invoke,builtin,Sem.run_bind,Sem.run_pure,Result.andThen_ok,C3,Vt,AE,v1,hr]
  unfold Oper.wp
  rw [hrun]
  exact ⟨_,_,G,hK v',(hF.mono (j2.agree hh)).put (UU hd) .val,j1,j2⟩
 by_cases hxe:xs=[]
 ·subst hxe
  cases v2q:a.eval x with
  | slice ad' l' c'=>
   rw [v2q] at v2
   cases v2<;>exact finish ⟨some ⟨g,0,none⟩,0,0⟩ _ (by rw [v2q];exact DE ht hinfo (YU _) w) hh (YY.refl w G _)
  | _=>rw [v2q] at v2;cases v2
 ·generalize hax:a.eval x=ax at v2 finish
  cases v2 with
  | nil _=>exact absurd rfl hxe
  | sl hq hcc hm=>
   rename_i b o' k' c
   have hpos:0<xs.length:=Fv.2 hxe
   have hfm:=hm.flat_mem
   obtain ⟨news,hn,hnc⟩:=hfm.cells
   have hfl:=UX xs hxs
   have hnl:news.length=xs.length*i.size:=by rw [hn.length,hfl,hk1]
   have hnews:∀j u,news[j]? = some u->w.cell? ((⟨b,o',none⟩:Addr).add j)=some u:=fun j u hj=>by rw [Jk];exact (hnc j u hj).1
   have hbb:(0+xs.length)*i.bytes<=140737488355328:=by
    have:=Nat.mul_le_mul hbound hby
    rw [Vl]
    omega
   have hr:=run_append_grow (P:=P) w t type e i z ht hinfo hz ⟨g,0,none⟩ 0 0 [] (by simp) (fun j u hj=>by simp at hj) ⟨b,o',none⟩ xs.length c news hnl hnews om om (growslice_fits om hbb)
   simp only [Vl] at hr
   have Xo:=grownCap_ge w xs.length 0 e
   obtain ⟨j1,j2⟩:=hh.drew.alloc_rrow ([].toArray++news.toArray++Builtin.zeroCells z.cells (grownCap w xs.length 0 e-xs.length)) e
    (ls:=Zi xs) (len:=xs.length) (cap:=grownCap w xs.length 0 e) (k:=sz) Xo
    (by
     have q2:(grownCap w xs.length 0 e-xs.length)*sz=grownCap w xs.length 0 e*sz-xs.length*sz:=Nat.sub_mul ..
     have q3:xs.length*sz<=grownCap w xs.length 0 e*sz:=Kh _ Xo
     simp only [Array.size_append,DU,size_zeroCells,hzs,XJ,Vl,hnl,hk1]
     omega) hfl
    (by
     have q1:([].toArray++news.toArray++Builtin.zeroCells z.cells (grownCap w xs.length 0 e-xs.length)).toList.take (xs.length*sz)=news:=by
      simp only [DT,Bn]
      rw [<-hk1,<-hnl]
      exact AG
     rw [q1]
     exact hn.mono (Bw w G))
   have hs:List.Sublist (.row (.slice (some ⟨w.drew.heap.size,0,none⟩) xs.length (grownCap w xs.length 0 e)) sz (Zi xs)::h2)
     (.row (.slice (some ⟨w.drew.heap.size,0,none⟩) xs.length (grownCap w xs.length 0 e)) sz (Zi xs)::.row (.slice (some ⟨g,0,none⟩) 0 0) sz []::h2):=List.Sublist.cons_cons _ (AF _ _)
   exact finish ⟨some ⟨w.heap.size,0,none⟩,xs.length,grownCap w xs.length 0 e⟩ _ hr (j1.sub hs) ((YY.drew w G _).trans (j2.sub' hs))
theorem Z0b {w:World} {G:Yd} {v:Hd} {kk m:Nat} {ls:List AV} (h:Ag w G v.v kk ls) (hm:ls.length=m*kk) (hk:0<kk) (h0:0<m):∃g c,v=⟨some ⟨g,0,none⟩,m,c⟩:=by
 obtain ⟨a,l,c⟩:=v
 rcases h with ⟨h1,h2⟩|⟨g,len,cap,cur,e,h1,h2,h3,h4,h5,h6⟩
 ·subst h2
  have:=Nat.mul_pos h0 hk
  rw [XJ] at hm
  omega
 ·cases h1
  have:l=m:=HQ hk (h5.symm.trans hm)
  subst this
  exact ⟨g,c,rfl⟩
theorem Z3o (j m:Nat) {v:Hd} {kk:Nat} {ls:List AV} {c:Code} {A:V5} (hj:h[j]? = some (.row v.v kk ls)) (hm:ls.length=m*kk) (hk:0<kk) (h0:0<m)
  (H:∀g c',v=⟨some ⟨g,0,none⟩,m,c'⟩->Yv P n c A F h):Yv P n c A F h:=by
 intro w G a hF hh
 obtain ⟨g,c',e⟩:=Z0b (hh.ok _ (Y0 hj)) hm hk h0
 exact H g c' e w G a hF hh
theorem Z3n (t j:Nat) {v:Hd} {kk:Nat} {es:List AV} {c:Code} {A:V5} (hF':F.get t=.h v) (hp:Wr [j] h=some [.row v.v kk (Zi es)]) (hes:∀y∈es,y.leaves.length=kk) (hk:0<kk)
  (H:Yv P n c A ((t,.sl es (some v.v))::F) (.tail v.v kk::XM [j] h)):Yv P n c A F h:=by
 intro w G a hF hh
 have hp':=Ux (VO hp)
 obtain ⟨G',h1,h2',h3⟩:=CA (hh.perm hp') hes hk
 have e:=h2'.perm hp'.symm (K1 _)
 have hF2:=hF.mono (e.agree hh)
 have hv:=hF2.get t
 rw [hF'] at hv
 have hv:=hv.val_inv
 refine wp_mono (H w G' a ⟨hF2.defers,hF2.size,fun s=>?_⟩ h1) fun e' a' w' hc=>hc.trans e
 show RV w G' (match Nat.beq t s with|true=>_|false=>Fr.get F s) _
 cases hb:Nat.beq t s with
 | true=>
  have:=UO hb
  subst this
  rw [hv]
  exact h3
 | false=>exact hF2.get s
theorem Z2j (j i p:Nat) {u v:Value} {kk kv:Nat} {es ls:List AV} (hp:Wr [j,i] h=some [.row u kk (Zi es),.row v kv ls]) (hes:∀y∈es,y.leaves.length=kk) (hk:0<kk) (hl:ls[p]? = some (.val u)) :
  Tp h (.row v kv (ls.set p (.sl es (some u)))::.tail u kk::XM [j,i] h):=by
 intro w G hh
 have hp':=Ux (VO hp)
 have hh':=hh.perm hp'
 obtain ⟨G',h1,h2',h3⟩:=CA (h2:=.row v kv ls::XM [j,i] h) hh' hes hk
 have e:=h2'.perm hp'.symm (K1 _)
 have h1:Yw w G' (.tail u kk::.row v kv ls::XM [j,i] h):=h1
 have perm:(Res.tail u kk::.row v kv ls::XM [j,i] h).Perm (.row v kv ls::.tail u kk::XM [j,i] h):=List.Perm.swap ..
 have h4:=h1.perm perm
 have e4:=e.perm (K1 _) perm
 have hset:∀{w:World} {G:Yd},RV w G (.sl es (some u)) u->Ag w G v kv ls->Ag w G v kv (ls.set p (.sl es (some u))):=by
  intro w G hu hr
  rcases hr with ⟨rfl,h0⟩|⟨g,len,cap,cur,el,rfl,k1,k2,k3,k4,k5⟩
  ·exact .inl ⟨rfl,by rw [h0];rfl⟩
  ·refine .inr ⟨g,len,cap,cur,el,rfl,k1,k2,k3,by rw [TN];exact k4,?_⟩
   obtain ⟨c,c1,c2⟩:=k5.get p _ hl
   have:=c2.val_inv
   subst this
   have h6:=k5.set p hu
   rwa [show (cur.toList.take (len*kv)).set p c=cur.toList.take (len*kv) from by
    apply List.ext_getElem?
    intro q
    rw [List.getElem?_set]
    split
    ·rename_i hq;subst hq;split
     ·exact c1.symm
     ·rename_i hq2;rw [CM om]
    ·rfl] at h6
 refine ⟨G',⟨fun r hr=>?_,?_,fun r hr=>?_,h4.lt⟩,⟨e4.os,e4.tape,e4.output,e4.size,e4.sub,e4.same,e4.newG,fun b o hb ⟨r,hr,hf⟩=>e4.newfp b o hb ?_⟩⟩
 ·rcases YH.1 hr with rfl|hr
  ·exact hset h3 (h4.ok _ (Xf ..))
  ·exact h4.ok r (Xr _ hr)
 ·have:=Vj.1 h4.apart
  refine Vj.2 ⟨fun r hr b o f1 f2=>this.1 r hr b o ?_ f2,this.2⟩
  cases v with
  | slice a _ _=>cases a with
   | none=>exact f1.elim
   | some a=>exact f1
  | _=>exact f1.elim
 ·rcases YH.1 hr with rfl|hr
  ·intro b o f1 hg
   refine h4.prot (.row v kv ls) (Xf ..) b o ?_ hg
   cases v with
   | slice a _ _=>cases a with
    | none=>exact f1.elim
    | some a=>exact f1
   | _=>exact f1.elim
  ·exact h4.prot r (Xr _ hr)
 ·rcases YH.1 hr with rfl|hr
  ·refine ⟨.row v kv ls,Xf ..,?_⟩
   cases v with
   | slice a _ _=>cases a with
    | none=>exact hf.elim
    | some a=>exact hf
   | _=>exact hf.elim
  ·exact ⟨r,Xr _ hr,hf⟩
def Km:List Res->Option (List (Value × Nat))
 | []=>some []
 | .tail v k::r=>(Km r).map ((v,k)::·)
 | .many ts::r=>(Km r).map (ts++·)
 | _=>none
theorem Cd {b o:Nat}:∀{hs:List Res} {L:List (Value × Nat)},Km hs=some L->((∃p∈L,Fi p.1 p.2 b o)↔Vf hs b o)
 | [],L,h=>by cases h;simp [Vf]
 | .tail v k::r,L,h=>by
  rw [Km] at h
  cases hr:Km r with
  | none=>rw [hr] at h;cases h
  | some L'=>
   rw [hr] at h
   cases h
   have ih:=Cd (b:=b) (o:=o) hr
   have ht:Res.fp (.tail v k) b o↔Fi v k b o:=by
    cases v with
    | slice a _ _=>cases a<;>exact Iff.rfl
    | _=>exact Iff.rfl
   simp only [Vf,YH,exists_eq_or_imp] at ih ⊢
   rw [ht,ih]
 | .many ts::r,L,h=>by
  rw [Km] at h
  cases hr:Km r with
  | none=>rw [hr] at h;cases h
  | some L'=>
   rw [hr] at h
   cases h
   have ih:=Cd (b:=b) (o:=o) hr
   simp only [Vf,YH,exists_eq_or_imp] at ih ⊢
   rw [<-ih]
   simp only [Xi,Res.fp]
   constructor
   ·rintro ⟨p,hp|hp,hf⟩
    ·exact .inl ⟨p,hp,hf⟩
    ·exact .inr ⟨p,hp,hf⟩
   ·rintro (⟨p,hp,hf⟩|⟨p,hp,hf⟩)
    ·exact ⟨p,.inl hp,hf⟩
    ·exact ⟨p,.inr hp,hf⟩
 | .obj _ _::_,_,h=>by cases h
 | .ge _::_,_,h=>by cases h
 | .vec _ _::_,_,h=>by cases h
 | .own _ _::_,_,h=>by cases h
 | .row _ _ _::_,_,h=>by cases h
theorem Ie {w:World} {G:Yd}:∀{hs:List Res} {L:List (Value × Nat)},Km hs=some L->(∀r∈hs,QD w G r)->hs.Pairwise AK->QD w G (.many L)
 | [],L,h,_,_=>by cases h;exact ⟨by simp,.nil⟩
 | .tail v k::r,L,h,h1,h2=>by
  rw [Km] at h
  cases hr:Km r with
  | none=>rw [hr] at h;cases h
  | some L'=>
   rw [hr] at h
   cases h
   have hpw:=Vj.1 h2
   obtain ⟨i1,i2⟩:=Ie (w:=w) (G:=G) hr (fun q hq=>h1 q (Xr _ hq)) hpw.2
   refine ⟨fun p hp=>?_,Vj.2 ⟨fun p hp b o f1 f2=>?_,i2⟩⟩
   ·rcases YH.1 hp with rfl|hp
    ·exact h1 (.tail v k) (Xf ..)
    ·exact i1 p hp
   ·obtain ⟨q,hq,hf⟩:=(Cd hr).1 ⟨p,hp,f2⟩
    refine hpw.1 q hq b o ?_ hf
    cases v with
    | slice a _ _=>cases a<;>exact f1
    | _=>exact f1
 | .many ts::r,L,h,h1,h2=>by
  rw [Km] at h
  cases hr:Km r with
  | none=>rw [hr] at h;cases h
  | some L'=>
   rw [hr] at h
   cases h
   have hpw:=Vj.1 h2
   obtain ⟨i1,i2⟩:=Ie (w:=w) (G:=G) hr (fun q hq=>h1 q (Xr _ hq)) hpw.2
   obtain ⟨t1,t2⟩:=h1 (.many ts) (Xf ..)
   refine ⟨fun p hp=>?_,Ae.2 ⟨t2,i2,fun p hp q hq b o f1 f2=>?_⟩⟩
   ·rcases Xi.1 hp with hp|hp
    ·exact t1 p hp
    ·exact i1 p hp
   ·obtain ⟨s,hs,hf⟩:=(Cd hr).1 ⟨q,hq,f2⟩
    exact hpw.1 s hs b o ⟨p,hp,f1⟩ hf
 | .obj _ _::_,_,h,_,_=>by cases h
 | .ge _::_,_,h,_,_=>by cases h
 | .vec _ _::_,_,h,_,_=>by cases h
 | .own _ _::_,_,h,_,_=>by cases h
 | .row _ _ _::_,_,h,_,_=>by cases h
theorem Zkg (is:List Nat) {L:List (Value × Nat)} {hs:List Res} (hp:Wr is h=some hs) (hb:Km hs=some L):Tp h (.many L::XM is h):=by
 intro w G hh
 have hp':=Ux (VO hp)
 have hh':=hh.perm hp'
 have hpw:=Ae.1 hh'.apart
 have hmany:=Ie (w:=w) (G:=G) hb (fun r hr=>hh'.ok r (Xi.2 (.inl hr))) hpw.1
 refine ⟨G,⟨fun r hr=>?_,Vj.2 ⟨fun r hr b o f1 f2=>?_,hpw.2.1⟩,fun r hr b o hf hg=>?_,hh'.lt⟩,
  ⟨rfl,rfl,rfl,YU _,fun _ _ h=>h,fun _ _=>.inl rfl,fun _ _ _ h=>.inl h,fun b o _ ⟨r,hr,hf⟩=>?_⟩⟩
 ·rcases YH.1 hr with rfl|hr
  ·exact hmany
  ·exact hh'.ok r (Xi.2 (.inr hr))
 ·exact hh'.cross ((Cd hb).1 f1) ⟨r,hr,f2⟩
 ·rcases YH.1 hr with rfl|hr
  ·obtain ⟨q,hq,hf⟩:=(Cd hb).1 hf
   exact hh'.prot q (Xi.2 (.inl hq)) b o hf hg
  ·exact hh'.prot r (Xi.2 (.inr hr)) b o hf hg
 ·refine (BD hp').2 ?_
  rcases YH.1 hr with rfl|hr
  ·exact At.2 (.inl ((Cd hb).1 hf))
  ·exact At.2 (.inr ⟨r,hr,hf⟩)
end
end Go.Abs
section
namespace Go.Abs
structure VC where
 fields:LI
 fv:Value
structure Vm where
 frm:Int
 to_:Int
 cons:List VC
 cv:Value
mutual
inductive Wn where
 | mk (op num into:Int) (args:LI) (av:Value) (kids:List XG) (kv:Value)
inductive XG where
 | mk (steps:List Wn) (sv:Value) (result:Int)
end
namespace Wn
def op:Wn->Int|.mk a _ _ _ _ _ _=>a
def num:Wn->Int|.mk _ a _ _ _ _ _=>a
def into:Wn->Int|.mk _ _ a _ _ _ _=>a
def args:Wn->LI|.mk _ _ _ a _ _ _=>a
def av:Wn->Value|.mk _ _ _ _ a _ _=>a
def kids:Wn->List XG|.mk _ _ _ _ _ a _=>a
def kv:Wn->Value|.mk _ _ _ _ _ _ a=>a
end Wn
namespace XG
def steps:XG->List Wn|.mk a _ _=>a
def sv:XG->Value|.mk _ a _=>a
def result:XG->Int|.mk _ _ a=>a
end XG
structure Vb where
 params:LI
 pv:Value
 lent:LI
 lv:Value
 result:Int
 body:XG
structure Qg where
 decls:List Vm
 dv:Value
 routines:List Vb
 rv:Value
abbrev RH (c:VC):List AV:=[ZQ c.fields c.fv]
abbrev Nl (c:VC):AV:=.agg (RH c)
def Up (cs:List VC):List AV:=cs.map Nl
abbrev EP (xs:List VC) (v:Value):AV:=.sl (Up xs) (some v)
abbrev RI (d:Vm):List AV:=[.i d.frm,.i d.to_,EP d.cons d.cv]
abbrev Nm (d:Vm):AV:=.agg (RI d)
def Vw (ds:List Vm):List AV:=ds.map Nm
abbrev Cy (xs:List Vm) (v:Value):AV:=.sl (Vw xs) (some v)
mutual
def IJ:Wn->AV
 | .mk op num into args av kids kv=>.agg [.i op,.i num,.i into,ZQ args av,.sl (Tc kids) (some kv)]
def IG:XG->AV
 | .mk steps sv result=>.agg [.sl (QG steps) (some sv),.i result]
def QG:List Wn->List AV
 | []=>[]
 | s::ss=>IJ s::QG ss
def Tc:List XG->List AV
 | []=>[]
 | b::bs=>IG b::Tc bs
end
abbrev Dw (xs:List Wn) (v:Value):AV:=.sl (QG xs) (some v)
abbrev S5 (xs:List XG):AV:=.sl (Tc xs) none
abbrev BK (xs:List XG) (v:Value):AV:=.sl (Tc xs) (some v)
abbrev RK (s:Wn):List AV:=[.i s.op,.i s.num,.i s.into,ZQ s.args s.av,BK s.kids s.kv]
abbrev E4 (s:Wn):AV:=.agg (RK s)
abbrev LJ (b:XG):List AV:=[Dw b.steps b.sv,.i b.result]
abbrev Qi (b:XG):AV:=.agg (LJ b)
abbrev RJ (r:Vb):List AV:=[ZQ r.params r.pv,ZQ r.lent r.lv,.i r.result,Dw r.body.steps r.body.sv,.i r.body.result]
abbrev Nn (r:Vb):AV:=.agg (RJ r)
def Q7 (rs:List Vb):List AV:=rs.map Nn
abbrev Zeo (xs:List Vb):AV:=.sl (Q7 xs) none
abbrev EQ (xs:List Vb) (v:Value):AV:=.sl (Q7 xs) (some v)
abbrev GT (n:Qg):List AV:=[Cy n.decls n.dv,EQ n.routines n.rv]
abbrev E3 (n:Qg):AV:=.agg (GT n)
theorem OL (s:Wn):IJ s=E4 s:=by cases s;rw [IJ];rfl
theorem OH (b:XG):IG b=Qi b:=by cases b;rw [IG];rfl
theorem Ek:∀xs:List Wn,QG xs=xs.map E4
 | []=>by rw [QG];rfl
 | s::ss=>by rw [QG,Ek ss,OL];rfl
theorem Ch:∀xs:List XG,Tc xs=xs.map Qi
 | []=>by rw [Tc];rfl
 | b::bs=>by rw [Tc,Ch bs,OH];rfl
@[simp] theorem Zlm (xs:List VC):(Up xs).length=xs.length:=by simp [Up]
theorem Z7w (xs ys:List VC):Up (xs++ys)=Up xs++Up ys:=by simp [Up]
theorem OI (xs:List VC):∀y∈Up xs,y.leaves.length=1:=by intro y hy;simp only [Up,XF] at hy;obtain ⟨x,_,rfl⟩:=hy;rfl
@[simp] theorem Zln (xs:List Vm):(Vw xs).length=xs.length:=by simp [Vw]
theorem Z7x (xs ys:List Vm):Vw (xs++ys)=Vw xs++Vw ys:=by simp [Vw]
theorem OJ (xs:List Vm):∀y∈Vw xs,y.leaves.length=3:=by intro y hy;simp only [Vw,XF] at hy;obtain ⟨x,_,rfl⟩:=hy;rfl
@[simp] theorem Zlp (xs:List Wn):(QG xs).length=xs.length:=by simp [Ek]
theorem Z80 (xs ys:List Wn):QG (xs++ys)=QG xs++QG ys:=by simp [Ek]
theorem Z81 (xs:List Wn):∀y∈QG xs,y.leaves.length=5:=by intro y hy;simp only [Ek,XF] at hy;obtain ⟨x,_,rfl⟩:=hy;rfl
@[simp] theorem Zll (xs:List XG):(Tc xs).length=xs.length:=by simp [Ch]
theorem IH (xs ys:List XG):Tc (xs++ys)=Tc xs++Tc ys:=by simp [Ch]
theorem II (xs:List XG):∀y∈Tc xs,y.leaves.length=2:=by intro y hy;simp only [Ch,XF] at hy;obtain ⟨x,_,rfl⟩:=hy;rfl
@[simp] theorem Zlo (xs:List Vb):(Q7 xs).length=xs.length:=by simp [Q7]
theorem Z7y (xs ys:List Vb):Q7 (xs++ys)=Q7 xs++Q7 ys:=by simp [Q7]
theorem OK (xs:List Vb):∀y∈Q7 xs,y.leaves.length=5:=by intro y hy;simp only [Q7,XF] at hy;obtain ⟨x,_,rfl⟩:=hy;rfl
theorem Z7z (xs:List Vb):(Zi (Q7 xs)).all AV.one=true:=Js fun y hy=>by simp only [Q7,XF] at hy;obtain ⟨x,_,rfl⟩:=hy;rfl
def Qq (c:VC):List (Value × Nat):=[(c.fv,1)]
def U1 (cs:List VC):List (Value × Nat):=cs.flatMap Qq
def Qr (d:Vm):List (Value × Nat):=U1 d.cons++[(d.cv,1)]
def VV (ds:List Vm):List (Value × Nat):=ds.flatMap Qr
mutual
def Qt:Wn->List (Value × Nat)
 | .mk _ _ _ _ av kids kv=>(av,1)::(WK kids++[(kv,2)])
def Vg:XG->List (Value × Nat)
 | .mk steps sv _=>Vh steps++[(sv,5)]
def Vh:List Wn->List (Value × Nat)
 | []=>[]
 | s::r=>Qt s++Vh r
def WK:List XG->List (Value × Nat)
 | []=>[]
 | b::r=>Vg b++WK r
end
def Qs (r:Vb):List (Value × Nat):=(r.pv,1)::(r.lv,1)::Vg r.body
def U2 (rs:List Vb):List (Value × Nat):=rs.flatMap Qs
def Td (n:Qg):List (Value × Nat):=VV n.decls++((n.dv,3)::(U2 n.routines++[(n.rv,5)]))
theorem Zb5 (b:XG):Vg b=Vh b.steps++[(b.sv,5)]:=by cases b;rw [Vg];rfl
theorem Qu:∀(xs:List Wn) (ys:List Wn),Vh (xs++ys)=Vh xs++Vh ys
 | [],ys=>by simp [Vh]
 | x::r,ys=>by rw [Q2,Vh,Vh,Qu r ys,UN]
theorem Qp:∀(xs:List XG) (ys:List XG),WK (xs++ys)=WK xs++WK ys
 | [],ys=>by simp [WK]
 | x::r,ys=>by rw [Q2,WK,WK,Qp r ys,UN]
theorem QP:Vh []=[]:=by rw [Vh]
theorem QL:WK []=[]:=by rw [WK]
theorem QM (xs ys:List VC):U1 (xs++ys)=U1 xs++U1 ys:=by simp [U1]
theorem QN (xs ys:List Vm):VV (xs++ys)=VV xs++VV ys:=by simp [VV]
theorem QO (xs ys:List Vb):U2 (xs++ys)=U2 xs++U2 ys:=by simp [U2]
def VC.er (c:VC):Yg:=⟨c.fields⟩
def Vm.er (d:Vm):Zf:=⟨d.frm,d.to_,d.cons.map VC.er⟩
mutual
def Wn.er:Wn->Z5
 | .mk op num into args _ kids _=>.mk op num into args (Ks kids)
def XG.er:XG->Z6
 | .mk steps _ result=>.mk (KY steps) result
def KY:List Wn->List Z5
 | []=>[]
 | s::r=>s.er::KY r
def Ks:List XG->List Z6
 | []=>[]
 | b::r=>b.er::Ks r
end
def Vb.er (r:Vb):Yc:=⟨r.params,r.lent,r.result,r.body.er⟩
def Qg.er (n:Qg):Zm:=⟨n.decls.map Vm.er,n.routines.map Vb.er⟩
theorem IV:∀xs:List Wn,KY xs=xs.map Wn.er
 | []=>by rw [KY];rfl
 | x::r=>by rw [KY,IV r];rfl
theorem IT:∀xs:List XG,Ks xs=xs.map XG.er
 | []=>by rw [Ks];rfl
 | x::r=>by rw [Ks,IT r];rfl
inductive TO:List AV->List AV->Prop
 | nil:TO [] []
 | cons {x y:AV} {xs ys:List AV} (hl:x.leaves.length=y.leaves.length) (h:Vc x.leaves y.leaves) (t:TO xs ys):TO (x::xs) (y::ys)
theorem TO.length:∀{xs ys:List AV},TO xs ys->xs.length=ys.length
 | _,_,.nil=>rfl
 | _,_,.cons _ _ t=>by simp [t.length]
theorem TO.els {w:World} {G:Yd} {k b:Nat}:∀{o:Nat} {xs ys:List AV},TO xs ys->Vd w G k b o xs->Vd w G k b o ys
 | _,_,_,.nil,_=>.nil
 | _,_,_,.cons hl h t,.cons hk hm r=>.cons (hl▸hk) (h.mem hm) (t.els r)
theorem Zc.els {es es':List AV} (hv:Option Value) (h:TO es es'):Zc (.sl es hv) (.sl es' none):=by
 intro w G v hr
 cases hr with
 | nil _=>cases h;exact .nil (by simp)
 | sl _ hc hm=>rw [h.length] at hc ⊢;exact .sl (by simp) hc (h.els hm)
theorem TO.map {α β:Type} {f:α->AV} {g:β->AV} {e:α->β} (h:∀x,(f x).leaves.length=(g (e x)).leaves.length/\Vc (f x).leaves (g (e x)).leaves):∀xs:List α,TO (xs.map f) ((xs.map e).map g)
 | []=>.nil
 | x::r=>.cons (h x).1 (h x).2 (TO.map h r)
theorem Zee (c:VC):Vc (RH c) (Ds c.er):=.cons (Zc.forget _ _) .nil
theorem Z8h (cs:List VC):TO (Up cs) (XR (cs.map VC.er)):=TO.map (f:=Nl) (g:=CN) (e:=VC.er) (fun c=>⟨rfl,Zee c⟩) cs
theorem Zef (d:Vm):Vc (RI d) (TZ d.er):=.cons (Zc.refl _) (.cons (Zc.refl _) (.cons (Zc.els _ (Z8h _)) .nil))
theorem Z8i (ds:List Vm):TO (Vw ds) (YB (ds.map Vm.er)):=TO.map (f:=Nm) (g:=AM) (e:=Vm.er) (fun c=>⟨rfl,Zef c⟩) ds
mutual
theorem Zei:∀s:Wn,Vc (RK s) (Xx s.er)
 | .mk op num into args av kids kv=>by
  rw [Wn.er]
  exact .cons (Zc.refl _) (.cons (Zc.refl _) (.cons (Zc.refl _) (.cons (Zc.forget _ _) (.cons (Zc.els _ (OZ kids)) .nil))))
theorem RX:∀b:XG,Vc (LJ b) (Xs b.er)
 | .mk steps sv result=>by
  rw [XG.er]
  exact .cons (Zc.els _ (P0 steps)) (.cons (Zc.refl _) .nil)
theorem P0:∀xs:List Wn,TO (QG xs) (ZF (KY xs))
 | []=>by rw [QG,KY,ZF];exact .nil
 | s::r=>by
  rw [QG,KY,ZF,OL,OQ]
  exact .cons rfl (Zei s) (P0 r)
theorem OZ:∀xs:List XG,TO (Tc xs) (YS (Ks xs))
 | []=>by rw [Tc,Ks,YS];exact .nil
 | s::r=>by
  rw [Tc,Ks,YS,OH,OG]
  exact .cons rfl (RX s) (OZ r)
end
theorem Zeh (r:Vb):Vc (RJ r) (TG r.er):=by
 have h:=RX r.body
 cases h with
 | cons h1 t=>cases t with
  | cons h2 _=>exact .cons (Zc.forget _ _) (.cons (Zc.forget _ _) (.cons (Zc.refl _) (.cons h1 (.cons h2 .nil))))
theorem Z8j (rs:List Vb):TO (Q7 rs) (X6 (rs.map Vb.er)):=TO.map (f:=Nn) (g:=K5) (e:=Vb.er) (fun c=>⟨rfl,Zeh c⟩) rs
theorem Zeg (n:Qg):Vc (GT n) (YZ n.er):=.cons (Zc.els _ (Z8i _)) (.cons (Zc.els _ (Z8j _)) .nil)
theorem NI (n:Qg):Zc (E3 n) (Yr n.er):=Zc.agg (Zeg n)
theorem Wh.args_le {P:Program} {f:FuncId} {as1 xs:List AV} {h:List Res} {R:AV->List Res->Prop} (H:Wh P f xs h R) (hle:Vc as1 xs):Wh P f as1 h R:=
 fun w G vs hvs hh=>H w G vs (hle.cs hvs) hh
theorem TH {es:List AV} {k:Nat} (h:es.all (fun y=>Nat.beq y.leaves.length k)=true):∀y∈es,y.leaves.length=k:=fun y hy=>UO (Ad.1 h y hy)
abbrev rK (g:Hd) (k:Nat) (ls:List AV):Res:=.row g.v k ls
section
variable {P:Program} {n:Nat} {c:Code} {A:V5} {F:Fr} {h:List Res} {ops:Array Oper} {B:Fr->List Res->Prop} {k:Nat}
variable {T:List (Nat × List Nat)} {fuel:Nat} {done:List Nat}
theorem tB (is:List Nat) (hs:List Res) (L' L:List (Value × Nat)) (e:L'=L) (hp:Wr is h=some hs:=by kernel_rfl) (hb:Km hs=some L':=by kernel_rfl):Tp h (.many L::XM is h):=e▸Zkg is hp hb
theorem rr {v:Value} {q:Nat} {ls ls':List AV} {t t':List Res} (h:ls=ls') (e:t=t'):Res.row v q ls::t=.row v q ls'::t':=h▸e▸rfl
theorem Rl (j m:Nat) (v:Hd) (kk:Nat) (ls:List AV) (hm:ls.length=m*kk) (hk:0<kk:=by omega) (hl:Dt P ops F k=some (.h v):=by kernel_rfl) (hj:h[j]? = some (rK v kk ls):=by kernel_rfl):Xy P (ZA ops k) F h [] (.i m):=
 Zju j hl hj hm hk
theorem Ws (b l c' q sz:Nat) (j:Int) (hq:j=(q:Int)/\q<l:=by omega) (hi:BG P ops F k=some (.val (.slice (some ⟨b,0,none⟩) l c'),j,sz):=by kernel_rfl):Xy P (ZA ops k) F h [] (.val (.pointer (some ⟨b,q*sz,none⟩))):=by
 have:=Z25 (P:=P) (F:=F) (h:=h) hi om om
 rw [hq.1,VH,Vl] at this
 exact this
theorem Vx (j g len cap kk o:Nat) (ls zs:List AV) (t:TypeId) (y:AV) (hz:(ls.drop o).take zs.length=zs) (hl:LU ops F k=some (t,.val (.pointer (some ⟨g,o,none⟩))):=by kernel_rfl) (hj:h[j]? = some (.row (.slice (some ⟨g,0,none⟩) len cap) kk ls):=by kernel_rfl)
  (hy:Ba P t zs=some y:=by kernel_rfl):Xy P (ZA ops k) F h [g] y:=Zjv j hl hj hz hy
theorem EA (j g len cap kk o:Nat) (xs ls:List AV) (ls':List AV) (hlt:o+xs.length<=ls.length) (he:ls.take o++xs++ls.drop (o+xs.length)=ls') (H:SI P n ops B (k+1) F (.row (.slice (some ⟨g,0,none⟩) len cap) kk ls'::XM [j] h)) (hk:Xc n ops F k=true:=by kernel_rfl)
  (hs:storeAt P ops F k=some (g,o,xs):=by kernel_rfl) (hp:Wr [j] h=some [.row (.slice (some ⟨g,0,none⟩) len cap) kk ls]:=by kernel_rfl):SI P n ops B k F h:=
 TV hk (WI.perm (Ux (VO hp)) (St hs hlt (by rw [he];exact H)))
theorem Ce (i j:Nat) (js bs:List Nat) (g len cap kk o:Nat) (xs ls:List AV) (ls':List AV) (hlt:o+xs.length<=ls.length) (he:ls.take o++xs++ls.drop (o+xs.length)=ls')
  (H:YX P n ops B (T.filter fun t=>!Ve ops i t.1) fuel (done++[i]) F (.row (.slice (some ⟨g,0,none⟩) len cap) kk ls'::XM [j] h)) (hk:Xc n ops F i=true:=by kernel_rfl)
  (hs:storeAt P ops F i=some (g,o,xs):=by kernel_rfl) (hp:Wr [j] h=some [.row (.slice (some ⟨g,0,none⟩) len cap) kk ls]:=by kernel_rfl) (ho:Uj ops i T=bs:=by kernel_rfl)
  (hj:js.map (fun q=>(WO (XM [j] h))[q]?)=bs.map some:=by kernel_rfl):VI P n ops B T fuel done F h i:=
 KW [j] js bs hk (VO hp) ho hj (St (h2:=[]) hs hlt (by rw [he];exact H))
theorem Dn (sz:Nat) (hK:∀g,SI P n ops B (k+1) (F.put (ZA ops k).dst (.val (.slice (some ⟨g,0,none⟩) 0 0))) (.row (.slice (some ⟨g,0,none⟩) 0 0) sz []::h)) (hk:Xc n ops F k=true:=by kernel_rfl)
  (ha:Q0 P ops F k=some ([],0,sz):=by kernel_rfl):SI P n ops B k F h:=TV hk (Zfe (VW hk).2.1 ha hK)
theorem Gx (j g sz:Nat) (xs:List AV) (hx:Option Value) (hxs:∀y∈xs,y.leaves.length=sz) (hbound:xs.length<=4294967296) (hK:∀v:Hd,SI P n ops B (k+1) (F.put (ZA ops k).dst (.h v)) (rK v sz (Zi xs)::XM [j] h))
  (hk:Xc n ops F k=true:=by kernel_rfl) (ha:UQ P ops F k=some (.val (.slice (some ⟨g,0,none⟩) 0 0),.sl xs hx,sz):=by kernel_rfl) (hp:Wr [j] h=some [.row (.slice (some ⟨g,0,none⟩) 0 0) sz []]:=by kernel_rfl):SI P n ops B k F h:=
 TV hk (WI.perm (Ux (VO hp)) (Zfc (VW hk).2.1 ha hxs hbound hK))
theorem Ri (j m:Nat) {v:Hd} {kk:Nat} {ls:List AV} (hm:ls.length=m*kk) (h0:0<m) (H:∀g c',v=⟨some ⟨g,0,none⟩,m,c'⟩->Yv P n c A F h) (hk:0<kk:=by omega) (hj:h[j]? = some (rK v kk ls):=by kernel_rfl):Yv P n c A F h:=
 Z3o j m hj hm hk h0 H
theorem Rk (t j:Nat) {v:Hd} {kk:Nat} (es:List AV) (hes:∀y∈es,y.leaves.length=kk) (H:Yv P n c A ((t,.sl es (some v.v))::F) (.tail v.v kk::XM [j] h)) (hk:0<kk:=by omega) (hF':F.get t=.h v:=by kernel_rfl)
  (hp:Wr [j] h=some [rK v kk (Zi es)]:=by kernel_rfl):Yv P n c A F h:=Z3n t j hF' hp hes hk H
theorem Zkb (j i p:Nat) (u v:Value) (kk kv:Nat) (es ls:List AV) (hes:∀y∈es,y.leaves.length=kk) (hl:ls[p]? = some (.val u)) (hk:0<kk:=by omega) (hp:Wr [j,i] h=some [.row u kk (Zi es),.row v kv ls]:=by kernel_rfl) :
  Tp h (.row v kv (ls.set p (.sl es (some u)))::.tail u kk::XM [j,i] h):=Z2j j i p hp hes hk hl
theorem F6 {A xs ys B:List AV} {o:Nat} (hA:A.length=o) (hl:xs.length=ys.length):(A++(xs++B)).take o++ys++(A++(xs++B)).drop (o+ys.length)=A++(ys++B):=by
 subst hA
 rw [AG,<-hl,<-List.drop_drop,List.drop_left,List.drop_left,UN]
theorem Mt {A xs B:List AV} {o:Nat} (hA:A.length=o):((A++(xs++B)).drop o).take xs.length=xs:=by
 subst hA
 rw [List.drop_left,AG]
theorem UG (xs ys:List AV):Zi (xs++ys)=Zi xs++Zi ys:=by simp [Zi]
theorem Z93:Zi []=[]:=rfl
theorem DO (j:Nat) (v:Value) (q:Nat) (ls ls':List AV) (e:ls=ls') (hp:Wr [j] h=some [.row v q ls]:=by kernel_rfl):Tp h (.row v q ls'::XM [j] h):=by
 subst e
 intro w G hh
 have hp':=Ux (VO hp)
 exact ⟨G,hh.perm hp',(YY.refl w G h).perm (K1 _) hp'⟩
end
end Go.Abs
end
section
namespace Go.Abs
theorem Yw.rgrow {w:World} {G:Yd} {h2:List Res} {g len len' cap k:Nat} {ls ls':List AV} (hh:Yw w G (.row (.slice (some ⟨g,0,none⟩) len cap) k ls::h2)) {cs cs':Array Value} {e:TypeId}
  (hb:w.heap[g]? = some (.cells cs e (0,0))) (Xu:cs'.size=cs.size) (hle:len'<=cap) (hcap:cs.size=cap*k) (hl:ls'.length=len'*k) (hls:YV w G ls' (cs'.toList.take (len'*k))) :
  Yw (w.setRow g cs') G (.row (.slice (some ⟨g,0,none⟩) len' cap) k ls'::h2) /\
   YY w G (.row (.slice (some ⟨g,0,none⟩) len cap) k ls::h2) (w.setRow g cs') G (.row (.slice (some ⟨g,0,none⟩) len' cap) k ls'::h2):=by
 have hmem:Res.row (.slice (some ⟨g,0,none⟩) len cap) k ls∈Res.row (.slice (some ⟨g,0,none⟩) len cap) k ls::h2:=Xf ..
 have hA:U6 G w (w.setRow g cs') G:=⟨fun c j hg=>by
  have hne:c≠g:=fun he=>hh.prot _ hmem c j he hg
  simp [World.cell?,U4 w g c cs' hne],fun _ _ h=>h⟩
 have e1:YY w G [.row (.slice (some ⟨g,0,none⟩) len cap) k ls] (w.setRow g cs') G [.row (.slice (some ⟨g,0,none⟩) len' cap) k ls']:=by
  refine ⟨rfl,rfl,rfl,by simp [World.setRow],fun _ _ h=>h,?_,fun _ _ _ h=>.inl h,?_⟩
  ·intro c hc
   by_cases hcb:c=g
   ·subst hcb
    exact .inr ⟨cs,cs',e,(0,0),hb,setRow_heap w c cs cs' e (0,0) hb,Xu,fun j hj=>absurd ⟨_,Xf ..,rfl⟩ hj⟩
   ·exact .inl (U4 w g c cs' hcb)
  ·rintro c j _ ⟨r,hr,hf⟩
   rw [XK.1 hr] at hf
   exact ⟨_,Xf ..,hf⟩
 have e2:Yw (w.setRow g cs') G [.row (.slice (some ⟨g,0,none⟩) len' cap) k ls']:=by
  refine ⟨fun r hr=>?_,C4 _ _,fun r hr c j hf hg=>?_,fun c j hg=>?_⟩
  ·rw [XK.1 hr]
   exact .inr ⟨g,len',cap,cs',e,rfl,setRow_heap w g cs cs' e (0,0) hb,hle,Xu.trans hcap,hl,hls.mono hA⟩
  ·rw [XK.1 hr] at hf
   exact hh.prot _ hmem c j hf hg
  ·have:=hh.lt c j hg
   simpa [World.setRow] using this
 exact Yw.frame (h:=[.row (.slice (some ⟨g,0,none⟩) len cap) k ls]) (k:=h2) hh e1 e2
section
variable {P:Program} {n:Nat} {ops:Array Oper} {k:Nat} {F:Fr} {h2:List Res}
theorem Sr {K:Fr->List Res->Prop} {v:Hd} {sz m:Nat} {ls xs:List AV} {hx:Option Value} (hd:VD n (ZA ops k)=true) (ha:UQ P ops F k=some (.val v.v,.sl xs hx,sz))
  (hxs:∀y∈xs,y.leaves.length=sz) (hone:(Zi xs).all AV.one=true) (hm0:ls.length=m*sz) (hk0:0<sz) (hne:xs≠[]) (hbound:m+xs.length<=4294967296)
  (hK:∀v':Hd,K (F.put (ZA ops k).dst (.val v'.v)) (.row v'.v sz (ls++Zi xs)::h2)):WI P n (ZA ops k) F (.row v.v sz ls::h2) K:=by
 unfold UQ at ha
 generalize hoo:ZA ops k=o at ha hd hK
 obtain ⟨dst,op,type,pos,after,guard⟩:=o
 cases op<;>simp only at ha<;>try (cases ha)
 rename_i c
 obtain ⟨callee,args,tys⟩:=c
 simp only at ha
 split at ha
 case h_2=>cases ha
 rename_i s x t t' hargs htys
 split at ha
 case h_2=>cases ha
 rename_i e htt ht
 have:=UO htt
 subst this
 split at ha
 case h_2=>cases ha
 rename_i i hinfo
 split at ha
 case h_2=>cases ha
 rename_i z hz
 split at ha
 case h_2=>cases ha
 rename_i hb
 simp only [W5] at hb
 simp only [Wm,Prod.mk.injEq] at ha
 obtain ⟨h3,h4,hk1⟩:=ha
 have e1:args=#[s,x]:=by rw [<-Uk (xs:=args),hargs]
 have e2:tys=#[t,t]:=by rw [<-Uk (xs:=tys),htys]
 subst e1;subst e2
 have hzs:z.cells.size=sz:=by rw [UO hb.1,hk1]
 have hby:=Vk hb.2
 have hfl:=UX xs hxs
 intro Q w G a hF hh
 have v1:=hF.ev s
 have v2:=hF.ev x
 rw [h3] at v1
 rw [h4] at v2
 have v1:=v1.val_inv
 have v2:=v2.forget
 have finish:∀(v':Hd) w',(Builtin.append_ #[t,t] type #[v.v,a.eval x]).run P w=.ok v'.v w'->Yw w' G (.row v'.v sz (ls++Zi xs)::h2)->YY w G (.row v.v sz ls::h2) w' G (.row v'.v sz (ls++Zi xs)::h2) ->
   ({ dst:=dst,op:=.call { callee:=.builtin .append,args:=#[s,x],argTypes:=#[t,t] },type:=type,pos:=pos,after:=after,guard:=guard }:Oper).wp P a w
    (fun a' w'=>∃F' h' G',K F' h'/\FR w' G' n F' a'/\Yw w' G' h'/\YY w G (.row v.v sz ls::h2) w' G' h') Q:=by
  intro v' w' hr j1 j2
  have hrun:(execOp a.eval { dst:=dst,op:=.call { callee:=.builtin .append,args:=#[s,x],argTypes:=#[t,t] },type:=type,pos:=pos,after:=after,guard:=guard }).run P w=.ok (.value v'.v) w':=by
   simp only [execOp,resolve,invoke,builtin,Sem.run_bind,Sem.run_pure,Result.andThen_ok,C3,Vt,AE,v1,hr]
  unfold Oper.wp
  rw [hrun]
  exact ⟨_,_,G,hK v',(hF.mono (j2.agree hh)).put (UU hd) .val,j1,j2⟩
 have hrow0:=hh.ok (.row v.v sz ls) (Xf ..)
 have hsub2:∀r:Res,List.Sublist (r::h2) (r::.row v.v sz ls::h2):=fun r=>List.Sublist.cons_cons _ (AF _ _)
 have grown:∀(olds news:List Value) (old:Nat),YV w G ls olds->YV w G (Zi xs) news ->
   Yw (w.drew.alloc (.cells (olds.toArray++news.toArray++Builtin.zeroCells z.cells (grownCap w (m+xs.length) old e-(m+xs.length))) e)) G
    (.row (.slice (some ⟨w.heap.size,0,none⟩) (m+xs.length) (grownCap w (m+xs.length) old e)) sz (ls++Zi xs)::h2) /\
   YY w G (.row v.v sz ls::h2) (w.drew.alloc (.cells (olds.toArray++news.toArray++Builtin.zeroCells z.cells (grownCap w (m+xs.length) old e-(m+xs.length))) e)) G
    (.row (.slice (some ⟨w.heap.size,0,none⟩) (m+xs.length) (grownCap w (m+xs.length) old e)) sz (ls++Zi xs)::h2):=by
  intro olds news old ho hn
  have Xo:=grownCap_ge w (m+xs.length) old e
  have hol:=ho.length
  have hnl:=hn.length
  have hlen:(ls++Zi xs).length=(m+xs.length)*sz:=by rw [Ys,hm0,hfl,K3]
  obtain ⟨j1,j2⟩:=hh.drew.alloc_rrow (olds.toArray++news.toArray++Builtin.zeroCells z.cells (grownCap w (m+xs.length) old e-(m+xs.length))) e
   (ls:=ls++Zi xs) (len:=m+xs.length) (cap:=grownCap w (m+xs.length) old e) (k:=sz) Xo
   (by
    have q2:(grownCap w (m+xs.length) old e-(m+xs.length))*sz=grownCap w (m+xs.length) old e*sz-(m+xs.length)*sz:=Nat.sub_mul ..
    have q3:(m+xs.length)*sz<=grownCap w (m+xs.length) old e*sz:=Kh _ Xo
    have q4:(m+xs.length)*sz=m*sz+xs.length*sz:=K3 ..
    simp only [Array.size_append,DU,size_zeroCells,hzs,hol,hnl,hm0,hfl]
    omega) hlen
   (by
    have:(olds.toArray++news.toArray++Builtin.zeroCells z.cells (grownCap w (m+xs.length) old e-(m+xs.length))).toList.take ((m+xs.length)*sz)=olds++news:=by
     simp only [DT]
     rw [<-hlen,Ys,<-hol,<-hnl,<-Ys]
     exact AG
    rw [this]
    exact (ho.append hn).mono (Bw w G))
  exact ⟨j1.sub (hsub2 _),(YY.drew w G _).trans (j2.sub' (hsub2 _))⟩
 generalize hax:a.eval x=ax at v2 finish
 cases v2 with
 | nil _=>exact absurd rfl hne
 | sl hq hcc hm=>
  rename_i b o' k' c
  have hpos:0<xs.length:=Fv.2 hne
  have hfm:=hm.flat_mem
  obtain ⟨news,hn,hnc⟩:=hfm.cells
  have hnl:news.length=xs.length*i.size:=by rw [hn.length,hfl,hk1]
  have hone':=hn.one_cells hone
  have hnews:∀j u,news[j]? = some u->w.cell? ((⟨b,o',none⟩:Addr).add j)=some u:=fun j u hj=>by rw [Jk];exact (hnc j u hj).1
  have hbb:(m+xs.length)*i.bytes<=140737488355328:=by
   have:=Nat.mul_le_mul hbound hby
   omega
  rcases hrow0 with ⟨hv0,hl0⟩|⟨g,len,cap,cur,el,hv0,hrow,hlc,hcur,hll,hcells⟩
  ·subst hl0
   have hm1:m=0:=by
    have:m*sz=0:=by simpa using hm0.symm
    rcases Nat.mul_eq_zero.1 this with h|h
    ·exact h
    ·omega
   subst hm1
   rw [hv0] at finish hh ⊢
   have hr:=run_append_nil (P:=P) w t type e i z ht hinfo hz ⟨b,o',none⟩ xs.length c news hnl hnews hpos om (by simp only [Vl] at hbb;omega)
   obtain ⟨j1,j2⟩:=grown [] news 0 .nil hn
   simp only [Vl,Array.empty_append,Bn] at j1 j2
   rw [hv0] at j2
   exact finish ⟨some ⟨w.heap.size,0,none⟩,xs.length,grownCap w xs.length 0 e⟩ _ hr (by simpa using j1) (by simpa using j2)
  ·have hlm:len=m:=HQ hk0 (hll.symm.trans hm0)
   subst hlm
   rw [hv0] at finish hh ⊢
   have q5:len*sz<=cap*sz:=Kh _ hlc
   have h1:(cur.toList.take (len*sz)).length=len*sz:=by rw [WW,Jf,hcur,Ul q5]
   have hcl:cur.toList.length=cap*sz:=by rw [Jf,hcur]
   by_cases hroom:len+xs.length<=cap
   ·have q1:(len+xs.length)*sz<=cap*sz:=Kh _ hroom
    have q2:(len+xs.length)*sz=len*sz+xs.length*sz:=K3 ..
    have hfit:len*i.size+news.length<=cur.size:=by rw [hnl,hcur,hk1];omega
    have hr:=Hg (P:=P) w t type e el i ht hinfo g len cap cur hrow ⟨b,o',none⟩ xs.length c news hnl hnews hone' hroom hfit
    rw [hk1] at hr
    have hnl':news.length=xs.length*sz:=by rw [hnl,hk1]
    obtain ⟨j1,j2⟩:=hh.rgrow (ls':=ls++Zi xs) (len':=len+xs.length) (cs':=(cur.toList.take (len*sz)++news++cur.toList.drop (len*sz+news.length)).toArray) hrow
     (by simp only [DU,Ys,h1,hnl',Bm,hcl,hcur];omega) hroom hcur (by rw [Ys,hll,hfl,q2]) (by
      have:(cur.toList.take (len*sz)++news++cur.toList.drop (len*sz+news.length)).toArray.toList.take ((len+xs.length)*sz)=cur.toList.take (len*sz)++news:=by
       rw [DV,q2,<-hnl']
       conv=>lhs;arg 1;rw [show len*sz+news.length=(cur.toList.take (len*sz)++news).length from by rw [Ys,h1]]
       exact AG
      rw [this]
      exact hcells.append hn)
    exact finish ⟨some ⟨g,0,none⟩,len+xs.length,cap⟩ _ hr j1 j2
   ·have hr:=run_append_grow (P:=P) w t type e i z ht hinfo hz ⟨g,0,none⟩ len cap (cur.toList.take (len*sz)) (by rw [hk1];exact h1) (fun j u hj=>by
     rw [Jk,cell_of_row w g _ cur el (0,0) hrow]
     rw [Qf] at hj
     split at hj
     ·simpa using hj
     ·cases hj) ⟨b,o',none⟩ xs.length c news hnl hnews om om (growslice_fits om hbb)
    obtain ⟨j1,j2⟩:=grown (cur.toList.take (len*sz)) news cap hcells hn
    rw [hv0] at j2
    exact finish ⟨some ⟨w.heap.size,0,none⟩,len+xs.length,grownCap w (len+xs.length) cap e⟩ _ hr j1 j2
end
section
variable {P:Program} {n:Nat} {ops:Array Oper} {B:Fr->List Res->Prop} {k:Nat} {F:Fr} {h:List Res}
theorem Gw (j m:Nat) (v:Hd) (sz:Nat) (ls xs:List AV) (hx:Option Value) (hm0:ls.length=m*sz) (hxs:∀y∈xs,y.leaves.length=sz) (hone:(Zi xs).all AV.one=true) (hne:xs≠[]) (hbound:m+xs.length<=4294967296)
  (hK:∀v':Hd,SI P n ops B (k+1) (F.put (ZA ops k).dst (.h v')) (rK v' sz (ls++Zi xs)::XM [j] h)) (hk0:0<sz:=by omega)
  (hk:Xc n ops F k=true:=by kernel_rfl) (ha:UQ P ops F k=some (.h v,.sl xs hx,sz):=by kernel_rfl) (hp:Wr [j] h=some [rK v sz ls]:=by kernel_rfl):SI P n ops B k F h:=
 TV hk (WI.perm (Ux (VO hp)) (Sr (VW hk).2.1 ha hxs hone hm0 hk0 hne hbound hK))
end
end Go.Abs
namespace Go.Abs
section
variable {P:Program} {n:Nat} {ops:Array Oper} {B:Fr->List Res->Prop} {T:List (Nat × List Nat)} {fuel:Nat} {done:List Nat} {F:Fr} {h:List Res}
theorem Oz (i j m:Nat) (js bs:List Nat) (v:Hd) (sz:Nat) (ls xs:List AV) (hx:Option Value) (hm0:ls.length=m*sz) (hxs:∀y∈xs,y.leaves.length=sz) (hone:(Zi xs).all AV.one=true) (hne:xs≠[]) (hbound:m+xs.length<=4294967296)
  (hK:∀v':Hd,YX P n ops B (T.filter fun t=>!Ve ops i t.1) fuel (done++[i]) (F.put (ZA ops i).dst (.h v')) (rK v' sz (ls++Zi xs)::XM [j] h)) (hk0:0<sz:=by omega) (hk:Xc n ops F i=true:=by kernel_rfl)
  (ha:UQ P ops F i=some (.h v,.sl xs hx,sz):=by kernel_rfl) (hp:Wr [j] h=some [rK v sz ls]:=by kernel_rfl) (ho:Uj ops i T=bs:=by kernel_rfl)
  (hj:js.map (fun q=>(WO (XM [j] h))[q]?)=bs.map some:=by kernel_rfl):VI P n ops B T fuel done F h i:=
 KW [j] js bs hk (VO hp) ho hj (Sr (h2:=[]) (VW hk).2.1 ha hxs hone hm0 hk0 hne hbound hK)
end
end Go.Abs
namespace Go.Abs
section
variable {h:List Res}
theorem Zkh (j i p:Nat) {u:Value} {kk b:Nat} {es ls:List AV} (hp:Wr [j,i] h=some [.row u kk (Zi es),.obj b ls]) (hes:∀y∈es,y.leaves.length=kk) (hk:0<kk) (hl:ls[p]? = some (.val u)) :
  Tp h (.obj b (ls.set p (.sl es (some u)))::.tail u kk::XM [j,i] h):=by
 intro w G hh
 have hp':=Ux (VO hp)
 have hh':=hh.perm hp'
 obtain ⟨G',h1,h2',h3⟩:=CA (h2:=.obj b ls::XM [j,i] h) hh' hes hk
 have e:=h2'.perm hp'.symm (K1 _)
 have h1:Yw w G' (.tail u kk::.obj b ls::XM [j,i] h):=h1
 have perm:(Res.tail u kk::.obj b ls::XM [j,i] h).Perm (.obj b ls::.tail u kk::XM [j,i] h):=List.Perm.swap ..
 have h4:=h1.perm perm
 have e4:=e.perm (K1 _) perm
 have hset:∀{w:World} {G:Yd},RV w G (.sl es (some u)) u->QD w G (.obj b ls)->QD w G (.obj b (ls.set p (.sl es (some u)))):=by
  intro w G hu hr
  obtain ⟨cs,el,k1,k5⟩:=hr
  refine ⟨cs,el,k1,?_⟩
  obtain ⟨c,c1,c2⟩:=k5.get p _ hl
  have:=c2.val_inv
  subst this
  have h6:=k5.set p hu
  rwa [show cs.toList.set p c=cs.toList from by
   apply List.ext_getElem?
   intro q
   rw [List.getElem?_set]
   split
   ·rename_i hq;subst hq;split
    ·exact c1.symm
    ·rename_i hq2;rw [CM om]
   ·rfl] at h6
 refine ⟨G',⟨fun r hr=>?_,?_,fun r hr=>?_,h4.lt⟩,⟨e4.os,e4.tape,e4.output,e4.size,e4.sub,e4.same,e4.newG,fun b' o hb ⟨r,hr,hf⟩=>e4.newfp b' o hb ?_⟩⟩
 ·rcases YH.1 hr with rfl|hr
  ·exact hset h3 (h4.ok _ (Xf ..))
  ·exact h4.ok r (Xr _ hr)
 ·have:=Vj.1 h4.apart
  exact Vj.2 ⟨fun r hr b' o f1 f2=>this.1 r hr b' o f1 f2,this.2⟩
 ·rcases YH.1 hr with rfl|hr
  ·exact fun b' o f1 hg=>h4.prot (.obj b ls) (Xf ..) b' o f1 hg
  ·exact h4.prot r (Xr _ hr)
 ·rcases YH.1 hr with rfl|hr
  ·exact ⟨.obj b ls,Xf ..,hf⟩
  ·exact ⟨r,Xr _ hr,hf⟩
theorem Q1 (j i p:Nat) (u:Value) (kk b:Nat) (es ls:List AV) (hes:∀y∈es,y.leaves.length=kk) (hl:ls[p]? = some (.val u)) (hk:0<kk:=by omega) (hp:Wr [j,i] h=some [.row u kk (Zi es),.obj b ls]:=by kernel_rfl) :
  Tp h (.obj b (ls.set p (.sl es (some u)))::.tail u kk::XM [j,i] h):=Zkh j i p hp hes hk hl
end
end Go.Abs
namespace Go.Abs
section
variable {P:Program} {n:Nat} {ops:Array Oper} {k:Nat} {F:Fr} {h:List Res}
theorem Zjw (j:Nat) {g l c m kk:Nat} {ls:List AV} (hi:DH P ops F k=some (.val (.slice (some ⟨g,0,none⟩) l c),(m:Int))) (hj:h[j]? = some (.row (.slice (some ⟨g,0,none⟩) l c) kk ls)) (hle:m<=l) :
  Xy P (ZA ops k) F h [] (.val (.slice (some ⟨g,0,none⟩) m c)):=by
 unfold DH at hi
 generalize hoo:ZA ops k=o at hi
 obtain ⟨dst,op,type,pos,after,guard⟩:=o
 cases op<;>simp only at hi<;>try (cases hi)
 rename_i t x lo hi' mx
 cases lo with
 | some _=>simp at hi
 | none=>
  cases hi' with
  | none=>simp at hi
  | some y=>
   cases mx with
   | some _=>simp at hi
   | none=>
    simp only at hi
    split at hi
    ·rename_i e ht
     split at hi
     ·rename_i inf hinf
      split at hi
      ·rename_i ik m' hm
       simp only [Wm,Prod.mk.injEq] at hi
       obtain ⟨hx,rfl⟩:=hi
       intro n w G a hF hh
       have v1:=hF.ev x
       rw [hx] at v1
       have v1:=v1.val_inv
       have v2:=hF.ev y
       rw [hm] at v2
       have v2:=v2.val_inv
       have hcap:l<=c:=by
        rcases hh.ok _ (Y0 hj) with ⟨h0,_⟩|⟨g',l',c',cur,el,h0,_,hc,_⟩
        ·cases h0
        ·cases h0;exact hc
       refine ⟨_,.val,fun w' _ _=>?_⟩
       simp only [execOp,v1,v2,C6,Option.map_none]
       refine Vi ?_
       simp only [Instr.sliceAt,Sem.run_bind,VG ht,Result.andThen_ok,Instr.slice]
       have hmm:(Instr.sliceBounds true l c none (some (.int ik (m:Int))) none).run P w'=.ok (0,m,c) w':=by
        have Zz:=fun q=>DF (P:=P) (c:=q) (v:=.int ik (m:Int)) (y:=c) rfl om om w'
        simp [Instr.sliceBounds,Zz]
       rw [hmm]
       have hz:∀a:Addr,a.add 0=a:=fun a=>by simp [Addr.add]
       simp only [Result.andThen_ok,QZ hinf,Nat.zero_mul,hz]
       by_cases h0:c=0<;>simp [h0]
      ·cases hi
     ·cases hi
    ·cases hi
theorem LA (j g l c m kk:Nat) (ls:List AV) (hle:m<=l:=by omega) (hi:DH P ops F k=some (.val (.slice (some ⟨g,0,none⟩) l c),(m:Int)):=by kernel_rfl) (hj:h[j]? = some (.row (.slice (some ⟨g,0,none⟩) l c) kk ls):=by kernel_rfl) :
  Xy P (ZA ops k) F h [] (.val (.slice (some ⟨g,0,none⟩) m c)):=Zjw j hi hj hle
variable {B:Fr->List Res->Prop}
theorem iVM (l:Nat) (hK:∀v:Hd,SI P n ops B (k+1) (F.put (ZA ops k).dst (.h v)) (rV v (List.replicate l 0)::h)) (hl:l<=4294967296:=by omega) (hk:Xc n ops F k=true:=by kernel_rfl)
  (hm:Bb P ops F k=some ((l:Int),(l:Int),.i 0):=by kernel_rfl):SI P n ops B k F h:=
 Zbs (Z8 (List.replicate l 0)) hk hm (YU _) hl (by simp [Z8]) fun v'=>Ho fun g hg=>by subst hg;exact hK g
end
end Go.Abs
end
namespace Go.Abs
theorem Y5 {α:Type} {xs:List α} {k:Nat} {x:α} (h:xs[k]? = some x):xs.drop k=x::xs.drop (k+1):=by
 have hk:=(Xq.1 h).1
 rw [Z3b hk]
 congr 1
 rw [TL hk] at h
 exact UP h
theorem Xj {α:Type} {xs:List α} {k:Nat} (h:xs.length<=k):xs.drop k=[]:=HN h
theorem V1 {α:Type} {xs:List α} {k:Nat} {x:α} (h:xs[k]? = some x):xs.take (k+1)=xs.take k++[x]:=by
 rw [List.take_add_one,h];rfl
def YQ:List Zf->Nat
 | []=>0
 | d::ds=>d.cons.length+YQ ds
theorem Ee (xs ys:List Zf):YQ (xs++ys)=YQ xs+YQ ys:=by
 induction xs with
 | nil=>simp [YQ]
 | cons d ds ih=>simp [YQ,ih];omega
structure Wu (ds:List Zf):Prop where
 len:ds.length<=4
 cons:∀d∈ds,d.cons.length<=3
 fields:∀d∈ds,∀c∈d.cons,c.fields.length<=3
theorem Z6h {ds:List Zf} {m:Nat} (h:∀d∈ds,d.cons.length<=m):YQ ds<=ds.length*m:=by
 induction ds with
 | nil=>simp [YQ]
 | cons d ds ih=>
  have h1:=h d (by simp)
  have h2:=ih (fun x hx=>h x (by simp [hx]))
  simp only [YQ,YW,K3];omega
theorem Wu.sum {ds:List Zf} (h:Wu ds):YQ ds<=12:=by
 have:=Z6h h.cons
 have:=h.len
 have:ds.length*3<=4*3:=Kh 3 h.len
 omega
theorem Wu.take {ds:List Zf} (h:Wu ds) (k:Nat):Wu (ds.take k):=
 ⟨by have:=h.len;simp;omega,fun d hd=>h.cons d (Tm hd),fun d hd=>h.fields d (Tm hd)⟩
theorem Wu.cons_at {ds:List Zf} (h:Wu ds) {k:Nat} {d:Zf} (hd:ds[k]? = some d):d.cons.length<=3:=h.cons d (Y0 hd)
theorem Wu.fields_at {ds:List Zf} (h:Wu ds) {k j:Nat} {d:Zf} {c:Yg} (hd:ds[k]? = some d) (hc:d.cons[j]? = some c):c.fields.length<=3:=
 h.fields d (Y0 hd) c (Y0 hc)
def Tv (c:Int):List Zf->Nat->Nat->Int × LI
 | [],_,_=>(-1,[])
 | d::ds,i,first=>
  if (first:Int)<=c/\c<=((first+d.cons.length:Nat):Int)-1 then ((i:Int)+1,(d.cons[(c-first).toNat]?.map (·.fields)).getD []) else Tv c ds (i+1) (first+d.cons.length)
def Wi (ds:List Zf) (c:Int):Int:=(Tv c ds 0 0).1
def ZX (ds:List Zf) (c:Int):LI:=(Tv c ds 0 0).2
theorem Im {c:Int}:∀{ds:List Zf} {i first:Nat},(Tv c ds i first=(-1,[]) ∨
  ∃k d x,ds[k]? = some d/\(first+YQ (ds.take k):Int)<=c/\c<first+YQ (ds.take k)+d.cons.length/\d.cons[(c-(first+YQ (ds.take k))).toNat]? = some x/\Tv c ds i first=((i:Int)+k+1,x.fields))
 | [],_,_=>.inl rfl
 | d::ds,i,first=>by
  rw [Tv]
  split
  ·rename_i h
   have hlt:(c-first).toNat<d.cons.length:=by omega
   refine .inr ⟨0,d,d.cons[(c-first).toNat],rfl,by simp [YQ];omega,by simp [YQ];omega,?_,?_⟩
   ·simp [YQ]
   ·rw [TL hlt];simp
  ·rcases Im (c:=c) (ds:=ds) (i:=i+1) (first:=first+d.cons.length) with h|⟨k,e,x,h1,h2,h3,h4,h5⟩
   ·exact .inl h
   ·refine .inr ⟨k+1,e,x,by simpa using h1,by simp [YQ];omega,by simp [YQ];omega,?_,?_⟩
    ·rw [<-h4];congr 3;simp [YQ];omega
    ·rw [h5];congr 1;omega
theorem In {ds:List Zf} {c:Int} (h:¬Wi ds c<1) :
  ∃k d x,ds[k]? = some d/\(YQ (ds.take k):Int)<=c/\d.cons[(c-YQ (ds.take k)).toNat]? = some x/\Wi ds c=(k:Int)+1/\ZX ds c=x.fields:=by
 rcases Im (c:=c) (ds:=ds) (i:=0) (first:=0) with h1|⟨k,d,x,h1,h2,_,h4,h5⟩
 ·simp [Wi,h1] at h
 ·exact ⟨k,d,x,h1,by simpa using h2,by simpa using h4,by simp [Wi,h5],by simp [ZX,h5]⟩
theorem FL {ds:List Zf} {c:Int} (h:Wi ds c<1):ZX ds c=[]/\Wi ds c=-1:=by
 rcases Im (c:=c) (ds:=ds) (i:=0) (first:=0) with h1|⟨k,d,x,h1,h2,_,h4,h5⟩
 ·simp [ZX,Wi,h1]
 ·simp [Wi,h5] at h;omega
def VN (first:Int):Nat->LI
 | 0=>[]
 | n+1=>first::VN (first+1) n
theorem Se (first:Int) (n:Nat):VN first (n+1)=VN first n++[first+n]:=by
 induction n generalizing first with
 | zero=>simp [VN]
 | succ n ih=>rw [VN,ih (first+1),VN];simp;omega
@[simp] theorem Sd (first:Int) (n:Nat):(VN first n).length=n:=by
 induction n generalizing first with
 | zero=>rfl
 | succ n ih=>simp [VN,ih]
def ZW (ds:List Zf) (t:Int):LI:=
 if 1<=t/\t<=ds.length then VN (YQ (ds.take (t-1).toNat)) (((ds[(t-1).toNat]?).map (·.cons.length)).getD 0) else []
def KQ (frm to_:Int):List Zf->Nat->Int
 | [],_=>-1
 | d::ds,i=>if d.cons.length=0/\d.frm=frm/\d.to_=to_ then (i:Int)+1 else KQ frm to_ ds (i+1)
def Ut (ds:List Zf) (frm to_:Int):Int:=KQ frm to_ ds 0
def XT (ds:List Zf) (t:Int):Bool:=decide (1<=t/\t<=ds.length)&&((ds[(t-1).toNat]?).map fun d=>decide (d.cons.length=0)).getD false
theorem GJ {ds:List Zf} {t:Int} {x:Zf} (h:1<=t/\t<=ds.length) (hx:ds[(t-1).toNat]? = some x):((x.cons.length:Int)==0)=XT ds t:=by
 rw [XT,hx,XH];simp [h]
theorem Lx {ds:List Zf} {t:Int} (h:¬(1<=t/\t<=ds.length)):false=XT ds t:=by
 rw [XT,XH];simp only [Bool.false_eq_true,W5,decide_eq_true_eq,h,false_and]
def Wo (m:Nat) (xs:LI):Bool:=xs.all fun t=>decide (0<=t/\t<=m)
end Go.Abs
section
namespace Go.Abs
section
variable {h:List Res}
end
end Go.Abs
namespace Go.Abs
section
variable {P:Program} {ops:Array Oper} {k:Nat} {F:Fr} {h:List Res}
end
end Go.Abs
end
namespace Go.Abs
section
variable {P:Program} {n:Nat} {ops:Array Oper} {B:Fr->List Res->Prop} {k:Nat} {F:Fr} {h:List Res} {T:List (Nat × List Nat)} {fuel:Nat} {done:List Nat}
theorem Ss {K:Fr->List Res->Prop} {ls:List AV} {len sz:Nat} (hd:VD n (ZA ops k)=true) (ha:Q0 P ops F k=some (ls,len,sz)) (hlen:ls.length=len*sz)
  (hK:∀g,K (F.put (ZA ops k).dst (.val (.slice (some ⟨g,0,none⟩) len len))) (.row (.slice (some ⟨g,0,none⟩) len len) sz ls::h)):WI P n (ZA ops k) F h K:=by
 unfold Q0 at ha
 generalize hoo:ZA ops k=q at ha hd hK
 obtain ⟨dst,op,type,pos,after,guard⟩:=q
 cases op<;>simp only at ha<;>try (cases ha)
 rename_i t ln parts
 split at ha
 case h_2=>cases ha
 rename_i e ht
 split at ha
 case h_2=>cases ha
 rename_i i hi
 split at ha
 case h_2=>cases ha
 rename_i hc
 simp only [W5] at hc
 split at ha
 case h_2=>cases ha
 rename_i ls' hf
 simp only [Wm,Prod.mk.injEq] at ha
 obtain ⟨rfl,rfl,Xu⟩:=ha
 intro Q w G a hF hh
 obtain ⟨cs,h1,h2⟩:=Hh hF parts ht hi rfl hc.1 hc.2 hf
 have hr:(execOp a.eval { dst:=dst,op:=.buildSlice t ln parts,type:=type,pos:=pos,after:=after,guard:=guard }).run P w =
   .ok (.value (.slice (some ⟨w.heap.size,0,none⟩) ln ln)) (w.alloc (.cells cs e)):=by
  simp only [execOp]
  exact Vi h2
 unfold Oper.wp
 rw [hr]
 have hlc:=h1.length
 simp only [Jf] at hlc
 obtain ⟨j1,j2⟩:=hh.alloc_rrow cs e (ls:=ls') (len:=ln) (cap:=ln) (k:=sz) (YU _) (by rw [hlc];exact hlen) hlen (by rw [<-hlen,<-hlc];simpa [VA] using h1)
 exact ⟨_,_,G,hK _,(hF.mono (j2.agree hh)).put (UU hd) .val,j1,j2⟩
theorem TC (es es':List AV) (he:es=es') (len sz:Nat) (hK:∀v,SI P n ops B (k+1) (F.put (ZA ops k).dst (.sl es' (some v))) (.tail v sz::h)) (hk:Xc n ops F k=true:=by kernel_rfl)
  (ha:Q0 P ops F k=some (Zi es,len,sz):=by kernel_rfl) (hlen:es.length=len:=by kernel_rfl) (hall:AO es sz=true:=by kernel_rfl):SI P n ops B k F h:=by
 subst he;exact iL es len sz hK hk ha hlen hall
theorem WP (i:Nat) (js bs:List Nat) (es es':List AV) (he:es=es') (len sz:Nat) (hK:∀v,YX P n ops B (T.filter fun t=>!Ve ops i t.1) fuel (done++[i]) (F.put (ZA ops i).dst (.sl es' (some v))) (.tail v sz::h))
  (hk:Xc n ops F i=true:=by kernel_rfl) (ha:Q0 P ops F i=some (Zi es,len,sz):=by kernel_rfl) (hlen:es.length=len:=by kernel_rfl) (hall:AO es sz=true:=by kernel_rfl)
  (ho:Uj ops i T=bs:=by kernel_rfl) (hj:js.map (fun j=>(WO h)[j]?)=bs.map some:=by kernel_rfl):VI P n ops B T fuel done F h i:=by
 subst he;exact dL i js bs es len sz hK hk ha hlen hall ho hj
theorem iKN (ls:List AV) (len sz:Nat) (hK:∀g,SI P n ops B (k+1) (F.put (ZA ops k).dst (.val (.slice (some ⟨g,0,none⟩) len len))) (.row (.slice (some ⟨g,0,none⟩) len len) sz ls::h)) (hlen:ls.length=len*sz:=by rfl) (hk:Xc n ops F k=true:=by kernel_rfl)
  (ha:Q0 P ops F k=some (ls,len,sz):=by kernel_rfl):SI P n ops B k F h:=TV hk (Ss (VW hk).2.1 ha hlen hK)
theorem dKN (i:Nat) (js bs:List Nat) (ls:List AV) (len sz:Nat) (hK:∀g,YX P n ops B (T.filter fun t=>!Ve ops i t.1) fuel (done++[i]) (F.put (ZA ops i).dst (.val (.slice (some ⟨g,0,none⟩) len len))) (.row (.slice (some ⟨g,0,none⟩) len len) sz ls::h)) (hlen:ls.length=len*sz:=by rfl)
  (hk:Xc n ops F i=true:=by kernel_rfl) (ha:Q0 P ops F i=some (ls,len,sz):=by kernel_rfl) (ho:Uj ops i T=bs:=by kernel_rfl) (hj:js.map (fun j=>(WO h)[j]?)=bs.map some:=by kernel_rfl):VI P n ops B T fuel done F h i:=
 KW (h1:=[]) (h2:=h) [] js bs hk rfl ho hj (Ss (VW hk).2.1 ha hlen hK)
end
theorem Wh.frz {P:Program} {f:FuncId} {as1:List AV} {h0:List Res} {E:Type} {kk:Nat} {es:E->List AV} {hs:E->List Res} {Q:E->Prop} (H:Wh P f as1 h0 (fun r h=>∃(e:E) (v:Hd),r=.h v/\h=rK v kk (Zi (es e))::hs e/\Q e)) (hes:∀e,∀y∈es e,y.leaves.length=kk) (hk:0<kk) :
  Wh P f as1 h0 (fun r h=>∃(e:E) (v:Value),r=.sl (es e) (some v)/\h=.tail v kk::hs e/\Q e):=by
 intro w G vs hv hh
 refine (H w G vs hv hh).mono ?_
 rintro e w' ⟨u,r,h',G',he,⟨x,v,rfl,rfl,hq⟩,hr,hh',hx⟩
 obtain ⟨G2,h1,h2,h3⟩:=CA hh' (hes x) hk
 have hrv:=hr.val_inv
 subst hrv
 exact ⟨_,_,_,G2,he,⟨x,v.v,rfl,rfl,hq⟩,h3,h1,hx.trans h2⟩
theorem Gg {es:List AV} {sz k:Nat} {y:AV} (h:∀x∈es,x.leaves.length=sz) (hy:y.leaves.length=sz) (hk:k<es.length):(Zi es).take (k*sz)++y.leaves++(Zi es).drop (k*sz+y.leaves.length)=Zi (es.set k y):=by
 obtain ⟨x,hx⟩:=J1 (xs:=es) (j:=k) hk
 have hxl:=h x (Y0 hx)
 have e1:es=es.take k++(x::es.drop (k+1)):=by rw [<-Y5 hx,Tn]
 have e2:es.set k y=es.take k++(y::es.drop (k+1)):=by rw [Fw,Ze hk]
 have hl:(Zi (es.take k)).length=k*sz:=by rw [UX (k:=sz) _ (fun z hz=>h z (Tm hz)),WW,Ul om]
 have e3:Zi es=Zi (es.take k)++(x.leaves++Zi (es.drop (k+1))):=by
  conv=>lhs;rw [e1,UG]
  simp [Zi]
 rw [e2,UG,e3,F6 hl (by rw [hxl,hy])]
 simp [Zi]
theorem Z7t (ds:List Zf) (k:Nat) (d:Zf):YB (ds.set k d)=(YB ds).set k (AM d):=by simp [YB,List.map_set]
theorem Cl (xs:List Zf):(Zi (YB xs)).length=xs.length*3:=by rw [UX (k:=3) _ (KX xs)];simp
theorem Gd {ds:List Zf} {k:Nat} (d:Zf) (hk:k<ds.length):(Zi (YB ds)).take (k*3)++TZ d++(Zi (YB ds)).drop (k*3+3)=Zi (YB (ds.set k d)):=by
 rw [Z7t];exact Gg (y:=AM d) (KX ds) rfl (by simpa using hk)
theorem L0 (xs ys:List Zf):Zi (YB xs)++Zi (YB ys)=Zi (YB (xs++ys)):=by rw [Z7r,UG]
section
variable {P:Program} {n:Nat} {ops:Array Oper} {B:Fr->List Res->Prop} {k:Nat} {F:Fr} {h:List Res}
theorem Gv (j m:Nat) {v:Hd} {kk:Nat} {ls:List AV} (hm:ls.length=m*kk) (h0:0<m) (H:∀g c',v=⟨some ⟨g,0,none⟩,m,c'⟩->SI P n ops B k F h) (hk:0<kk:=by omega) (hj:h[j]? = some (rK v kk ls):=by kernel_rfl):SI P n ops B k F h:=by
 intro Q w G a hF hh hq
 obtain ⟨g,c',e⟩:=Z0b (hh.ok _ (Y0 hj)) hm hk h0
 exact H g c' e Q w G a hF hh hq
end
section
variable {P:Program} {n:Nat} {ops:Array Oper} {B:Fr->List Res->Prop} {k:Nat} {F:Fr} {h:List Res}
def Ip (P:Program) (ops:Array Oper) (F:Fr) (k:Nat):Option (IntKind × Int):=
 match (ZA ops k).op with
 | .convert s d x=>match P.underlying s,P.underlying d,F.ev x with
  | some (.int _),some (.int q),.val (.int _ z)=>some (q,z)
  | _,_,_=>none
 | _=>none
theorem kCv (q:IntKind) (z z':Int) (e:q.wrap z=z') (hc:Ip P ops F k=some (q,z):=by kernel_rfl):Xy P (ZA ops k) F h [] (.val (.int q z')):=by
 unfold Ip at hc
 generalize hoo:ZA ops k=o at hc
 obtain ⟨dst,op,type,pos,after,guard⟩:=o
 cases op<;>simp only at hc<;>try (cases hc)
 rename_i s d x
 split at hc
 ·rename_i q1 q2 q3 z2 h1 h2 h3
  cases hc
  intro n w G ac hF hh
  have v1:=hF.ev x
  rw [h3] at v1
  have v1:=v1.val_inv
  refine ⟨_,.val,fun w' _ _=>?_⟩
  simp only [execOp,v1]
  refine Vi ?_
  simp [convert,VG h1,VG h2,Conv.intToInt,e]
 ·cases hc
theorem Nf {z:Int} (h:0<=z/\z<=9223372036854775807):IntKind.i64.wrap z=z:=IntWalk.i64_in _ om
theorem Dq (z:Int) (hz:0<=z/\z<=255) (hc:Ip P ops F k=some (.i64,z):=by kernel_rfl):Xy P (ZA ops k) F h [] (.i z):=kCv .i64 z z (Nf om) hc
def Bz (ops:Array Oper) (F:Fr) (k:Nat) (b:BinOp):Option (Int × Int):=
 match (ZA ops k).op with
 | .binOp c _ x y _=>if c==b then match F.ev x,F.ev y with
  | .val (.int .i64 z),.val (.int .i64 u)=>some (z,u)
  | _,_=>none else none
 | _=>none
theorem LD (a b:Int) (hb:0<b) (ha:0<=a/\a<=9223372036854775807) (hc:Bz ops F k .quo=some (a,b):=by kernel_rfl):Xy P (ZA ops k) F h [] (.i (a / b)):=by
 unfold Bz at hc
 generalize hoo:ZA ops k=o at hc
 obtain ⟨dst,op,type,pos,after,guard⟩:=o
 cases op<;>simp only at hc<;>try (cases hc)
 rename_i bop t x y yt
 cases bop<;>simp only [Zq,reduceCtorEq,if_false,if_true] at hc<;>try (cases hc)
 split at hc
 ·rename_i z yk h1 h2
  cases hc
  intro n' w G ac hF hh
  have v1:=hF.ev x
  have v2:=hF.ev y
  rw [h1] at v1
  rw [h2] at v2
  have v1:=v1.val_inv
  have v2:=v2.val_inv
  refine ⟨_,.val,fun w' _ _=>?_⟩
  simp only [execOp,v1,v2]
  refine Vi ?_
  have e1:a.tdiv b=a / b:=Int.tdiv_eq_ediv_of_nonneg ha.1
  have e2:IntKind.i64.wrap (a / b)=a / b:=Nf ⟨Int.ediv_nonneg ha.1 om,Int.le_trans (Int.ediv_le_self b ha.1) ha.2⟩
  have e3:b≠0:=by omega
  simp [eqGuard,binOp,Op.intDiv,e1,e2,e3]
 ·cases hc
theorem EE (a b:Int) (hb:0<b) (ha:0<=a) (hc:Bz ops F k .rem=some (a,b):=by kernel_rfl):Xy P (ZA ops k) F h [] (.i (a % b)):=by
 unfold Bz at hc
 generalize hoo:ZA ops k=o at hc
 obtain ⟨dst,op,type,pos,after,guard⟩:=o
 cases op<;>simp only at hc<;>try (cases hc)
 rename_i bop t x y yt
 cases bop<;>simp only [Zq,reduceCtorEq,if_false,if_true] at hc<;>try (cases hc)
 split at hc
 ·rename_i z yk h1 h2
  cases hc
  intro n' w G ac hF hh
  have v1:=hF.ev x
  have v2:=hF.ev y
  rw [h1] at v1
  rw [h2] at v2
  have v1:=v1.val_inv
  have v2:=v2.val_inv
  refine ⟨_,.val,fun w' _ _=>?_⟩
  simp only [execOp,v1,v2]
  refine Vi ?_
  have e1:a.tmod b=a % b:=Int.tmod_eq_emod_of_nonneg ha
  have e3:b≠0:=by omega
  simp [eqGuard,binOp,Op.intDiv,e1,e3]
 ·cases hc
theorem Cv (a b:Nat) (hb:0<b) (ha:a<=9223372036854775807) (hc:Bz ops F k .quo=some ((a:Int),(b:Int)):=by kernel_rfl):Xy P (ZA ops k) F h [] (.i (a / b:Nat)):=by
 rw [Int.natCast_ediv];exact LD a b om om hc
theorem GO (a b:Nat) (hb:0<b) (_ha:a<=9223372036854775807) (hc:Bz ops F k .rem=some ((a:Int),(b:Int)):=by kernel_rfl):Xy P (ZA ops k) F h [] (.i (a % b:Nat)):=by
 rw [Int.natCast_emod];exact EE a b om om hc
def Bj (a b:Int):Int:=IntKind.i64.wrap ((BitVec.ofInt 64 a ^^^ BitVec.ofInt 64 b).toNat:Int)
theorem HJ {a b:Int} (ha:0<=a/\a<4611686018427387904) (hb:0<=b/\b<4611686018427387904):0<=Bj a b/\Bj a b<4611686018427387904:=by
 obtain ⟨x,rfl⟩:=Int.eq_ofNat_of_zero_le ha.1
 obtain ⟨y,rfl⟩:=Int.eq_ofNat_of_zero_le hb.1
 have h1:(BitVec.ofInt 64 (x:Int) ^^^ BitVec.ofInt 64 (y:Int)).toNat=x ^^^ y:=by
  rw [BitVec.toNat_xor,BitVec.toNat_ofInt,BitVec.toNat_ofInt]
  have e1:((x:Int) % ((2 ^ 64:Nat):Int)).toNat=x:=by omega
  have e2:((y:Int) % ((2 ^ 64:Nat):Int)).toNat=y:=by omega
  rw [e1,e2]
 have h2:x ^^^ y<2 ^ 62:=Nat.xor_lt_two_pow om om
 rw [Bj,h1,Nf om]
 omega
theorem Rq (a b:Int) (hc:Bz ops F k .xor=some (a,b):=by kernel_rfl):Xy P (ZA ops k) F h [] (.i (Bj a b)):=by
 unfold Bz at hc
 generalize hoo:ZA ops k=o at hc
 obtain ⟨dst,op,type,pos,after,guard⟩:=o
 cases op<;>simp only at hc<;>try (cases hc)
 rename_i bop t x y yt
 cases bop<;>simp only [Zq,reduceCtorEq,if_false,if_true] at hc<;>try (cases hc)
 split at hc
 ·rename_i z yk h1 h2
  cases hc
  intro n' w G ac hF hh
  have v1:=hF.ev x
  have v2:=hF.ev y
  rw [h1] at v1
  rw [h2] at v2
  have v1:=v1.val_inv
  have v2:=v2.val_inv
  refine ⟨_,.val,fun w' _ _=>?_⟩
  simp only [execOp,v1,v2]
  refine Vi ?_
  simp [eqGuard,binOp,Op.intBits,IntKind.bits]
  exact Yu (fun z:Nat=>IntKind.i64.wrap (z:Int)) (by rw [BitVec.toNat_xor,BitVec.toNat_ofInt,BitVec.toNat_ofInt];rfl)
 ·cases hc
end
end Go.Abs
section
namespace Go.Abs
inductive Z1 where
 | mk (op num:Int) (kids:List Z1)
namespace Z1
def op:Z1->Int|.mk a _ _=>a
def num:Z1->Int|.mk _ a _=>a
def kids:Z1->List Z1|.mk _ _ a=>a
end Z1
structure Func where
 params:LI
 result:Int
 body:Z1
structure Wc where
 decls:List Zf
 funcs:List Func
instance:Inhabited Z1:=⟨.mk 0 0 []⟩
mutual
def IE:Z1->AV
 | .mk op num kids=>.agg [.i op,.i num,.sl (Yt kids) none]
def Yt:List Z1->List AV
 | []=>[]
 | e::r=>IE e::Yt r
end
abbrev Y8 (e:Z1):AV:=.agg [.i e.op,.i e.num,.sl (Yt e.kids) none]
abbrev X2 (e:Z1):List AV:=[.i e.op,.i e.num,.sl (Yt e.kids) none]
abbrev XE (xs:List Z1):AV:=.sl (Yt xs) none
abbrev K9 (xs:List Z1) (v:Value):AV:=.sl (Yt xs) (some v)
abbrev E2 (f:Func):AV:=.agg [Z4 f.params,.i f.result,.i f.body.op,.i f.body.num,XE f.body.kids]
abbrev GS (f:Func):List AV:=[Z4 f.params,.i f.result,.i f.body.op,.i f.body.num,XE f.body.kids]
def Xw (xs:List Func):List AV:=xs.map E2
abbrev H3 (xs:List Func):AV:=.sl (Xw xs) none
abbrev AN (p:Wc):AV:=.agg [ZP p.decls,H3 p.funcs]
abbrev LK (p:Wc):List AV:=[ZP p.decls,H3 p.funcs]
abbrev HV (z:Int):AV:=.val (.int .u8 z)
def Qk (xs:LI):List AV:=xs.map HV
abbrev Ui (xs:LI):AV:=.sl (Qk xs) none
theorem Z7u (e:Z1):IE e=Y8 e:=by cases e;rw [IE];rfl
theorem XV:∀xs:List Z1,Yt xs=xs.map Y8
 | []=>by rw [Yt];rfl
 | s::ss=>by rw [Yt,XV ss,Z7u];rfl
theorem D8 {xs:List Z1} {j:Nat} {x:Z1} (h:xs[j]? = some x):(Yt xs)[j]? = some (Y8 x):=by simp [XV,h]
theorem FW {xs:List Func} {j:Nat} {x:Func} (h:xs[j]? = some x):(Xw xs)[j]? = some (E2 x):=by simp [Xw,h]
theorem D5 {xs:LI} {j:Nat} {x:Int} (h:xs[j]? = some x):(Qk xs)[j]? = some (HV x):=by simp [Qk,h]
@[simp] theorem IF (xs:List Z1):(Yt xs).length=xs.length:=by simp [XV]
@[simp] theorem D9 (xs:List Func):(Xw xs).length=xs.length:=by simp [Xw]
@[simp] theorem Jq (xs:LI):(Qk xs).length=xs.length:=by simp [Qk]
theorem Ap (xs ys:List Z1):Yt (xs++ys)=Yt xs++Yt ys:=by simp [XV]
theorem Z7v (xs ys:List Func):Xw (xs++ys)=Xw xs++Xw ys:=by simp [Xw]
theorem IB (xs:LI) (n:Nat):(Qk xs).take n=Qk (xs.take n):=by simp [Qk]
theorem IA (xs:LI) (n:Nat):(Qk xs).drop n=Qk (xs.drop n):=by simp [Qk]
theorem Tx (xs:List Z1):∀y∈Yt xs,y.leaves.length=3:=by intro y hy;simp only [XV,XF] at hy;obtain ⟨x,_,rfl⟩:=hy;rfl
theorem FX (xs:List Func):∀y∈Xw xs,y.leaves.length=5:=by intro y hy;simp only [Xw,XF] at hy;obtain ⟨x,_,rfl⟩:=hy;rfl
theorem Z7o (xs:LI):∀y∈Qk xs,y.leaves.length=1:=by intro y hy;simp only [Qk,XF] at hy;obtain ⟨x,_,rfl⟩:=hy;rfl
theorem Aq (xs:List Z1):(Zi (Yt xs)).all AV.one=true:=Js fun y hy=>by simp only [XV,XF] at hy;obtain ⟨x,_,rfl⟩:=hy;rfl
end Go.Abs
end
section
namespace Go.Abs
open Go.Proofs Go.Proofs.YtfjgjacklgaioaaGreat
section
variable {H:Type} {enc:TypeId × Value->H} {w:World}
def GA (w:World):Yd:=fun b _=>b<w.heap.size
abbrev Tr (enc:TypeId × Value->H) (w:World) (n:Nat) (t:TypeId) (cs:List Value) (x:DataW H × List MemPlace):Prop:=DataW.trod enc Tryz.prog w 0 (fun _=>true) true n t cs=some x
theorem RY {w:World} {a:Addr} {v:Value} (h:w.cell? a=some v):a.block<w.heap.size/\a.spot=none:=by
 unfold World.cell? at h
 split at h
 ·rename_i c e fr hb
  split at h
  ·cases h
  ·rename_i hs
   exact ⟨(T5.1 hb).1,by simpa using hs⟩
 ·cases h
theorem NY {α:Type} {c:α->Nat}:∀{xs:List α} {ds:List (DataW H)},xs.length=ds.length->(∀(i:Nat) a d,xs[i]? = some a->ds[i]? = some d->c a+1<=Rows.uptoBulk d)->(xs.map fun a=>c a+1).sum<=Rows.uptoBulkAll ds
 | [],[],_,_=>YU _
 | a::r,d::ds,hl,h=>by
  have h0:=h 0 a d rfl rfl
  have h1:=NY (c:=c) (xs:=r) (ds:=ds) (by simpa using hl) fun i a d ha hd=>h (i+1) a d (by simpa using ha) (by simpa using hd)
  rw [Vt,List.sum_cons,Rows.uptoBulkAll]
  omega
theorem SZ {α:Type} {f:α->AV} {G:Yd} {k b:Nat} (hf:∀x,(f x).leaves.length=k):∀{xs:List α} {o:Nat},(∀(i:Nat) a,xs[i]? = some a->WD w G b (o+i*k) (f a).leaves)->Vd w G k b o (xs.map f)
 | [],_,_=>.nil
 | x::r,o,h=>by
  refine .cons (hf x) (by have:=h 0 x rfl;simpa using this) (SZ hf fun i a ha=>?_)
  have:=h (i+1) a (by simpa using ha)
  rw [show o+(i+1)*k=o+k+i*k by rw [K3];omega] at this
  exact this
theorem Zg8 {α:Type} [Inhabited α] {t e k:Nat} (ht:Tryz.prog.underlying t=some (.slice e)) (hk:Tryz.prog.cellsOf e=k) (h0:0<k) (f:α->AV) (hf:∀x,(f x).leaves.length=k) (c:α->Nat) (Q:α->Prop) {n:Nat} {cs:List Value} {x:DataW H × List MemPlace}
  (h:Tr enc w n t cs x) (el:∀m cs y,m<n->Tr enc w m e cs y->∃a:α,YV w (GA w) (f a).leaves cs/\c a+1<=Rows.uptoBulk y.1/\Q a) :
  ∃(v:Value) (xs:List α),cs=[v]/\RV w (GA w) (.sl (xs.map f) none) v/\(xs.map fun a=>c a+1).sum+1<=Rows.uptoBulk x.1/\∀a∈xs,Q a:=by
 rcases DataW.trod_slice ht h with ⟨rfl,rfl⟩|⟨a,len,cap,elems,rest,m,rfl,rfl,rfl,_,hlc,_,hlen,hel,_,_⟩
 ·exact ⟨_,[],rfl,.nil (by simp),by simp [Rows.uptoBulk],by simp⟩
 ·rw [hk] at hel
  have hone:∀i,i<len->∃z:α,∃cs' y,w.cells? 0 (a.add (i*k)) k=some cs'/\elems[i]? = some y/\YV w (GA w) (f z).leaves cs'/\c z+1<=Rows.uptoBulk y.1/\Q z:=by
   intro i hi
   have h1:=hel i hi
   rw [TL om] at h1
   obtain ⟨cs',h2,h3⟩:=Option.bind_eq_some_iff.1 h1
   obtain ⟨z,hz1,hz2,hz3⟩:=el m cs' _ om h3
   exact ⟨z,cs',_,h2,TL om,hz1,hz2,hz3⟩
  obtain ⟨V,hV⟩:=Go.Deep.choose_lt hone
  refine ⟨_,(List.range len).map V,rfl,?_,?_,?_⟩
  ·cases hl0:len with
   | zero=>exact .nil (by simp)
   | succ q=>
    have hsp:a.spot=none:=by
     obtain ⟨cs',y,g1,_⟩:=hV 0 om
     obtain ⟨_,g2,g3⟩:=World.cells?_some g1
     have g4:=g3 0 h0
     rw [TL om] at g4
     have g5:=(RY g4).2
     simpa [Addr.add] using g5
    obtain ⟨b,o,sp⟩:=a
    simp only at hsp
    subst hsp
    rw [<-hl0]
    have hll:(((List.range len).map V).map f).length=len:=by simp
    have:=RV.sl (w:=w) (G:=GA w) (es:=((List.range len).map V).map f) (hv:=none) (b:=b) (o:=o) (k:=k) (cap:=cap) (by simp) (by rw [hll];exact hlc) (SZ hf fun i z hz=>by
     have hi:i<len:=by have:=(Xq.1 hz).1;simpa using this
     have hz':V i=z:=by simpa [hi] using hz
     obtain ⟨cs',y,g1,_,g2,_⟩:=hV i hi
     rw [hz'] at g2
     obtain ⟨_,g3,g4⟩:=World.cells?_some g1
     refine WD.of_cells g2 fun j u hj=>?_
     have hjl:j<k:=by have:=(Xq.1 hj).1;omega
     have g5:=(g4 j hjl).trans hj
     rw [Addr.add_lit,Addr.add_lit] at g5
     exact ⟨g5,(RY g5).1⟩)
    rw [hll] at this
    exact this
  ·have:=NY (c:=c) (xs:=(List.range len).map V) (ds:=elems.map (·.1)) (by simp [hlen]) fun i z d hz hd=>by
    have hi:i<len:=by have:=(Xq.1 hz).1;simpa using this
    have hz':V i=z:=by simpa [hi] using hz
    obtain ⟨cs',y,_,g1,_,g2,_⟩:=hV i hi
    rw [TM,g1] at hd
    simp only [C6,Wm] at hd
    rw [<-hd,<-hz']
    exact g2
   simp only [Rows.uptoBulk]
   omega
  ·intro z hz
   obtain ⟨i,hi,rfl⟩:=XF.1 hz
   obtain ⟨_,_,_,_,_,_,g⟩:=hV i (List.mem_range.1 hi)
   exact g
theorem Zg6 {n:Nat} {cs:List Value} {x:DataW H × List MemPlace} (h:Tr enc w n 5 cs x):∃z:Int,cs=[.int .u8 z]/\Rows.uptoBulk x.1=1/\0<=z/\z<=255:=by
 obtain ⟨z,rfl,rfl,hw⟩:=DataW.trod_int Tryz.underlying5 h
 refine ⟨z,rfl,rfl,?_⟩
 simpa [Lit.wf,IntKind.min,IntKind.max,IntKind.signed,IntKind.bits] using hw
theorem Zg7 {n:Nat} {cs:List Value} {x:DataW H × List MemPlace} (h:Tr enc w n 22 cs x):∃(v:Value) (xs:LI),cs=[v]/\RV w (GA w) (Ui xs) v/\∀z∈xs,0<=z/\z<=255:=by
 obtain ⟨v,xs,h1,h2,h3,h4⟩:=Zg8 Tryz.underlying22 (k:=1) kr om (fun z:Int=>HV z) (fun _=>rfl) (fun _=>0) (fun z=>0<=z/\z<=255) h fun m cs y _ hy=>by
  obtain ⟨z,rfl,hb,hz⟩:=Zg6 hy
  exact ⟨z,.cons .val .nil,Nat.le_of_eq hb.symm,hz⟩
 exact ⟨v,xs,h1,h2,h4⟩
end
end Go.Abs
end
namespace Go.Abs
structure Sg where
 params:LI
 result:Int
abbrev Np (f:Sg):AV:=.agg [.sl (Z8 f.params) none,.i f.result,.i 0,.i 0,.sl [] none]
def Uv (fs:List Sg):List AV:=fs.map Np
theorem IM {xs:List Sg} {j:Nat} {x:Sg} (h:xs[j]? = some x):(Uv xs)[j]? = some (Np x):=by simp [Uv,h]
@[simp] theorem OP (xs:List Sg):(Uv xs).length=xs.length:=by simp [Uv]
theorem OO (xs:List Sg):∀y∈Uv xs,y.leaves.length=5:=by intro y hy;simp only [Uv,XF] at hy;obtain ⟨x,_,rfl⟩:=hy;rfl
theorem Z85 (xs:List Sg):(Zi (Uv xs)).all AV.one=true:=Js fun y hy=>by simp only [Uv,XF] at hy;obtain ⟨x,_,rfl⟩:=hy;rfl
mutual
def Z5.sz:Z5->Nat
 | .mk _ _ _ args kids=>1+args.length+X3 kids
def Z6.sz:Z6->Nat
 | .mk steps _=>1+Yf steps
def Yf:List Z5->Nat
 | []=>0
 | s::r=>s.sz+Yf r
def X3:List Z6->Nat
 | []=>0
 | b::r=>b.sz+X3 r
end
theorem Z5.sz_pos (s:Z5):1<=s.sz:=by cases s;rw [Z5.sz];omega
theorem Z6.sz_pos (b:Z6):1<=b.sz:=by cases b;rw [Z6.sz];omega
theorem JG (l:List Z5):l.length<=Yf l:=by
 induction l with
 | nil=>simp
 | cons s r ih=>have:=s.sz_pos;simp only [YW,Yf];omega
theorem NV (l:List Z6):l.length<=X3 l:=by
 induction l with
 | nil=>simp
 | cons s r ih=>have:=s.sz_pos;simp only [YW,X3];omega
theorem Z1x {l:List Z5} {k:Nat} {s:Z5} (h:l[k]? = some s):s.sz<=Yf l:=by
 induction l generalizing k with
 | nil=>simp at h
 | cons t r ih=>
  cases k with
  | zero=>simp at h;subst h;simp only [Yf];omega
  | succ k=>have:=ih (k:=k) (by simpa using h);simp only [Yf];omega
theorem NU {l:List Z6} {k:Nat} {s:Z6} (h:l[k]? = some s):s.sz<=X3 l:=by
 induction l generalizing k with
 | nil=>simp at h
 | cons t r ih=>
  cases k with
  | zero=>simp at h;subst h;simp only [X3];omega
  | succ k=>have:=ih (k:=k) (by simpa using h);simp only [X3];omega
theorem Z5.sz_eq (s:Z5):s.sz=1+s.args.length+X3 s.kids:=by cases s;rw [Z5.sz];rfl
theorem Z6.sz_eq (b:Z6):b.sz=1+Yf b.steps:=by cases b;rw [Z6.sz];rfl
theorem Ab {b:Z6} {k:Nat} {s:Z5} (h:b.steps[k]? = some s):s.sz<b.sz:=by have:=Z1x h;have:=b.sz_eq;omega
theorem TF {s:Z5} {k:Nat} {b:Z6} (h:s.kids[k]? = some b):b.sz<s.sz:=by have:=NU h;have:=s.sz_eq;omega
theorem K6 (s:Z5):s.args.length<s.sz:=by have:=s.sz_eq;omega
theorem Te (s:Z5):s.kids.length<s.sz:=by have:=s.sz_eq;have:=NV s.kids;omega
theorem T3 (b:Z6):b.steps.length<b.sz:=by have:=b.sz_eq;have:=JG b.steps;omega
structure KN (ds:List Zf):Prop where
 len:ds.length<=4194304
 cons:∀d∈ds,d.cons.length<=4194304
 fields:∀d∈ds,∀c∈d.cons,c.fields.length<=4194304
theorem KN.cons_at {ds:List Zf} (h:KN ds) {k:Nat} {d:Zf} (hd:ds[k]? = some d):d.cons.length<=4194304:=h.cons d (Y0 hd)
theorem KN.fields_at {ds:List Zf} (h:KN ds) {k j:Nat} {d:Zf} {c:Yg} (hd:ds[k]? = some d) (hc:d.cons[j]? = some c):c.fields.length<=4194304:=
 h.fields d (Y0 hd) c (Y0 hc)
def JY (m:Nat) (c:Yg):Bool:=decide (c.fields.length<=3)&&Wo m c.fields
def Ko (d:Zf):List Zf->Bool
 | []=>false
 | e::r=>if e.cons.length=0/\e.frm=d.frm/\e.to_=d.to_ then true else Ko d r
def Q5 (m:Nat):List Yg->Bool
 | []=>true
 | c::r=>if JY m c=true then Q5 m r else false
def UT (ds:List Zf) (d:Zf) (i:Nat):Bool:=
 if 0<d.cons.length then (if d.cons.length<=3/\d.frm=0/\d.to_=0 then Q5 ds.length d.cons else false)
 else if Ko d (ds.take i)=true then false else decide (0<=d.frm/\d.frm<=ds.length)&&decide (0<=d.to_/\d.to_<=ds.length)
def Cf (ds:List Zf) (i:Nat):Bool:=(ds[i]?.map fun d=>UT ds d i).getD false
theorem Eg {ds:List Zf} {i:Nat} {d:Zf} (h:ds[i]? = some d):Cf ds i=UT ds d i:=by rw [Cf,h];rfl
def Tw (ds:List Zf):List Zf->Nat->Bool
 | [],_=>true
 | _::r,i=>if Cf ds i=true then Tw ds r (i+1) else false
def V2 (ds:List Zf):Bool:=decide (ds.length<=4)&&Tw ds ds 0
theorem Om {m:Nat} {cs:List Yg}:Q5 m cs=true↔∀c∈cs,JY m c=true:=by
 induction cs with
 | nil=>simp [Q5]
 | cons c r ih=>
  rw [Q5]
  split
  ·rename_i h;simp [ih,h]
  ·rename_i h;simp [h]
theorem Ir {ds:List Zf}:∀{l:List Zf} {i:Nat},Tw ds l i=true↔∀j<l.length,Cf ds (i+j)=true
 | [],i=>by simp [Tw]
 | d::r,i=>by
  rw [Tw]
  split
  ·rename_i h
   rw [Ir (l:=r)]
   constructor
   ·intro hq j hj
    cases j with
    | zero=>exact h
    | succ j=>have:=hq j (by simpa using hj);rwa [show i+(j+1)=i+1+j by omega]
   ·intro hq j hj
    have:=hq (j+1) (by simpa using hj)
    rwa [show i+(j+1)=i+1+j by omega] at this
  ·rename_i h
   simp only [Bool.false_eq_true,false_iff]
   intro hq
   exact h (hq 0 (by simp))
theorem Zkw {ds:List Zf} (h:V2 ds=true):Wu ds:=by
 simp only [V2,W5,decide_eq_true_eq] at h
 obtain ⟨h1,h2⟩:=h
 rw [Ir] at h2
 have key:∀d∈ds,∃i,UT ds d i=true:=fun d hd=>by
  obtain ⟨i,hi⟩:=List.mem_iff_getElem?.1 hd
  have:=h2 i (Xq.1 hi).1
  rw [Vl,Eg hi] at this
  exact ⟨i,this⟩
 have hc:∀d∈ds,0<d.cons.length->d.cons.length<=3/\Q5 ds.length d.cons=true:=fun d hd hp=>by
  obtain ⟨i,hi⟩:=key d hd
  rw [UT,Ze hp] at hi
  split at hi
  ·rename_i h;exact ⟨h.1,hi⟩
  ·cases hi
 refine ⟨h1,fun d hd=>?_,fun d hd c hc'=>?_⟩
 ·by_cases hp:0<d.cons.length
  ·exact (hc d hd hp).1
  ·omega
 ·have:=Om.1 (hc d hd (List.length_pos_of_mem hc')).2 c hc'
  simp only [JY,W5,decide_eq_true_eq] at this
  exact this.1
def Jb (m:Nat) (f:Sg):Bool:=decide (f.params.length<=3)&&(Wo m f.params&&decide (0<=f.result/\f.result<=m))
def JC (m:Nat):List Sg->Bool
 | []=>true
 | f::r=>if Jb m f=true then JC m r else false
def Gc:List Sg->Bool
 | []=>false
 | f::_=>decide (f.params.length=0)&&decide (f.result=0)
theorem Z8q {fs:List Sg} {x:Sg} (h:fs[0]? = some x):Gc fs=(decide (x.params.length=0)&&decide (x.result=0)):=by
 cases fs with
 | nil=>simp at h
 | cons f r=>simp at h;subst h;rfl
def Kf (ds:List Zf) (fs:List Sg):Bool:=
 V2 ds&&(decide (1<=fs.length/\fs.length<=4)&&(JC ds.length fs&&Gc fs))
def K8 (ps:LI):LI->Option Int->Bool
 | [],_=>true
 | v::r,prev=>if (0<=v/\v<=(ps.length:Int)-1)/\ps[v.toNat]?≠some 0/\(∀p,prev=some p->p<v) then K8 ps r (some v) else false
theorem LQ {ps r:LI} {v:Int} {prev:Option Int} (h:(0<=v/\v<=(ps.length:Int)-1)/\ps[v.toNat]?≠some 0/\(∀p,prev=some p->p<v)):K8 ps (v::r) prev=K8 ps r (some v):=by
 rw [K8,Ze h]
theorem GZ {ps r:LI} {v:Int} {prev:Option Int} (h:¬((0<=v/\v<=(ps.length:Int)-1)/\ps[v.toNat]?≠some 0/\(∀p,prev=some p->p<v))):K8 ps (v::r) prev=false:=by
 rw [K8,Z7 h]
def JM (ps ls:LI):Bool:=K8 ps ls none
def QV:List Yc->Bool
 | []=>true
 | r::rs=>if JM r.params r.lent=true then QV rs else false
def Ua (r:Yc):Sg:=⟨r.params,r.result⟩
def Vy (n:Zm):Bool:=decide (n.routines.length<=4)&&(Kf n.decls (n.routines.map Ua)&&QV n.routines)
end Go.Abs
section
namespace Go.Abs
def Xa {α:Type} (xs:List α) (i:Int):Option α:=if 0<=i/\i<=(xs.length:Int)-1 then xs[i.toNat]? else none
theorem Q3 {α:Type} {xs:List α} {i:Int} {x:α} (h:0<=i/\i<=(xs.length:Int)-1) (hx:xs[i.toNat]? = some x):Xa xs i=some x:=by rw [Xa,Ze h,hx]
theorem KR {α:Type} {xs:List α} {i:Int} (h:¬(0<=i/\i<=(xs.length:Int)-1)):Xa xs i=none:=by rw [Xa,Z7 h]
theorem KS {α:Type} {xs:List α} {i:Int} {x:α} (h:Xa xs i=some x):(0<=i/\i<=(xs.length:Int)-1)/\xs[i.toNat]? = some x:=by
 rw [Xa] at h
 split at h
 ·rename_i h1;exact ⟨h1,h⟩
 ·cases h
def Tj (vars:LI):LI->LI->Bool
 | [],[]=>true
 | a::as1,t::ts=>if Xa vars a=some t then Tj vars as1 ts else false
 | _,_=>false
def W9 (vars args types:LI):Bool:=Tj vars args types
theorem N1 {vars:LI}:∀{args types:LI},args.length≠types.length->Tj vars args types=false
 | [],[],h=>absurd rfl h
 | [],_::_,_=>rfl
 | _::_,[],_=>rfl
 | a::as1,t::ts,h=>by
  rw [Tj]
  split
  ·exact N1 (by simpa using h)
  ·rfl
theorem Zko {vars args types:LI} {k:Nat} {a t:Int} (ha:args[k]? = some a) (ht:types[k]? = some t) (h:Xa vars a=some t) :
  Tj vars (args.drop k) (types.drop k)=Tj vars (args.drop (k+1)) (types.drop (k+1)):=by
 rw [Y5 ha,Y5 ht,Tj,Ze h]
theorem Z2m {vars args types:LI} {k:Nat} {a t:Int} (ha:args[k]? = some a) (ht:types[k]? = some t) (h:Xa vars a≠some t) :
  Tj vars (args.drop k) (types.drop k)=false:=by
 rw [Y5 ha,Y5 ht,Tj,Z7 h]
theorem Zkm {vars args types:LI} {k:Nat} (ha:args.length<=k) (ht:types.length<=k):Tj vars (args.drop k) (types.drop k)=true:=by
 rw [Xj ha,Xj ht];rfl
def VE (op:Int):Bool:=op==0||(op==6||(op==8||(op==9||op==10)))
def W7 (op:Int):Bool:=decide (0<=op/\op<=11)
def Yx (op:Int):Bool:=decide (14<=op/\op<=17)
def U5 (vars:LI) (op into:Int):Bool:=
 if into=0 then true else if op=6 then ((Xa vars (into-1)).map fun t=>decide (0<t)).getD false else false
def Jm (ds:List Zf) (ps:LI) (res:Int):Int:=Ut ds (ps.getLast?.getD 0) res
def Ja (ds:List Zf) (vars:LI) (op:Int) (args:LI) (r:Yc):Int:=
 if op=9 then (if W9 vars args r.params=true then r.result else -1)
 else if r.params.length=0∨0<r.lent.length∨¬W9 vars args (r.params.take (r.params.length-1))=true then -1
 else Jm ds r.params r.result
def Us (n:Zm) (vars:LI) (op num:Int) (args:LI):Int:=
 match Xa n.routines num with
 | none=>-1
 | some r=>Ja n.decls vars op args r
def Qj (ds:List Zf) (vars:LI) (op:Int) (args:LI):Int:=
 match args with
 | [a]=>match Xa vars a with
  | some t=>if t=0 then -1 else if (op≠14/\op≠15)/\XT ds t=true then -1 else 0
  | none=>-1
 | _=>-1
def Kj (ds:List Zf) (vars:LI) (args:LI):Int:=
 match args with
 | [a,b]=>match Xa vars a with
  | some t=>if XT ds t=true then
    (match ds[(t-1).toNat]? with
     | some d=>if W9 vars [b] [d.frm]=true then d.to_ else -1
     | none=>-1) else -1
  | none=>-1
 | _=>-1
def X9 (ds:List Zf) (op num:Int):List LI:=if op=7 then [[],[]] else (ZW ds num).map (ZX ds)
mutual
def Y2 (n:Zm) (vars:LI):Z5->Int
 | .mk op num into args kids=>
  if (num≠0/\¬VE op=true)∨¬U5 vars op into=true∨(0<kids.length/\op≠7/\op≠8) then -1
  else if op=0 then (if args.length=0/\(-999<=num/\num<=999) then 0 else -1)
  else if op=1∨op=2∨op=3∨op=4 then (if W9 vars args [0,0]=true then 0 else -1)
  else if op=5 then (if W9 vars args [0]=true then 0 else -1)
  else if op=6 then (if 0<Wi n.decls num/\W9 vars args (ZX n.decls num)=true then Wi n.decls num else -1)
  else if op=7 then (if W9 vars args [0]=true then (if (X9 n.decls op num).length=0∨kids.length≠(X9 n.decls op num).length then -1 else XY n vars kids (X9 n.decls op num) true 0) else -1)
  else if op=8 then (if W9 vars args [num]=true then (if (X9 n.decls op num).length=0∨kids.length≠(X9 n.decls op num).length then -1 else XY n vars kids (X9 n.decls op num) true 0) else -1)
  else if op=9∨op=10 then Us n vars op num args
  else if op=11 then Kj n.decls vars args
  else if op=14∨op=15∨op=16∨op=17 then Qj n.decls vars op args
  else -1
def XY (n:Zm) (vars:LI):List Z6->List LI->Bool->Int->Int
 | [],_,_,t=>t
 | b::bs,more,first,t=>
  match more with
  | []=>-1
  | m::ms=>if YT n (vars++m) b<0∨(first=false/\YT n (vars++m) b≠t) then -1 else XY n vars bs ms false (YT n (vars++m) b)
def Xp (n:Zm):List Z5->LI->Option LI
 | [],vars=>some vars
 | s::r,vars=>if Y2 n vars s<0 then none else Xp n r (if W7 s.op=true then vars++[Y2 n vars s] else vars)
def YT (n:Zm) (vars:LI):Z6->Int
 | .mk steps result=>match Xp n steps vars with
  | none=>-1
  | some vs=>(Xa vs result).getD (-1)
end
def TX (n:Zm) (vars:LI) (op num:Int) (kids:List Z6):Int:=
 if (X9 n.decls op num).length=0∨kids.length≠(X9 n.decls op num).length then -1 else XY n vars kids (X9 n.decls op num) true 0
mutual
def BH:Z5->Int->Int
 | .mk _ _ _ _ kids,left=>QU kids left
def WU:Z6->Int->Int
 | .mk steps _,left=>Qw steps left
def Qw:List Z5->Int->Int
 | [],left=>left
 | s::r,left=>if left<1 then -1 else if BH s (left-1)<0 then -1 else Qw r (BH s (left-1))
def QU:List Z6->Int->Int
 | [],left=>left
 | b::r,left=>if WU b left<0 then -1 else QU r (WU b left)
end
def UB (b:Z6):Int:=if WU b 600<0 then -1 else 600-WU b 600
def Qy (n:Zm):List Yc->Bool
 | []=>true
 | r::rs=>if ¬UB r.body<0/\YT n r.params r.body=r.result then Qy n rs else false
def WC (n:Zm):Bool:=Vy n&&Qy n n.routines
theorem LP:(∀(s:Z5) (l:Int),0<=l->BH s l<=l)/\(∀(b:Z6) (l:Int),0<=l->WU b l<=l):=by
 have key:∀m:Nat,(∀s:Z5,s.sz<=m->∀l:Int,0<=l->BH s l<=l)/\(∀b:Z6,b.sz<=m->∀l:Int,0<=l->WU b l<=l):=by
  intro m
  induction m with
  | zero=>exact ⟨fun s h=>by have:=s.sz_pos;omega,fun s h=>by have:=s.sz_pos;omega⟩
  | succ m ih=>
   refine ⟨fun s hs l hl=>?_,fun b hb l hl=>?_⟩
   ·cases s with
    | mk op num into args kids=>
     rw [BH]
     have hk:X3 kids<=m:=by rw [Z5.sz] at hs;omega
     clear hs
     induction kids generalizing l with
     | nil=>rw [QU];exact Int.le_refl _
     | cons b r ihr=>
      rw [X3] at hk
      have:=ih.2 b om l hl
      rw [QU]
      split
      ·omega
      ·have:=ihr (WU b l) om om;omega
   ·cases b with
    | mk steps res=>
     rw [WU]
     have hk:Yf steps<=m:=by rw [Z6.sz] at hb;omega
     clear hb
     induction steps generalizing l with
     | nil=>rw [Qw];exact Int.le_refl _
     | cons s r ihr=>
      rw [Yf] at hk
      rw [Qw]
      split
      ·omega
      ·have:=ih.1 s om (l-1) om
       split
       ·omega
       ·have:=ihr (BH s (l-1)) om om;omega
 exact ⟨fun s l hl=>(key s.sz).1 s (YU _) l hl,fun b l hl=>(key b.sz).2 b (YU _) l hl⟩
end Go.Abs
namespace Go.Abs
theorem Zjf {l:List Z5} {k:Nat} {s:Z5} (h:l[k]? = some s):k+s.sz<=Yf l:=by
 induction l generalizing k with
 | nil=>simp at h
 | cons t r ih=>
  cases k with
  | zero=>simp at h;subst h;simp only [Yf];omega
  | succ k=>have:=ih (k:=k) (by simpa using h);have:=t.sz_pos;simp only [Yf];omega
theorem DM {b:Z6} {k:Nat} {s:Z5} (h:b.steps[k]? = some s):k+s.sz<b.sz:=by have:=Zjf h;have:=b.sz_eq;omega
structure X4 (n:Zm):Prop where
 decls:Wu n.decls
 len:n.routines.length<=4
 params:∀r∈n.routines,r.params.length<=3
 lent:∀r∈n.routines,r.lent.length<=4194304
theorem X4.params_at {n:Zm} (h:X4 n) {k:Nat} {r:Yc} (hr:n.routines[k]? = some r):r.params.length<=3:=h.params r (Y0 hr)
theorem X4.lent_at {n:Zm} (h:X4 n) {k:Nat} {r:Yc} (hr:n.routines[k]? = some r):r.lent.length<=4194304:=h.lent r (Y0 hr)
theorem Z4g {ds:List Zf} {num:Int} {k:Nat} {x:Int} (h:(ZW ds num)[k]? = some x):(X9 ds 8 num)[k]? = some (ZX ds x):=by
 rw [X9,Z7 om,TM,h];rfl
end Go.Abs
namespace Go.Abs
theorem M3 {ds:List Zf} (hd:Wu ds) (t:Int):(ZW ds t).length<=3:=by
 rw [ZW]
 split
 ·rename_i h
  obtain ⟨d,hd1⟩:=J1 (xs:=ds) (j:=(t-1).toNat) om
  rw [hd1,Sd]
  exact hd.cons_at hd1
 ·simp
theorem Uu {ds:List Zf} (hd:Wu ds) (c:Int):(ZX ds c).length<=3:=by
 by_cases h:Wi ds c<1
 ·rw [(FL h).1];simp
 ·obtain ⟨k,d,x,h1,_,h3,_,h5⟩:=In h
  rw [h5];exact hd.fields_at h1 h3
theorem E6 {ds:List Zf} (hd:Wu ds) {op num:Int} {k:Nat} {m:LI} (h:(X9 ds op num)[k]? = some m):m.length<=3:=by
 have hm:=Y0 h
 rw [X9] at hm
 split at hm
 ·simp at hm;subst hm;simp
 ·obtain ⟨c,_,rfl⟩:=XF.1 hm;exact Uu hd c
theorem Jl {α:Type} {xs:List α} {x:α} (h:xs.length=1) (hx:xs[0]? = some x):xs=[x]:=by
 cases xs with
 | nil=>simp at h
 | cons a r=>
  cases r with
  | nil=>simp at hx;rw [hx]
  | cons b r=>simp at h
theorem D1 {ds:List Zf} {us args:LI} {op:Int} (h:args.length≠1):Qj ds us op args=-1:=by
 cases args with
 | nil=>rfl
 | cons a r=>
  cases r with
  | nil=>simp at h
  | cons b r=>rfl
theorem D3 {ds:List Zf} {us args:LI} {op a:Int} (h:args=[a]) (hi:¬(0<=a/\a<=(us.length:Int)-1)):Qj ds us op args=-1:=by
 subst h;rw [Qj];simp only [KR hi]
theorem D0 {ds:List Zf} {us args:LI} {op a t:Int} (h:args=[a]) (hi:0<=a/\a<=(us.length:Int)-1) (ht:us[a.toNat]? = some t) :
  Qj ds us op args=if t=0 then -1 else if (op≠14/\op≠15)/\XT ds t=true then -1 else 0:=by
 subst h;rw [Qj];simp only [Q3 hi ht]
theorem Zgk {n:Zm} {us args:LI} {op num:Int} {r:Yc} (hi:0<=num/\num<=(n.routines.length:Int)-1) (hr:n.routines[num.toNat]? = some r) :
  Us n us op num args=Ja n.decls us op args r:=by
 rw [Us];simp only [Q3 hi hr]
theorem Zgm {n:Zm} {us args:LI} {op num:Int} (hi:¬(0<=num/\num<=(n.routines.length:Int)-1)):Us n us op num args=-1:=by
 rw [Us];simp only [KR hi]
theorem PG {xs:LI} {x:Int} (h:xs[xs.length-1]? = some x):xs.getLast?.getD 0=x:=by
 rw [List.getLast?_eq_getElem?,h];rfl
theorem RC {n:Zm} {us:LI} {bs:List Z6} {ms:List LI} {b:Z6} {m:LI} {k:Nat} {t:Int} (hb:bs[k]? = some b) (hm:ms[k]? = some m)
  (h:¬(YT n (us++m) b<0∨(k:Int)>0/\YT n (us++m) b≠t)) :
  XY n us (bs.drop k) (ms.drop k) (decide (k=0)) t=XY n us (bs.drop (k+1)) (ms.drop (k+1)) (decide (k+1=0)) (YT n (us++m) b):=by
 rw [Y5 hb,Y5 hm,XY,Z7]
 ·simp
 ·rintro (q|⟨q1,q2⟩)
  ·exact h (.inl q)
  ·exact h (.inr ⟨by simp at q1;omega,q2⟩)
theorem RA {n:Zm} {us:LI} {bs:List Z6} {ms:List LI} {b:Z6} {m:LI} {k:Nat} {t:Int} (hb:bs[k]? = some b) (hm:ms[k]? = some m)
  (h:YT n (us++m) b<0∨(k:Int)>0/\YT n (us++m) b≠t) :
  XY n us (bs.drop k) (ms.drop k) (decide (k=0)) t=-1:=by
 rw [Y5 hb,Y5 hm,XY,Ze]
 rcases h with q|⟨q1,q2⟩
 ·exact .inl q
 ·exact .inr ⟨by simp;omega,q2⟩
theorem RB {n:Zm} {us:LI} {bs:List Z6} {ms:List LI} {k:Nat} {f:Bool} {t:Int} (hb:bs.length<=k):XY n us (bs.drop k) (ms.drop k) f t=t:=by
 rw [Xj hb,XY]
end Go.Abs
end
namespace Go.Abs
theorem Aa (n:Zm) (us:LI) (s:Z5):Y2 n us s =
  if (s.num≠0/\¬VE s.op=true)∨¬U5 us s.op s.into=true∨(0<s.kids.length/\s.op≠7/\s.op≠8) then -1
  else if s.op=0 then (if s.args.length=0/\(-999<=s.num/\s.num<=999) then 0 else -1)
  else if s.op=1∨s.op=2∨s.op=3∨s.op=4 then (if W9 us s.args [0,0]=true then 0 else -1)
  else if s.op=5 then (if W9 us s.args [0]=true then 0 else -1)
  else if s.op=6 then (if 0<Wi n.decls s.num/\W9 us s.args (ZX n.decls s.num)=true then Wi n.decls s.num else -1)
  else if s.op=7 then (if W9 us s.args [0]=true then TX n us s.op s.num s.kids else -1)
  else if s.op=8 then (if W9 us s.args [s.num]=true then TX n us s.op s.num s.kids else -1)
  else if s.op=9∨s.op=10 then Us n us s.op s.num s.args
  else if s.op=11 then Kj n.decls us s.args
  else if s.op=14∨s.op=15∨s.op=16∨s.op=17 then Qj n.decls us s.op s.args
  else -1:=by
 cases s with
 | mk op num into args kids=>rw [Y2];rfl
theorem CS (n:Zm) (us:LI) (b:Z6):YT n us b=match Xp n b.steps us with
  | none=>-1
  | some vs=>(Xa vs b.result).getD (-1):=by
 cases b with
 | mk st r=>rw [YT];rfl
theorem NC {α:Type} {xs:List α} {x:α} (h:xs.length=2) (hx:xs[0]? = some x):∃y,xs=[x,y]:=by
 match xs,h with
 | [a,b],_=>simp at hx;subst hx;exact ⟨b,rfl⟩
theorem T7 {ds:List Zf} {us args:LI} (h:args.length≠2):Kj ds us args=-1:=by
 match args,h with
 | [],_=>rfl
 | [_],_=>rfl
 | [_,_],h=>simp at h
 | _::_::_::_,_=>rfl
theorem T8 {ds:List Zf} {us args:LI} {a:Int} (hl:args.length=2) (h:args[0]? = some a) (hi:¬(0<=a/\a<=(us.length:Int)-1)):Kj ds us args=-1:=by
 obtain ⟨y,rfl⟩:=NC hl h;rw [Kj];simp only [KR hi]
theorem UR {ds:List Zf} {us args:LI} {a t:Int} (hl:args.length=2) (h:args[0]? = some a) (hi:0<=a/\a<=(us.length:Int)-1) (ht:us[a.toNat]? = some t) :
  Kj ds us args=if XT ds t=true then
    (match ds[(t-1).toNat]? with
     | some d=>if W9 us (args.drop 1) [d.frm]=true then d.to_ else -1
     | none=>-1) else -1:=by
 obtain ⟨y,rfl⟩:=NC hl h;rw [Kj];simp only [Q3 hi ht];rfl
theorem Z47 {ds:List Zf} {us args:LI} {a t:Int} {d:Zf} (hl:args.length=2) (h:args[0]? = some a) (hi:0<=a/\a<=(us.length:Int)-1) (ht:us[a.toNat]? = some t)
  (hA:XT ds t=true) (hd:ds[(t-1).toNat]? = some d):Kj ds us args=if W9 us (args.drop 1) [d.frm]=true then d.to_ else -1:=by
 rw [UR hl h hi ht,Ze hA];simp only [hd]
theorem Ly {ds:List Zf} {t:Int} (h:XT ds t=true):1<=t/\t<=ds.length:=by
 simp only [XT,W5,decide_eq_true_eq] at h;exact h.1
theorem RQ (b:Z6) (l:Int):WU b l=Qw b.steps l:=by cases b;rw [WU];rfl
theorem GY (s:Z5) (l:Int):BH s l=QU s.kids l:=by cases s;rw [BH];rfl
structure V4 (n:Zm):Prop where
 decls:KN n.decls
 len:n.routines.length<=4194304
 params:∀r∈n.routines,r.params.length<=4194304
 lent:∀r∈n.routines,r.lent.length<=4194304
 body:∀r∈n.routines,r.body.sz<=10000000
theorem Hr {m:Nat} {fs:List Sg} (h:JC m fs=true):∀f∈fs,Jb m f=true:=by
 induction fs with
 | nil=>simp
 | cons f r ih=>
  rw [JC] at h
  split at h
  ·rename_i h1
   intro g hg
   rcases YH.1 hg with rfl|hg
   ·exact h1
   ·exact ih h g hg
  ·cases h
theorem M1 {n:Zm} (hz:V4 n) (h:Vy n=true):X4 n:=by
 simp only [Vy,Kf,W5,decide_eq_true_eq] at h
 obtain ⟨h1,⟨h2,h3,h4,h5⟩,h6⟩:=h
 refine ⟨Zkw h2,h1,fun r hr=>?_,hz.lent⟩
 have:=Hr h4 (Ua r) (XF.2 ⟨r,hr,rfl⟩)
 simp only [Jb,W5,decide_eq_true_eq] at this
 exact this.1
def gI (xs:LI) (i:Int):Int:=xs[i.toNat]?.getD 0
theorem WS {xs:LI} {i:Int} {x:Int} (h:xs[i.toNat]? = some x):gI xs i=x:=by rw [gI,h];rfl
structure Zu where
 vars:LI
 own:LI
 par:LI
 con:LI
 fst:LI
 tok:LI
def Zu.grow (L:Zu) (t own par:Int):Zu:=⟨L.vars++[t],L.own++[own],L.par++[par],L.con++[-1],L.fst++[-1],L.tok++[-1]⟩
def UM (L:Zu) (v:Int):Option Zu:=if gI L.own v<1 then none else some { L with own:=L.own.set v.toNat (gI L.own v-1) }
def Ki (own par ln:LI):Nat->Int->Bool
 | 0,_=>false
 | k+1,v=>if gI own v<1/\¬v∈ln then (if gI par v<0 then false else Ki own par ln k (gI par v)) else true
def Wd (L:Zu) (ln:LI) (v:Int):Bool:=Ki L.own L.par ln (v.toNat+1) v
def Ts:LI->Int->LI->LI
 | own,_,[]=>own
 | own,p,f::r=>Ts (if f≠0 then own.set p.toNat (gI own p+1) else own) (p+1) r
def QY (ds:List Zf) (L:Zu) (op x:Int):Option Zu:=
 if gI L.con x<0∨(op=17/\0<=gI L.tok x) then none
 else match UM L x with
  | none=>none
  | some L1=>some { L1 with
    own:=Ts L1.own (gI L.fst x) (ZX ds (gI L.con x))
    tok:=if op=17 then L.tok.set x.toNat (ZX ds (gI L.con x)).length else L.tok }
def Ta (op:Int):Bool:=op==6||(op==9||(op==10||op==11))
def B9 (n:Zm) (op num:Int):LI:=if op=9 then ((n.routines[num.toNat]?).map (·.lent)).getD [] else []
def WV (n:Zm) (op num:Int) (i:Nat):Bool:=decide ((i:Int)∈B9 n op num)
def Q4 (n:Zm) (vars:LI) (op num a:Int) (i:Nat):Bool:=Ta op&&(gI vars a != 0&&!WV n op num i)
def QK (n:Zm) (op num:Int):LI->Nat->Zu->Option Zu
 | [],_,L=>some L
 | a::r,i,L=>if Q4 n L.vars op num a i=true then (match UM L a with
   | none=>none
   | some L1=>QK n op num r (i+1) L1) else QK n op num r (i+1) L
def Jv (n:Zm) (op num:Int) (ln:LI) (L:Zu):LI->Nat->Bool
 | [],_=>true
 | a::r,i=>if WV n op num i=true/\¬Wd L ln a=true then false else Jv n op num ln L r (i+1)
def Jw (L:Zu) (into:Int) (m:Nat):Option Zu:=
 if 0<into then (if gI L.tok (into-1)≠m then none else some { L with tok:=L.tok.set (into-1).toNat (-1) }) else some L
def UZ (n:Zm) (ln:LI) (L:Zu) (op num into:Int) (args:LI):Option Zu:=
 match QK n op num args 0 L with
 | none=>none
 | some L1=>if Jv n op num ln L1 args 0=true then Jw L1 into args.length else none
def Va:LI->LI->Bool
 | o::os,t::ts=>if o≠0∨0<=t then false else Va os ts
 | _,_=>true
def Zu.take (L:Zu) (m:Nat):Zu:=⟨L.vars.take m,L.own.take m,L.par.take m,L.con.take m,L.fst.take m,L.tok.take m⟩
def UE (L:Zu) (m:Nat):Option Zu:=if Va (L.own.drop m) (L.tok.drop m)=true then some (L.take m) else none
def Jt (L:Zu) (par:Int):LI->Zu
 | []=>L
 | t::r=>Jt (L.grow t 0 par) par r
def Aj (ds:List Zf) (L:Zu) (x c:Int):Zu:=
 Jt { L with con:=L.con.set x.toNat c,fst:=L.fst.set x.toNat L.vars.length } x (ZX ds c)
def VM (ds:List Zf) (L:Zu) (op num:Int) (args:LI) (i:Nat):Zu:=
 if op=8 then Aj ds L (gI args 0) (gI (ZW ds num) i) else L
def KD (lent:LI):LI->Nat->Zu->Zu
 | [],_,L=>L
 | t::r,i,L=>KD lent r (i+1) (L.grow t (if t≠0/\¬(i:Int)∈lent then 1 else 0) (-1))
def UI (r:Yc):Zu:=KD r.lent r.params 0 ⟨[],[],[],[],[],[]⟩
def Ao (L:Zu) (ln:LI) (v:Int):Option Zu:=if Wd L ln v=true then some { L with own:=L.own.set v.toNat (gI L.own v+1) } else none
def Ka (n:Zm) (ln:LI) (L:Zu) (op num into:Int) (args:LI) (ch:Option Zu):Option Zu:=
 if op=14 then Ao L ln (gI args 0)
 else if op=15 then UM L (gI args 0)
 else if op=16∨op=17 then QY n.decls L op (gI args 0)
 else if op=7∨op=8 then (if op=8/\¬Wd L ln (gI args 0)=true then none else ch)
 else UZ n ln L op num into args
def Jr (L:Zu) (op t:Int) (r:Option Zu):Option Zu:=
 match r with
 | none=>none
 | some L1=>if W7 op=true then some (L1.grow t (if t≠0 then 1 else 0) (-1)) else some L1
def BJ (L:Zu) (first:Option Zu) (rest:Zu->Bool):Option Zu:=
 match first with
 | none=>none
 | some one=>if rest one=true then some { L with own:=one.own,tok:=one.tok } else none
def Hn (one:Zu) (two:Option Zu) (rest:Bool):Bool:=
 match two with
 | none=>false
 | some two=>if one.own=two.own/\one.tok=two.tok then rest else false
def DP (r:Option Zu) (f:Zu->Option Zu):Option Zu:=match r with|none=>none|some L=>f L
def Ug (m:Nat) (res:Int) (L:Zu):Option Zu:=DP (if gI L.vars res≠0 then UM L res else some L) fun L2=>UE L2 m
mutual
def UA (n:Zm) (ln:LI) (L:Zu):Z5->Option Zu
 | .mk op num into args kids=>Jr L op (Y2 n L.vars (.mk op num into args kids)) (Ka n ln L op num into args (QS n ln L op num args kids))
def QS (n:Zm) (ln:LI) (L:Zu) (op num:Int) (args:LI):List Z6->Option Zu
 | []=>none
 | b::bs=>BJ L (Vp n ln (VM n.decls L op num args 0) L.vars.length b) fun one=>J3 n ln L op num args one bs 1
def J3 (n:Zm) (ln:LI) (L:Zu) (op num:Int) (args:LI) (one:Zu):List Z6->Nat->Bool
 | [],_=>true
 | b::bs,i=>Hn one (Vp n ln (VM n.decls L op num args i) L.vars.length b) (J3 n ln L op num args one bs (i+1))
def Vz (n:Zm) (ln:LI) (L:Zu):List Z5->Option Zu
 | []=>some L
 | s::r=>DP (UA n ln L s) fun L1=>Vz n ln L1 r
def Vp (n:Zm) (ln:LI) (L:Zu) (m:Nat):Z6->Option Zu
 | .mk steps result=>DP (Vz n ln L steps) (Ug m result)
end
theorem MU (n:Zm) (ln:LI) (L:Zu) (s:Z5):UA n ln L s=Jr L s.op (Y2 n L.vars s) (Ka n ln L s.op s.num s.into s.args (QS n ln L s.op s.num s.args s.kids)):=by
 cases s with
 | mk op num into args kids=>rw [UA];rfl
theorem JT (n:Zm) (ln:LI) (L:Zu) (m:Nat) (b:Z6):Vp n ln L m b=DP (Vz n ln L b.steps) (Ug m b.result):=by
 cases b with
 | mk st r=>rw [Vp];rfl
def Kk (n:Zm) (r:Yc):Bool:=
 match Vp n r.lent (UI r) r.params.length r.body with
 | none=>false
 | some L=>(UE L 0).isSome
def Jn (n:Zm):List Yc->Bool
 | []=>true
 | r::rs=>if Kk n r=true then Jn n rs else false
def US (n:Zm):Bool:=WC n&&Jn n n.routines
structure WH (L:Zu):Prop where
 own:L.own.length=L.vars.length
 par:L.par.length=L.vars.length
 con:L.con.length=L.vars.length
 fst:L.fst.length=L.vars.length
 tok:L.tok.length=L.vars.length
structure Xd (ds:List Zf) (L:Zu) (q:Int):Prop where
 len:WH L
 down:∀j:Int,0<=j->j<L.vars.length->gI L.par j<j
 arm:∀x:Int,0<=x->x<L.vars.length->0<=gI L.con x->0<=gI L.fst x/\gI L.fst x+(ZX ds (gI L.con x)).length<=L.vars.length
 nn:∀x∈L.own,0<=x
 bd:∀x∈L.own,x<=q
end Go.Abs
section
namespace Go.Abs
end Go.Abs
namespace Go.Abs
theorem Ze9 {n:Zm} {op num:Int} {r:Yc} (h:op=9) (hr:n.routines[num.toNat]? = some r):B9 n op num=r.lent:=by
 rw [B9,Ze h,hr];rfl
end Go.Abs
namespace Go.Abs
theorem Z3q {own par ln:LI} {N:Int} (hd:∀j:Int,0<=j->j<N->gI par j<j):∀(k:Nat) (v:Int),0<=v->v<N->v.toNat+1<=k->Ki own par ln k v=Ki own par ln (v.toNat+1) v:=by
 intro k
 induction k using Nat.strongRecOn with
 | ind k ih=>
  intro v h0 hN hk
  cases k with
  | zero=>omega
  | succ k=>
   rw [Ki,Ki]
   split
   ·split
    ·rfl
    ·have hdv:=hd v h0 hN
     rw [ih k om (gI par v) om om om]
     rw [ih v.toNat om (gI par v) om om om]
   ·rfl
theorem Nu {own par ln:LI} {N j x1 x2:Int} {r:Bool} (h1:gI own j=x1) (h2:gI par j=x2) (hj:0<=j/\j<N) (hx:x1<1/\¬j∈ln) (h0:¬x2<0) (hd:∀i:Int,0<=i->i<N->gI par i<i)
  (h:Ki own par ln (j.toNat+1) j=r):Ki own par ln (x2.toNat+1) x2=r:=by
 rw [Ki,h1,h2,Ze hx,Z7 h0] at h
 have hdv:=hd j hj.1 hj.2
 rw [<-h,Z3q hd j.toNat x2 om om om]
theorem Nt {own par ln:LI} {j x1 x2:Int} {r:Bool} (h1:gI own j=x1) (h2:gI par j=x2) (hx:x1<1/\¬j∈ln) (h0:x2<0) (h:Ki own par ln (j.toNat+1) j=r):false=r:=by
 rw [Ki,h1,h2,Ze hx,Ze h0] at h;exact h
theorem Nv {own par ln:LI} {j x1:Int} {r:Bool} (h1:gI own j=x1) (hx:¬(x1<1/\¬j∈ln)) (h:Ki own par ln (j.toNat+1) j=r):true=r:=by
 rw [Ki,h1,Z7 hx] at h;exact h
end Go.Abs
namespace Go.Abs
theorem KI {L L':Zu} {v:Int} (h:UM L v=some L'):1<=gI L.own v/\L'.vars=L.vars/\L'.par=L.par/\L'.con=L.con/\L'.fst=L.fst/\L'.tok=L.tok/\L'.own=L.own.set v.toNat (gI L.own v-1):=by
 rw [UM] at h
 split at h
 ·cases h
 ·cases h;exact ⟨by omega,rfl,rfl,rfl,rfl,rfl,rfl⟩
theorem Lc {xs:LI} {v:Int} (h:gI xs v≠0):gI xs v∈xs:=by
 rw [gI] at h ⊢
 cases hx:xs[v.toNat]? with
 | none=>rw [hx] at h;exact absurd rfl h
 | some y=>exact Y0 hx
theorem J6 {xs:LI} {i:Nat} {a x:Int} (h:x∈xs.set i a):x∈xs∨x=a:=List.mem_or_eq_of_mem_set h
theorem Xd.take {ds:List Zf} {L L':Zu} {q v:Int} (hk:Xd ds L q) (h:UM L v=some L'):Xd ds L' q:=by
 obtain ⟨t1,t2,t3,t4,t5,t6,t7⟩:=KI h
 obtain ⟨f1,f2,f3,f4,f5⟩:=hk.len
 have hm:=Lc (xs:=L.own) (v:=v) om
 refine ⟨⟨by rw [t7,t2,TN];exact f1,by rw [t3,t2];exact f2,by rw [t4,t2];exact f3,by rw [t5,t2];exact f4,by rw [t6,t2];exact f5⟩,?_,?_,?_,?_⟩
 ·rw [t2,t3];exact hk.down
 ·rw [t2,t4,t5];exact hk.arm
 ·rw [t7];intro x hx
  rcases J6 hx with hx|rfl
  ·exact hk.nn x hx
  ·omega
 ·rw [t7];intro x hx
  rcases J6 hx with hx|rfl
  ·exact hk.bd x hx
  ·have:=hk.bd _ hm;omega
end Go.Abs
end
namespace Go.Abs
theorem MZ {us:LI}:∀{args tys:LI},Tj us args tys=true->args.length=tys.length/\∀a∈args,0<=a/\a<us.length
 | [],[],_=>⟨rfl,by simp⟩
 | [],_::_,h=>by cases h
 | _::_,[],h=>by cases h
 | a::as1,t::ts,h=>by
  rw [Tj] at h
  split at h
  ·rename_i h1
   obtain ⟨q1,q2⟩:=MZ h
   refine ⟨by simp [q1],fun x hx=>?_⟩
   rcases YH.1 hx with rfl|hx
   ·have:=(KS h1).1;omega
   ·exact q2 x hx
  ·cases h
theorem Ry {n:Zm} {us:LI}:∀{bs:List Z6} {ms:List LI} {f:Bool} {t:Int},0<=t->0<=XY n us bs ms f t ->
  ∀(i:Nat) (b:Z6) (m:LI),bs[i]? = some b->ms[i]? = some m->0<=YT n (us++m) b
 | [],_,_,_,_,_,i,b,m,hb,_=>by simp at hb
 | b::bs,[],_,_,_,h,_,_,_,_,hm=>by simp at hm
 | b::bs,m::ms,f,t,ht,h,i,c,l,hc,hl=>by
  rw [XY] at h
  split at h
  ·omega
  ·rename_i hq
   have h0:0<=YT n (us++m) b:=by
    rcases Int.lt_or_le (YT n (us++m) b) 0 with q|q
    ·exact absurd (.inl q) hq
    ·exact q
   cases i with
   | zero=>simp at hc hl;subst hc hl;exact h0
   | succ i=>exact Ry h0 h i c l (by simpa using hc) (by simpa using hl)
structure AL (n:Zm) (us:LI) (s:Z5):Prop where
 args:∀a∈s.args,0<=a/\a<us.length
 one:(s.op=7∨s.op=8∨(14<=s.op/\s.op<=17))->∃a,s.args=[a]
 num:s.op=9->0<=s.num/\s.num<n.routines.length
 into:s.into≠0->1<=s.into/\s.into<=us.length
 kids:(s.op=7∨s.op=8)->s.kids.length=(X9 n.decls s.op s.num).length/\(X9 n.decls s.op s.num).length≠0 /\
  ∀(i:Nat) (b:Z6) (m:LI),s.kids[i]? = some b->(X9 n.decls s.op s.num)[i]? = some m->0<=YT n (us++m) b
theorem Zdm {n:Zm} {us:LI} {op num:Int} {kids:List Z6} (h:0<=TX n us op num kids) :
  kids.length=(X9 n.decls op num).length/\(X9 n.decls op num).length≠0/\∀(i:Nat) (b:Z6) (m:LI),kids[i]? = some b->(X9 n.decls op num)[i]? = some m->0<=YT n (us++m) b:=by
 rw [TX] at h
 split at h
 ·omega
 ·rename_i hq
  exact ⟨by omega,by omega,Ry (Int.le_refl 0) h⟩
theorem LS {xs:LI} (h:xs.length=1):∃a,xs=[a]:=by
 match xs,h with
 | [a],_=>exact ⟨a,rfl⟩
theorem CF {n:Zm} {us:LI} {s:Z5} (h:0<=Y2 n us s):AL n us s:=by
 rw [Aa] at h
 split at h
 ·omega
 rename_i h0
 have hinto:s.into≠0->1<=s.into/\s.into<=us.length:=by
  intro hi
  have hv:U5 us s.op s.into=true:=by
   cases q:U5 us s.op s.into with
   | true=>rfl
   | false=>exact absurd (.inr (.inl (by rw [q];simp))) h0
  rw [U5,Z7 hi] at hv
  split at hv
  ·cases ha:Xa us (s.into-1) with
   | none=>rw [ha] at hv;cases hv
   | some t=>have:=(KS ha).1;omega
  ·cases hv
 have mk:(∀a∈s.args,0<=a/\a<us.length)->((s.op=7∨s.op=8∨(14<=s.op/\s.op<=17))->∃a,s.args=[a])->(s.op=9->0<=s.num/\s.num<n.routines.length) ->
   ((s.op=7∨s.op=8)->0<=TX n us s.op s.num s.kids)->AL n us s:=fun a b c d=>⟨a,b,c,hinto,fun q=>Zdm (d q)⟩
 have ty:∀{tys},W9 us s.args tys=true->s.args.length=tys.length/\∀a∈s.args,0<=a/\a<us.length:=fun q=>MZ q
 split at h
 ·rename_i h1
  split at h
  ·rename_i h2
   exact mk (by rw [List.eq_nil_of_length_eq_zero h2.1];simp) om om om
  ·omega
 split at h
 ·split at h
  ·rename_i h1 h2;exact mk (ty h2).2 om om om
  ·omega
 split at h
 ·split at h
  ·rename_i h1 h2;exact mk (ty h2).2 om om om
  ·omega
 split at h
 ·split at h
  ·rename_i h1 h2;exact mk (ty h2.2).2 om om om
  ·omega
 split at h
 ·split at h
  ·rename_i h1 h2;exact mk (ty h2).2 (fun _=>LS (by simpa using (ty h2).1)) om (fun _=>h)
  ·omega
 split at h
 ·split at h
  ·rename_i h1 h2;exact mk (ty h2).2 (fun _=>LS (by simpa using (ty h2).1)) om (fun _=>h)
  ·omega
 split at h
 ·rename_i hop
  rw [Us] at h
  cases hr:Xa n.routines s.num with
  | none=>rw [hr] at h;simp at h
  | some r=>
   rw [hr] at h
   simp only at h
   have hn:=(KS hr).1
   rw [Ja] at h
   split at h
   ·split at h
    ·rename_i h2;exact mk (ty h2).2 om om om
    ·omega
   ·split at h
    ·omega
    ·rename_i h2
     have h3:W9 us s.args (r.params.take (r.params.length-1))=true:=by
      cases q:W9 us s.args (r.params.take (r.params.length-1)) with
      | true=>rfl
      | false=>exact absurd (.inr (.inr (by rw [q];simp))) h2
     exact mk (ty h3).2 om om om
 split at h
 ·rename_i hop
  rcases he:s.args with _|⟨a,_|⟨b,_|⟨c,r⟩⟩⟩
  ·rw [he,show Kj n.decls us []=-1 from rfl] at h;omega
  ·rw [he,show Kj n.decls us [a]=-1 from rfl] at h;omega
  ·rw [he,Kj] at h
   cases ha:Xa us a with
   | none=>rw [ha] at h;simp at h
   | some t=>
    rw [ha] at h
    simp only at h
    split at h
    ·cases hd:n.decls[(t-1).toNat]? with
     | none=>rw [hd] at h;simp at h
     | some d=>
      rw [hd] at h
      simp only at h
      split at h
      ·rename_i h3
       have h4:=(MZ h3).2 b (by simp)
       have h5:=(KS ha).1
       refine mk (fun x hx=>?_) om om om
       rw [he] at hx
       rcases YH.1 hx with rfl|hx
       ·omega
       ·rw [XK.1 hx];exact h4
      ·omega
    ·omega
  ·rw [he,show Kj n.decls us (a::b::c::r)=-1 from rfl] at h;omega
 split at h
 ·rename_i hop
  rcases he:s.args with _|⟨a,_|⟨b,r⟩⟩
  ·rw [he,show Qj n.decls us s.op []=-1 from rfl] at h;omega
  ·rw [he,Qj] at h
   cases ha:Xa us a with
   | none=>rw [ha] at h;simp at h
   | some t=>
    have h5:=(KS ha).1
    refine mk (fun x hx=>?_) (fun _=>⟨a,he⟩) om om
    rw [he] at hx
    rw [XK.1 hx];omega
  ·rw [he,show Qj n.decls us s.op (a::b::r)=-1 from rfl] at h;omega
 ·omega
def K0 (n:Zm) (us:LI) (s:Z5):LI:=if W7 s.op=true then us++[Y2 n us s] else us
theorem Iu {L L':Zu} {ln:LI} {v:Int} (h:Ao L ln v=some L'):L'.vars=L.vars/\L'.par=L.par/\L'.con=L.con/\L'.fst=L.fst/\L'.tok=L.tok/\L'.own=L.own.set v.toNat (gI L.own v+1):=by
 rw [Ao] at h
 split at h
 ·cases h;exact ⟨rfl,rfl,rfl,rfl,rfl,rfl⟩
 ·cases h
theorem HZ:∀(fs:LI) (own:LI) (p:Int),(Ts own p fs).length=own.length
 | [],own,p=>rfl
 | f::r,own,p=>by rw [Ts,HZ r];split<;>simp
theorem La {xs:LI} {q v:Int} (h:∀x∈xs,x<=q) (hq:0<=q):gI xs v<=q:=by
 by_cases h0:gI xs v=0
 ·omega
 ·exact h _ (Lc h0)
theorem Ld {xs:LI} {v:Int} (h:∀x∈xs,0<=x):0<=gI xs v:=by
 by_cases h0:gI xs v=0
 ·omega
 ·exact h _ (Lc h0)
theorem I0:∀(fs:LI) (own:LI) (p:Int),(∀x∈own,0<=x)->∀x∈Ts own p fs,0<=x
 | [],own,p,h=>h
 | f::r,own,p,h=>by
  rw [Ts]
  refine I0 r _ _ fun x hx=>?_
  split at hx
  ·rcases J6 hx with hx|rfl
   ·exact h x hx
   ·have:=Ld (v:=p) h;omega
  ·exact h x hx
theorem HY:∀(fs:LI) (own:LI) (p q:Int),0<=q->(∀x∈own,x<=q)->∀x∈Ts own p fs,x<=q+fs.length
 | [],own,p,q,hq,h=>by intro x hx;have:=h x hx;simp;omega
 | f::r,own,p,q,hq,h=>by
  intro x hx
  rw [Ts] at hx
  have:=HY r _ _ (q+1) om (fun y hy=>by
   split at hy
   ·rcases J6 hy with hy|rfl
    ·have:=h y hy;omega
    ·have:=La (v:=p) h hq;omega
   ·have:=h y hy;omega) x hx
  simp only [YW];omega
theorem M9 {ds:List Zf} {L L':Zu} {op v:Int} (h:QY ds L op v=some L'):L'.vars=L.vars/\L'.par=L.par/\L'.con=L.con/\L'.fst=L.fst/\L'.tok.length=L.tok.length /\
  ∃L1,UM L v=some L1/\L'.own=Ts L1.own (gI L.fst v) (ZX ds (gI L.con v)):=by
 rw [QY] at h
 split at h
 ·cases h
 ·cases ht:UM L v with
  | none=>rw [ht] at h;cases h
  | some L1=>
   rw [ht] at h
   simp only at h
   obtain ⟨t1,t2,t3,t4,t5,t6,t7⟩:=KI ht
   cases h
   refine ⟨t2,t3,t4,t5,?_,L1,rfl,rfl⟩
   split
   ·rw [TN]
   ·rfl
theorem Gp {n:Zm} {op num:Int} {ds:List Zf} {q:Int}:∀{as1:LI} {i:Nat} {L L':Zu},Xd ds L q->QK n op num as1 i L=some L'->Xd ds L' q/\L'.vars=L.vars/\L'.par=L.par/\L'.con=L.con/\L'.fst=L.fst/\L'.tok=L.tok
 | [],i,L,L',hk,h=>by rw [QK] at h;cases h;exact ⟨hk,rfl,rfl,rfl,rfl,rfl⟩
 | a::r,i,L,L',hk,h=>by
  rw [QK] at h
  split at h
  ·cases ht:UM L a with
   | none=>rw [ht] at h;cases h
   | some L1=>
    rw [ht] at h
    obtain ⟨t1,t2,t3,t4,t5,t6,t7⟩:=KI ht
    obtain ⟨k1,k2,k3,k4,k5,k6⟩:=Gp (hk.take ht) h
    exact ⟨k1,k2.trans t2,k3.trans t3,k4.trans t4,k5.trans t5,k6.trans t6⟩
  ·exact Gp hk h
theorem Xd.le {ds:List Zf} {L:Zu} {q q':Int} (h:Xd ds L q) (hq:q<=q'):Xd ds L q':=⟨h.len,h.down,h.arm,h.nn,fun x hx=>Int.le_trans (h.bd x hx) hq⟩
theorem Xd.turn {ds:List Zf} {L L':Zu} {q q':Int} (hk:Xd ds L q) (h1:L'.vars=L.vars) (h2:L'.par=L.par) (h3:L'.con=L.con) (h4:L'.fst=L.fst) (h5:L'.tok.length=L.tok.length) (h6:L'.own.length=L.own.length)
  (h7:∀x∈L'.own,0<=x) (h8:∀x∈L'.own,x<=q'):Xd ds L' q':=by
 obtain ⟨f1,f2,f3,f4,f5⟩:=hk.len
 refine ⟨⟨by rw [h6,h1];exact f1,by rw [h2,h1];exact f2,by rw [h3,h1];exact f3,by rw [h4,h1];exact f4,by rw [h5,h1];exact f5⟩,?_,?_,h7,h8⟩
 ·rw [h1,h2];exact hk.down
 ·rw [h1,h3,h4];exact hk.arm
theorem BE {xs ys:LI} {j:Int} (h:j.toNat<xs.length):gI (xs++ys) j=gI xs j:=by
 rw [gI,gI,CJ h]
theorem Lb {xs:LI} {y:Int} {j:Int} (h:j.toNat=xs.length):gI (xs++[y]) j=y:=by
 rw [gI,h];simp
theorem Xd.grow {ds:List Zf} {L:Zu} {q t o p:Int} (hk:Xd ds L q) (hp:p<L.vars.length) (ho:0<=o/\o<=q):Xd ds (L.grow t o p) q:=by
 obtain ⟨f1,f2,f3,f4,f5⟩:=hk.len
 refine ⟨⟨by simp [Zu.grow,f1],by simp [Zu.grow,f2],by simp [Zu.grow,f3],by simp [Zu.grow,f4],by simp [Zu.grow,f5]⟩,?_,?_,?_,?_⟩
 ·intro j hj hl
  simp only [Zu.grow,Ys,HP] at hl ⊢
  by_cases hlt:j<L.vars.length
  ·rw [BE om];exact hk.down j hj hlt
  ·rw [Lb om];omega
 ·intro x hx hl
  simp only [Zu.grow,Ys,HP] at hl ⊢
  by_cases hlt:x<L.vars.length
  ·rw [BE om,BE om]
   intro hc
   have:=hk.arm x hx hlt hc
   exact ⟨this.1,by omega⟩
  ·rw [Lb om];omega
 ·intro x hx
  simp only [Zu.grow,Xi,XK] at hx
  rcases hx with hx|rfl
  ·exact hk.nn x hx
  ·exact ho.1
 ·intro x hx
  simp only [Zu.grow,Xi,XK] at hx
  rcases hx with hx|rfl
  ·exact hk.bd x hx
  ·exact ho.2
theorem Le {xs:LI} {k:Nat} {a:Int} {j:Int} (h:xs.length<=j.toNat/\j.toNat<xs.length+k):gI (xs++List.replicate k a) j=a:=by
 rw [gI,Bl h.1,List.getElem?_replicate,Ze om];rfl
theorem Df {xs:LI} {x j c:Int} (h:j.toNat=x.toNat) (hl:x.toNat<xs.length):gI (xs.set x.toNat c) j=c:=by
 rw [gI,h,List.getElem?_set_self hl];rfl
theorem Dg {xs:LI} {x j c:Int} (h:j.toNat≠x.toNat):gI (xs.set x.toNat c) j=gI xs j:=by
 rw [gI,gI,List.getElem?_set_ne (fun q=>h q.symm)]
theorem Lk {p:Int}:∀(fs:LI) (L:Zu),Jt L p fs=⟨L.vars++fs,L.own++List.replicate fs.length 0,L.par++List.replicate fs.length p,L.con++List.replicate fs.length (-1),
  L.fst++List.replicate fs.length (-1),L.tok++List.replicate fs.length (-1)⟩
 | [],L=>by simp [Jt]
 | t::r,L=>by rw [Jt,Lk r];simp [Zu.grow,Ng]
theorem Z4d {ds:List Zf} {L:Zu} {q x c:Int} (hk:Xd ds L q) (hq:0<=q) (hx:0<=x/\x<L.vars.length):Xd ds (Aj ds L x c) q/\(Aj ds L x c).vars=L.vars++ZX ds c:=by
 obtain ⟨f1,f2,f3,f4,f5⟩:=hk.len
 rw [Aj,Lk]
 refine ⟨⟨⟨by simp [f1],by simp [f2],by simp [f3],by simp [f4],by simp [f5]⟩,?_,?_,?_,?_⟩,rfl⟩
 ·intro j hj hl
  simp only [Ys] at hl ⊢
  by_cases hlt:j<L.vars.length
  ·rw [BE om];exact hk.down j hj hlt
  ·rw [Le om];omega
 ·intro y hy hl
  simp only [Ys] at hl ⊢
  by_cases hlt:y<L.vars.length
  ·rw [BE (by simp;omega),BE (by simp;omega)]
   by_cases he:y.toNat=x.toNat
   ·rw [Df he om,Df he om]
    intro _
    exact ⟨by omega,by simp⟩
   ·rw [Dg he,Dg he]
    intro hc
    have:=hk.arm y hy hlt hc
    exact ⟨this.1,by omega⟩
  ·rw [Le (by simp;omega)];omega
 ·intro y hy
  simp only [Xi,List.mem_replicate] at hy
  rcases hy with hy|⟨_,rfl⟩
  ·exact hk.nn y hy
  ·exact Int.le_refl 0
 ·intro y hy
  simp only [Xi,List.mem_replicate] at hy
  rcases hy with hy|⟨_,rfl⟩
  ·exact hk.bd y hy
  ·exact hq
theorem Dr {n:Zm} {L:Zu} {q:Int} {s:Z5} {i:Nat} {m:LI} (hk:Xd n.decls L q) (hq:0<=q) (hf:AL n L.vars s) (hop:s.op=7∨s.op=8) (hm:(X9 n.decls s.op s.num)[i]? = some m) :
  Xd n.decls (VM n.decls L s.op s.num s.args i) q/\(VM n.decls L s.op s.num s.args i).vars=L.vars++m:=by
 rw [VM]
 split
 ·rename_i h8
  obtain ⟨a,ha⟩:=hf.one om
  have hb:=hf.args a (by rw [ha];simp)
  have hg:gI s.args 0=a:=by rw [ha];rfl
  rw [X9,Z7 om,TM] at hm
  cases hc:(ZW n.decls s.num)[i]? with
  | none=>rw [hc] at hm;cases hm
  | some c=>
   rw [hc] at hm
   cases hm
   have hgc:gI (ZW n.decls s.num) (i:Int)=c:=by rw [gI];simp [hc]
   rw [hg,hgc]
   exact Z4d hk hq hb
 ·rename_i h8
  rw [X9,Ze om] at hm
  have:m=[]:=by
   match i,hm with
   | 0,hm=>simpa using hm.symm
   | 1,hm=>simpa using hm.symm
   | i+2,hm=>simp at hm
  subst this
  exact ⟨hk,by simp⟩
theorem Z2c {n:Zm}:∀{l:List Z5} {us vs:LI},Xp n l us=some vs->us.length<=vs.length
 | [],us,vs,h=>by rw [Xp] at h;cases h;exact YU _
 | s::r,us,vs,h=>by
  rw [Xp] at h
  split at h
  ·cases h
  ·have:=Z2c h
   split at this
   ·simp only [Ys,HP] at this;omega
   ·exact this
theorem PH {n:Zm} {ln:LI} {L L':Zu} {op num into q:Int} {args:LI} {ds:List Zf} (hk:Xd ds L q) (h:UZ n ln L op num into args=some L'):Xd ds L' q/\L'.vars=L.vars:=by
 rw [UZ] at h
 cases ht:QK n op num args 0 L with
 | none=>rw [ht] at h;cases h
 | some L1=>
  rw [ht] at h
  simp only at h
  obtain ⟨k1,k2,k3,k4,k5,k6⟩:=Gp hk ht
  split at h
  ·rw [Jw] at h
   split at h
   ·split at h
    ·cases h
    ·cases h
     exact ⟨k1.turn rfl rfl rfl rfl (by simp) rfl k1.nn k1.bd,k2⟩
   ·cases h;exact ⟨k1,k2⟩
  ·cases h
theorem Z6v {L L':Zu} {m:Nat} (h:UE L m=some L'):L'=L.take m/\Va (L.own.drop m) (L.tok.drop m)=true:=by
 rw [UE] at h
 split at h
 ·rename_i hz;cases h;exact ⟨rfl,hz⟩
 ·cases h
theorem MY {r:Option Zu} {f:Zu->Option Zu} {L:Zu} (h:DP r f=some L):∃L1,r=some L1/\f L1=some L:=by
 cases r with
 | none=>cases h
 | some L1=>exact ⟨L1,rfl,h⟩
theorem LO (n:Zm) (hn:X4 n) (ln:LI):∀m:Nat,
  (∀(s:Z5) (L L':Zu) (q:Int),s.sz<=m->Xd n.decls L q->0<=q->0<=Y2 n L.vars s->UA n ln L s=some L'->Xd n.decls L' (q+4*s.sz)/\L'.vars=K0 n L.vars s) /\
  (∀(b:Z6) (L O:Zu) (q:Int) (k:Nat),b.sz<=m->Xd n.decls L q->0<=q->0<=YT n L.vars b->k<=L.vars.length->Vp n ln L k b=some O ->
   (O.own.length=k/\O.tok.length=k/\(∀x∈O.own,0<=x/\x<=q+4*b.sz))/\WH O/\O.vars.length=k):=by
 intro m
 induction m with
 | zero=>exact ⟨fun s _ _ _ h=>by have:=s.sz_pos;omega,fun s _ _ _ _ h=>by have:=s.sz_pos;omega⟩
 | succ m ih=>
  have hs:∀(s:Z5) (L L':Zu) (q:Int),s.sz<=m+1->Xd n.decls L q->0<=q->0<=Y2 n L.vars s->UA n ln L s=some L'->Xd n.decls L' (q+4*s.sz)/\L'.vars=K0 n L.vars s:=by
   intro s L L' q Xu hk hq hty h
   have hp:=s.sz_pos
   have hf:=CF hty
   obtain ⟨f1,f2,f3,f4,f5⟩:=hk.len
   rw [MU] at h
   unfold Jr at h
   cases hpk:Ka n ln L s.op s.num s.into s.args (QS n ln L s.op s.num s.args s.kids) with
   | none=>rw [hpk] at h;cases h
   | some L1=>
    rw [hpk] at h
    simp only at h
    have key:Xd n.decls L1 (q+4*s.sz)/\L1.vars=L.vars:=by
     rw [Ka] at hpk
     split at hpk
     ·obtain ⟨d1,d2,d3,d4,d5,d6⟩:=Iu hpk
      refine ⟨hk.turn d1 d2 d3 d4 (by rw [d5]) (by rw [d6,TN]) ?_ ?_,d1⟩
      ·rw [d6];intro x hx
       rcases J6 hx with hx|rfl
       ·exact hk.nn x hx
       ·have:=Ld (v:=gI s.args 0) hk.nn;omega
      ·rw [d6];intro x hx
       rcases J6 hx with hx|rfl
       ·have:=hk.bd x hx;omega
       ·have:=La (v:=gI s.args 0) hk.bd hq;omega
     split at hpk
     ·exact ⟨(hk.take hpk).le om,(KI hpk).2.1⟩
     split at hpk
     ·rename_i hop
      obtain ⟨d1,d2,d3,d4,d5,Lt,ht,d6⟩:=M9 hpk
      have hkt:=hk.take ht
      have h3:=Uu hn.decls (gI L.con (gI s.args 0))
      refine ⟨hk.turn d1 d2 d3 d4 d5 ?_ ?_ ?_,d1⟩
      ·rw [d6,HZ,(KI ht).2.2.2.2.2.2,TN]
      ·rw [d6];exact I0 _ _ _ hkt.nn
      ·rw [d6];intro x hx
       have:=HY _ _ _ q hq hkt.bd x hx;omega
     split at hpk
     ·rename_i hop
      split at hpk
      ·cases hpk
      ·cases hks:s.kids with
       | nil=>rw [hks,QS] at hpk;cases hpk
       | cons b bs=>
        rw [hks,QS] at hpk
        unfold BJ at hpk
        cases hb:Vp n ln (VM n.decls L s.op s.num s.args 0) L.vars.length b with
        | none=>rw [hb] at hpk;cases hpk
        | some one=>
         rw [hb] at hpk
         simp only at hpk
         split at hpk
         ·cases hpk
          obtain ⟨q1,q2,q3⟩:=hf.kids hop
          have hks0:s.kids[0]? = some b:=by rw [hks];rfl
          obtain ⟨a0,ha0⟩:=J1 (xs:=X9 n.decls s.op s.num) (j:=0) om
          obtain ⟨k1,k2⟩:=Dr hk hq hf hop ha0
          have hbz:=TF hks0
          obtain ⟨⟨r1,r2,r3⟩,_⟩:=ih.2 b _ one q L.vars.length om k1 hq (by rw [k2];exact q3 0 b a0 hks0 ha0) (by rw [k2];simp) hb
          refine ⟨hk.turn rfl rfl rfl rfl (by simp only;omega) (by simp only;omega) (fun x hx=>(r3 x hx).1) (fun x hx=>?_),rfl⟩
          have:=(r3 x hx).2;omega
         ·cases hpk
     ·obtain ⟨k1,k2⟩:=PH hk hpk
      exact ⟨k1.le om,k2⟩
    split at h
    ·rename_i hd
     cases h
     refine ⟨key.1.grow om ?_,by rw [K0,Ze hd];simp [Zu.grow,key.2]⟩
     split<;>omega
    ·rename_i hd
     cases h
     exact ⟨key.1,by rw [K0,Z7 hd];exact key.2⟩
  refine ⟨hs,?_⟩
  intro b L O q k Xu hk hq hty hkl h
  have hsteps:∀(l:List Z5) (L L':Zu) (q:Int) (vs:LI),Yf l<=m->Xd n.decls L q->0<=q->Xp n l L.vars=some vs->Vz n ln L l=some L'->Xd n.decls L' (q+4*Yf l)/\L'.vars=vs:=by
   intro l
   induction l with
   | nil=>intro L L' q vs _ hk _ h1 h2;rw [Xp] at h1;rw [Vz] at h2;cases h1;cases h2;exact ⟨by simpa [Yf] using hk,rfl⟩
   | cons s r ihr=>
    intro L L' q vs hz hk hq h1 h2
    rw [Yf] at hz
    rw [Vz] at h2
    obtain ⟨L1,e1,e2⟩:=MY h2
    rw [Xp] at h1
    split at h1
    ·cases h1
    ·rename_i h0
     obtain ⟨k1,k2⟩:=hs s L L1 q om hk hq om e1
     obtain ⟨k3,k4⟩:=ihr L1 L' (q+4*s.sz) vs om k1 om (by rw [k2];exact h1) e2
     exact ⟨k3.le (by rw [Yf];omega),k4⟩
  have hbz:=b.sz_eq
  rw [JT] at h
  obtain ⟨L1,e1,e2⟩:=MY h
  rw [CS] at hty
  cases hv:Xp n b.steps L.vars with
  | none=>rw [hv] at hty;simp at hty
  | some vs=>
   obtain ⟨k1,k2⟩:=hsteps b.steps L L1 q vs om hk hq hv e1
   have hlen:=Z2c hv
   rw [Ug] at e2
   obtain ⟨L2,e3,e4⟩:=MY e2
   have k3:Xd n.decls L2 (q+4*Yf b.steps)/\L2.vars=L1.vars:=by
    split at e3
    ·exact ⟨k1.take e3,(KI e3).2.1⟩
    ·cases e3;exact ⟨k1,rfl⟩
   obtain ⟨rfl,_⟩:=Z6v e4
   obtain ⟨g1,g2,g3,g4,g5⟩:=k3.1.len
   have hl2:L2.vars.length=vs.length:=by rw [k3.2,k2]
   refine ⟨⟨by simp [Zu.take];omega,by simp [Zu.take];omega,fun x hx=>?_⟩,⟨by simp [Zu.take];omega,by simp [Zu.take];omega,by simp [Zu.take];omega,by simp [Zu.take];omega,by simp [Zu.take];omega⟩,by simp [Zu.take];omega⟩
   have hx':x∈L2.own:=Tm hx
   have:=k3.1.nn x hx'
   have:=k3.1.bd x hx'
   omega
theorem Hv {n:Zm} (hn:X4 n) {ln:LI} {s:Z5} {L L':Zu} {q:Int} (hk:Xd n.decls L q) (hq:0<=q) (hty:0<=Y2 n L.vars s) (h:UA n ln L s=some L'):Xd n.decls L' (q+4*s.sz)/\L'.vars=K0 n L.vars s:=
 (LO n hn ln s.sz).1 s L L' q (YU _) hk hq hty h
theorem NP {n:Zm} (hn:X4 n) {ln:LI} {b:Z6} {L O:Zu} {q:Int} {k:Nat} (hk:Xd n.decls L q) (hq:0<=q) (hty:0<=YT n L.vars b) (hkl:k<=L.vars.length) (h:Vp n ln L k b=some O) :
  O.own.length=k/\O.tok.length=k/\(∀x∈O.own,0<=x/\x<=q+4*b.sz):=
 ((LO n hn ln b.sz).2 b L O q k (YU _) hk hq hty hkl h).1
theorem BP {n:Zm} (hn:X4 n) {ln:LI} {s:Z5} {L L1:Zu} {q:Int} (hk:Xd n.decls L q) (hq:0<=q) (hf:AL n L.vars s)
  (hpk:Ka n ln L s.op s.num s.into s.args (QS n ln L s.op s.num s.args s.kids)=some L1):Xd n.decls L1 (q+4*s.sz)/\L1.vars=L.vars:=by
 have hp:=s.sz_pos
 obtain ⟨f1,f2,f3,f4,f5⟩:=hk.len
 rw [Ka] at hpk
 split at hpk
 ·obtain ⟨d1,d2,d3,d4,d5,d6⟩:=Iu hpk
  refine ⟨hk.turn d1 d2 d3 d4 (by rw [d5]) (by rw [d6,TN]) ?_ ?_,d1⟩
  ·rw [d6];intro x hx
   rcases J6 hx with hx|rfl
   ·exact hk.nn x hx
   ·have:=Ld (v:=gI s.args 0) hk.nn;omega
  ·rw [d6];intro x hx
   rcases J6 hx with hx|rfl
   ·have:=hk.bd x hx;omega
   ·have:=La (v:=gI s.args 0) hk.bd hq;omega
 split at hpk
 ·exact ⟨(hk.take hpk).le om,(KI hpk).2.1⟩
 split at hpk
 ·rename_i hop
  obtain ⟨d1,d2,d3,d4,d5,Lt,ht,d6⟩:=M9 hpk
  have hkt:=hk.take ht
  have h3:=Uu hn.decls (gI L.con (gI s.args 0))
  refine ⟨hk.turn d1 d2 d3 d4 d5 ?_ ?_ ?_,d1⟩
  ·rw [d6,HZ,(KI ht).2.2.2.2.2.2,TN]
  ·rw [d6];exact I0 _ _ _ hkt.nn
  ·rw [d6];intro x hx
   have:=HY _ _ _ q hq hkt.bd x hx;omega
 split at hpk
 ·rename_i hop
  split at hpk
  ·cases hpk
  ·cases hks:s.kids with
   | nil=>rw [hks,QS] at hpk;cases hpk
   | cons b bs=>
    rw [hks,QS] at hpk
    unfold BJ at hpk
    cases hb:Vp n ln (VM n.decls L s.op s.num s.args 0) L.vars.length b with
    | none=>rw [hb] at hpk;cases hpk
    | some one=>
     rw [hb] at hpk
     simp only at hpk
     split at hpk
     ·cases hpk
      obtain ⟨q1,q2,q3⟩:=hf.kids hop
      have hks0:s.kids[0]? = some b:=by rw [hks];rfl
      obtain ⟨a0,ha0⟩:=J1 (xs:=X9 n.decls s.op s.num) (j:=0) om
      obtain ⟨k1,k2⟩:=Dr hk hq hf hop ha0
      have hbz:=TF hks0
      obtain ⟨r1,r2,r3⟩:=NP hn k1 hq (by rw [k2];exact q3 0 b a0 hks0 ha0) (by rw [k2];simp) hb
      refine ⟨hk.turn rfl rfl rfl rfl (by simp only;omega) (by simp only;omega) (fun x hx=>(r3 x hx).1) (fun x hx=>?_),rfl⟩
      have:=(r3 x hx).2;omega
     ·cases hpk
 ·obtain ⟨k1,k2⟩:=PH hk hpk
  exact ⟨k1.le om,k2⟩
end Go.Abs
section
namespace Go.Abs
theorem I5 {ds:List Zf} {op num:Int} {i:Nat} {m:LI} (h8:op=8) (h:(X9 ds op num)[i]? = some m):∃c,(ZW ds num)[i]? = some c/\m=ZX ds c:=by
 rw [X9,Z7 om,TM] at h
 cases hc:(ZW ds num)[i]? with
 | none=>rw [hc] at h;cases h
 | some c=>rw [hc] at h;cases h;exact ⟨c,rfl,rfl⟩
theorem Zdg {ds:List Zf} {L:Zu} {op num x c:Int} {args:LI} {i:Nat} (h8:op=8) (hx:args[0]? = some x) (hc:(ZW ds num)[i]? = some c):VM ds L op num args i=Aj ds L x c:=by
 have h1:gI args 0=x:=by rw [gI];simp [hx]
 have h2:gI (ZW ds num) (i:Int)=c:=by rw [gI];simp [hc]
 rw [VM,Ze h8,h1,h2]
theorem Zdh {ds:List Zf} {L:Zu} {op num:Int} {args:LI} {i:Nat} (h8:¬op=8):VM ds L op num args i=L:=by rw [VM,Z7 h8]
theorem Zdl {n:Zm} {ln:LI} {L:Zu} {op num:Int} {args:LI} {kids:List Z6} {kb:Z6} (h:kids[0]? = some kb) :
  QS n ln L op num args kids=BJ L (Vp n ln (VM n.decls L op num args 0) L.vars.length kb) fun one=>J3 n ln L op num args one (kids.drop 1) 1:=by
 cases kids with
 | nil=>simp at h
 | cons b bs=>simp at h;subst h;rw [QS];rfl
theorem EF {n:Zm} {ln:LI} {L one:Zu} {op num:Int} {args:LI} {kids:List Z6} {kb:Z6} {k:Nat} (h:kids[k]? = some kb) :
  J3 n ln L op num args one (kids.drop k) k=Hn one (Vp n ln (VM n.decls L op num args k) L.vars.length kb) (J3 n ln L op num args one (kids.drop (k+1)) (k+1)):=by
 rw [Y5 h,J3]
def JV (n:Zm) (ln:LI) (L:Zu) (s:Z5):Option Zu:=
 if s.op=8/\¬Wd L ln (gI s.args 0)=true then none else QS n ln L s.op s.num s.args s.kids
theorem Z5l {n:Zm} {ln:LI} {L:Zu} {s:Z5} (h8:s.op=8) (ha:¬Wd L ln (gI s.args 0)=true):JV n ln L s=none:=by rw [JV,Ze ⟨h8,ha⟩]
theorem O4 {n:Zm} {ln:LI} {L:Zu} {s:Z5} {kb:Z6} (h:¬(s.op=8/\¬Wd L ln (gI s.args 0)=true)) (hk:s.kids[0]? = some kb) :
  JV n ln L s=BJ L (Vp n ln (VM n.decls L s.op s.num s.args 0) L.vars.length kb) fun one=>J3 n ln L s.op s.num s.args one (s.kids.drop 1) 1:=by
 rw [JV,Z7 h,Zdl hk]
theorem A3 {xs:LI} {x:Int} (h:xs[0]? = some x):gI xs 0=x:=by rw [gI];simp [h]
end Go.Abs
namespace Go.Abs
theorem WH.grow {L:Zu} {t o p:Int} (h:WH L):WH (L.grow t o p):=by
 obtain ⟨f1,f2,f3,f4,f5⟩:=h
 exact ⟨by simp [Zu.grow,f1],by simp [Zu.grow,f2],by simp [Zu.grow,f3],by simp [Zu.grow,f4],by simp [Zu.grow,f5]⟩
theorem WH.arm {L:Zu} {i j:Nat} {c d:Int} (h:WH L):WH ⟨L.vars,L.own,L.par,L.con.set i c,L.fst.set j d,L.tok⟩:=by
 obtain ⟨f1,f2,f3,f4,f5⟩:=h
 exact ⟨f1,f2,by simp [f3],by simp [f4],f5⟩
end Go.Abs
namespace Go.Abs
theorem Rx {n:Zm} (hn:X4 n) {ln:LI} {L O:Zu} {q:Int} {s:Z5} {i:Nat} {kb:Z6} {m:LI} (hk:Xd n.decls L q) (hq:0<=q) (hf:AL n L.vars s) (hop:s.op=7∨s.op=8)
  (_:s.kids[i]? = some kb) (harm:(X9 n.decls s.op s.num)[i]? = some m) (hbt:0<=YT n (L.vars++m) kb) (h:Vp n ln (VM n.decls L s.op s.num s.args i) L.vars.length kb=some O) :
  O.own.length=L.vars.length/\O.tok.length=L.vars.length:=by
 obtain ⟨k1,k2⟩:=Dr hk hq hf hop harm
 obtain ⟨r1,r2,_⟩:=NP hn k1 hq (by rw [k2];exact hbt) (by rw [k2];simp) h
 exact ⟨r1,r2⟩
theorem Z0o {one two:Zu} {r:Bool} (h:¬(¬one.own=two.own∨¬one.tok=two.tok)):Hn one (some two) r=r:=Ze ⟨Wa.1 fun q=>h (.inl q),Wa.1 fun q=>h (.inr q)⟩
theorem Z0n {one two:Zu} {r:Bool} (h:¬one.own=two.own∨¬one.tok=two.tok):Hn one (some two) r=false:=Z7 fun q=>h.elim (fun z=>z q.1) fun z=>z q.2
theorem S0 {L one:Zu} {f:Zu->Bool} (h:f one=true):BJ L (some one) f=some ⟨L.vars,one.own,L.par,L.con,L.fst,one.tok⟩:=Ze h
theorem EJ {L one:Zu} {f:Zu->Bool} (h:f one=false):BJ L (some one) f=none:=Z7 (by rw [h];simp)
end Go.Abs
namespace Go.Abs
section
variable {n:Zm} {ln:LI} {L:Zu} {s:Z5}
abbrev Kb (n:Zm) (ln:LI) (L:Zu) (s:Z5):Option Zu:=Ka n ln L s.op s.num s.into s.args (QS n ln L s.op s.num s.args s.kids)
theorem Mc {x:Int} (h:s.op=14) (hx:gI s.args 0=x):Kb n ln L s=Ao L ln x:=hx▸Ze h
theorem Md {x:Int} (h:s.op=15) (hx:gI s.args 0=x):Kb n ln L s=UM L x:=by rw [<-hx,Kb,Ka,Z7 om,Ze h]
theorem Me {x:Int} (h:s.op=16∨s.op=17) (hx:gI s.args 0=x):Kb n ln L s=QY n.decls L s.op x:=by rw [<-hx,Kb,Ka,Z7 om,Z7 om,Ze h]
theorem Hb (h:s.op=7∨s.op=8):Kb n ln L s=JV n ln L s:=by rw [Kb,Ka,Z7 om,Z7 om,Z7 om,Ze h,JV]
theorem SA (h1:¬s.op=14) (h2:¬s.op=15) (h3:¬(s.op=16∨s.op=17)) (h4:¬(s.op=7∨s.op=8)):Kb n ln L s=UZ n ln L s.op s.num s.into s.args:=by
 rw [Kb,Ka,Z7 h1,Z7 h2,Z7 h3,Z7 h4]
theorem Z7k {v:Int} (h:¬Wd L ln v=true):Ao L ln v=none:=Z7 h
theorem Z7l {v x:Int} (h:¬¬Wd L ln v=true) (hx:gI L.own v=x):Ao L ln v=some ⟨L.vars,L.own.set v.toNat (x+1),L.par,L.con,L.fst,L.tok⟩:=by rw [Ao,Ze (Wa.1 h),hx]
theorem UL (n:Zm) (ln:LI) (L:Zu) (s:Z5):UA n ln L s=Jr L s.op (Y2 n L.vars s) (Kb n ln L s):=MU n ln L s
theorem Tz {X:Zu} {op t:Int} (h:W7 op=true/\t≠0):Jr L op t (some X)=some (X.grow t 1 (-1)):=by
 unfold Jr;simp only [h.1,↓reduceIte];rw [Ze h.2]
theorem TA {X:Zu} {op t:Int} (h:¬(W7 op=true/\t≠0)) (h2:W7 op=true):Jr L op t (some X)=some (X.grow 0 0 (-1)):=by
 have ht:t=0:=Wa.1 fun q=>h ⟨h2,q⟩
 subst ht
 unfold Jr;simp only [h2,↓reduceIte];rfl
theorem TB {X:Zu} {op t:Int} (h:¬W7 op=true):Jr L op t (some X)=some X:=by
 unfold Jr;simp only [Z7 h]
end
end Go.Abs
namespace Go.Abs
theorem CT {n:Zm} {us:LI} {b:Z6} (h:0<=YT n us b):∃vs t,Xp n b.steps us=some vs/\Xa vs b.result=some t/\0<=t:=by
 rw [CS] at h
 cases hv:Xp n b.steps us with
 | none=>rw [hv] at h;simp at h
 | some vs=>
  rw [hv] at h
  simp only at h
  cases ha:Xa vs b.result with
  | none=>rw [ha] at h;simp at h
  | some t=>rw [ha] at h;exact ⟨vs,t,rfl,ha,h⟩
theorem DN {n:Zm} {us vs:LI} {s:Z5} {r:List Z5} (h:Xp n (s::r) us=some vs):0<=Y2 n us s/\Xp n r (K0 n us s)=some vs:=by
 rw [Xp] at h
 split at h
 ·cases h
 ·exact ⟨by omega,h⟩
theorem F9 (n:Zm) (us:LI) (s:Z5):us.length<=(K0 n us s).length/\(K0 n us s).length<=us.length+s.sz:=by
 have:=s.sz_pos
 rw [K0];split
 ·simp only [Ys,HP];omega
 ·omega
end Go.Abs
namespace Go.Abs
theorem Z8b {X L:Zu} {m:Nat} {r x:Int} (hg:gI L.vars r=x) (h:x≠0) (ht:UM L r=some X):Ug m r L=UE X m:=by rw [Ug,hg,Ze h,ht];rfl
theorem Z8a {L:Zu} {m:Nat} {r x:Int} (hg:gI L.vars r=x) (h:x≠0) (ht:UM L r=none):Ug m r L=none:=by rw [Ug,hg,Ze h,ht];rfl
theorem Em {L:Zu} {m:Nat} {r x:Int} (hg:gI L.vars r=x) (h:¬x≠0):Ug m r L=UE L m:=by rw [Ug,hg,Z7 h];rfl
end Go.Abs
namespace Go.Abs
theorem Sy {ds:List Zf} {lent:LI}:∀{ps:LI} {i:Nat} {L:Zu},Xd ds L 1->Xd ds (KD lent ps i L) 1/\(KD lent ps i L).vars=L.vars++ps
 | [],i,L,hk=>⟨hk,by simp [KD]⟩
 | t::r,i,L,hk=>by
  rw [KD]
  obtain ⟨k1,k2⟩:=Sy (lent:=lent) (ps:=r) (i:=i+1) (hk.grow (t:=t) (o:=if t≠0/\¬(i:Int)∈lent then 1 else 0) (p:=-1) om (by split<;>omega))
  exact ⟨k1,by rw [k2];simp [Zu.grow]⟩
theorem LZ (ds:List Zf) (r:Yc):Xd ds (UI r) 1/\(UI r).vars=r.params:=by
 have h:Xd ds (⟨[],[],[],[],[],[]⟩:Zu) 1:=⟨⟨rfl,rfl,rfl,rfl,rfl⟩,fun j h1 h2=>by simp at h2;omega,fun j h1 h2=>by simp at h2;omega,by simp,by simp⟩
 obtain ⟨k1,k2⟩:=Sy (lent:=r.lent) (ps:=r.params) (i:=0) h
 exact ⟨k1,by rw [UI,k2];rfl⟩
theorem Z6t {L:Zu} (h:UE L 0=none):(UE L 0).isSome=false:=by rw [h];rfl
theorem Z6u {L L':Zu} (h:UE L 0=some L'):(UE L 0).isSome=true:=by rw [h];rfl
theorem Z52 {n:Zm} (hn:X4 n) {ln:LI} {b:Z6} {L O:Zu} {q:Int} {k:Nat} (hk:Xd n.decls L q) (hq:0<=q) (hty:0<=YT n L.vars b) (hkl:k<=L.vars.length) (h:Vp n ln L k b=some O) :
  WH O/\O.vars.length=k:=
 ((LO n hn ln b.sz).2 b L O q k (YU _) hk hq hty hkl h).2
end Go.Abs
namespace Go.Abs
theorem Ms {n:Zm}:∀{l:List Yc},Qy n l=true->∀r∈l,¬UB r.body<0/\YT n r.params r.body=r.result
 | [],_,r,h=>by simp at h
 | a::l,h,r,hr=>by
  rw [Qy] at h
  split at h
  ·rename_i h1
   rcases YH.1 hr with rfl|hr
   ·exact h1
   ·exact Ms h r hr
  ·cases h
theorem Fs {n:Zm} (hz:V4 n) (h:WC n=true):X4 n/\∀r∈n.routines,0<=YT n r.params r.body:=by
 simp only [WC,W5] at h
 refine ⟨M1 hz h.1,fun r hr=>?_⟩
 rw [(Ms h.2 r hr).2]
 have h1:=h.1
 simp only [Vy,Kf,W5] at h1
 have:=Hr h1.2.1.2.2.1 (Ua r) (XF.2 ⟨r,hr,rfl⟩)
 simp only [Jb,W5,decide_eq_true_eq,Ua] at this
 exact (of_decide_eq_true this.2.2).1
end Go.Abs
end
section
namespace Go.Abs
theorem IK {xs:LI} (h:Z8 xs=[]):xs=[]:=by cases xs with|nil=>rfl|cons x r=>cases h
theorem Z7p {xs:List Yg} (h:XR xs=[]):xs=[]:=by cases xs with|nil=>rfl|cons x r=>cases h
theorem Z7s {xs:List Zf} (h:YB xs=[]):xs=[]:=by cases xs with|nil=>rfl|cons x r=>cases h
def Aw (i:Int):LI->Nat->Int
 | [],_=>-1
 | x::r,k=>if i=x then (k:Int) else Aw i r (k+1)
def GF (xs:LI) (i:Int):Int:=Aw i xs 0
theorem R5 (i:Int):∀(xs:LI) (k:Nat),(0<=Aw i xs k↔i∈xs)/\-1<=Aw i xs k
 | [],k=>by simp [Aw]
 | x::r,k=>by
  rw [Aw]
  obtain ⟨h1,h2⟩:=R5 i r (k+1)
  split
  ·rename_i h;subst h;simp<;>omega
  ·rename_i h;simp [h1,h,h2]
theorem Zco (xs:LI) (i:Int):decide (GF xs i>=0)=decide (i∈xs):=by
 rw [decide_eq_decide];exact (R5 i xs 0).1
end Go.Abs
namespace Go.Abs
theorem Pi (xss:List LI) (k:Nat):(xss.take k).flatten.length<=xss.flatten.length:=by
 conv=>rhs;rw [<-Tn k xss,List.flatten_append,Ys]
 omega
end Go.Abs
namespace Go.Abs
theorem L7 {xss:List LI} {k:Nat} {x:LI} (h:xss[k]? = some x):(xss.take (k+1)).flatten=(xss.take k).flatten++x:=by rw [V1 h,List.flatten_append];simp
theorem Ph {xss:List LI} {k:Nat} {x:LI} (h:xss[k]? = some x):(xss.take k).flatten.length+x.length<=xss.flatten.length:=by
 have:=Pi xss (k+1)
 rw [L7 h,Ys] at this
 exact this
end Go.Abs
end
section
namespace Go.Abs
theorem Z6b {c:Int} {ds:List Zf} {k:Nat} {d:Zf} {r:Int × LI} (h:ds[k]? = some d) (hn:¬(c-YQ (ds.take k)>=0/\c-YQ (ds.take k)<d.cons.length))
  (hr:Tv c (ds.drop k) k (YQ (ds.take k))=r):Tv c (ds.drop (k+1)) (k+1) (YQ (ds.take (k+1)))=r:=by
 rw [Y5 h,Tv,Z7 om] at hr
 rw [V1 h,Ee,<-hr];rfl
end Go.Abs
namespace Go.Abs
theorem Z6d {c:Int} {ds:List Zf} {k:Nat} {d:Zf} {x:Yg} (h:ds[k]? = some d) (hn:c-YQ (ds.take k)>=0/\c-YQ (ds.take k)<d.cons.length)
  (hx:d.cons[(c-YQ (ds.take k)).toNat]? = some x):Tv c (ds.drop k) k (YQ (ds.take k))=((k:Int)+1,x.fields):=by
 rw [Y5 h,Tv,Ze om,hx];rfl
def Bp (c:Int) (z:Nat) (v:Int):Prop:=v=c-z∨(c<0/\c-z < -9223372036854775808/\v=c-z+18446744073709551616)
theorem Z4j {c:Int} {z l:Nat} {v:Int} (h:Bp c z v) (hz:z<=100) (hl:l<=3) (hc:-9223372036854775808<=c/\c<=9223372036854775807):Bp c (z+l) (CI (v-l)):=by
 unfold Bp at *;rw [CI,IntKind.wrap_i64];omega
theorem Z6c {c v:Int} {ds:List Zf} {k:Nat} {d:Zf} {r:Int × LI} (h:ds[k]? = some d) (ha:Bp c (YQ (ds.take k)) v) (hn:¬(v>=0/\v<d.cons.length))
  (hr:Tv c (ds.drop k) k (YQ (ds.take k))=r):Tv c (ds.drop (k+1)) (k+1) (YQ (ds.take (k+1)))=r:=Z6b h (by unfold Bp at ha;omega) hr
theorem Z6e {c v:Int} {ds:List Zf} {k:Nat} {d:Zf} {x:Yg} (h:ds[k]? = some d) (ha:Bp c (YQ (ds.take k)) v) (hz:YQ (ds.take k)<=100) (hl:d.cons.length<=3) (hc:-9223372036854775808<=c)
  (hn:v>=0/\v<d.cons.length) (hx:d.cons[v.toNat]? = some x):Tv c (ds.drop k) k (YQ (ds.take k))=((k:Int)+1,x.fields):=by
 have:v=c-(YQ (ds.take k):Int):=by unfold Bp at ha;omega
 subst this
 exact Z6d h hn hx
def VZ (ds:List Zf) (t:Int):Zf:=if XT ds t=true then (ds[(t-1).toNat]?).getD ⟨0,0,[]⟩ else ⟨0,0,[]⟩
end Go.Abs
namespace Go.Abs
abbrev OC (ds:List Zf) (d:Zf):Prop:=
 (((¬(0<=d.frm/\d.frm<=ds.length))∨(¬(0<=d.to_/\d.to_<=ds.length)))∨((d.cons.length:Int)>3))∨(((d.cons.length:Int)>0)/\((d.frm≠0)∨(d.to_≠0)))
theorem Z7c {ds:List Zf} {d:Zf} {i:Nat} (h:OC ds d):UT ds d i=false:=by
 rw [UT]
 split
 ·rw [Z7];rintro ⟨h1,h2,h3⟩
  rcases h with ((h|h)|h)|h<;>omega
 ·split
  ·rfl
  ·rcases h with ((h|h)|h)|h
   ·rw [decide_eq_false h];rfl
   ·rw [decide_eq_false h,Bool.and_false]
   ·omega
   ·omega
theorem Z7d {ds:List Zf} {d:Zf} {i:Nat} (hl:0<d.cons.length) (h:Q5 ds.length d.cons=false):UT ds d i=false:=by
 rw [UT,Ze hl];split
 ·exact h
 ·rfl
theorem Z7e {ds:List Zf} {d:Zf} {i:Nat} (hl:d.cons.length=0) (h:Ko d (ds.take i)=true):UT ds d i=false:=by
 rw [UT,Z7 om,Ze h]
theorem Z7f {ds:List Zf} {d:Zf} {i:Nat} (h1:¬OC ds d) (h2:Q5 ds.length d.cons=true) (h3:d.cons.length=0->Ko d (ds.take i)=false):UT ds d i=true:=by
 rw [UT]
 have ha:0<=d.frm/\d.frm<=ds.length:=Wa.1 fun q=>h1 (.inl (.inl (.inl q)))
 have hb:0<=d.to_/\d.to_<=ds.length:=Wa.1 fun q=>h1 (.inl (.inl (.inr q)))
 have hc:¬(d.cons.length:Int)>3:=fun q=>h1 (.inl (.inr q))
 split
 ·rename_i hl
  have hd:¬(d.frm≠0∨d.to_≠0):=fun q=>h1 (.inr ⟨by omega,q⟩)
  rw [Ze ⟨by omega,by omega,by omega⟩];exact h2
 ·rw [Z7 (by rw [h3 om];simp),decide_eq_true ha,decide_eq_true hb];rfl
theorem N5 {ds:List Zf} {k:Nat} {d:Zf} (h:ds[k]? = some d) (hA:UT ds d k=false) (c:Tw ds (ds.drop k) k=Tw ds ds 0):false=V2 ds:=by
 rw [V2,<-c,Y5 h,Tw,Eg h,hA,Z7 (by simp),Bool.and_false]
theorem Zky {ds:List Zf} {k:Nat} {d:Zf} {r:Bool} (h:ds[k]? = some d) (hA:UT ds d k=true) (c:Tw ds (ds.drop k) k=r):Tw ds (ds.drop (k+1)) (k+1)=r:=by
 rw [Y5 h,Tw,Eg h,hA,Ze rfl] at c;exact c
theorem Zkx {ds:List Zf} {k:Nat} (hl:ds.length<=4) (hk:ds.length<=k) (c:Tw ds (ds.drop k) k=Tw ds ds 0):true=V2 ds:=by
 rw [V2,<-c,Xj hk,decide_eq_true hl];rfl
theorem Z6f {m:Nat} {c:Yg} (h:((c.fields.length:Int)>3)∨(¬(Wo m c.fields=true))):JY m c=false:=by
 rw [JY]
 rcases h with h|h
 ·rw [decide_eq_false om];rfl
 ·rw [Jg.2 h,Bool.and_false]
theorem Z6g {m:Nat} {c:Yg} (h:¬(((c.fields.length:Int)>3)∨(¬(Wo m c.fields=true)))):JY m c=true:=by
 rw [JY,Wa.1 fun q=>h (.inr q),decide_eq_true (by have:¬(c.fields.length:Int)>3:=fun q=>h (.inl q);omega)];rfl
end Go.Abs
end
section
namespace Go.Abs
structure Vo where
 pms:LI
 lnt:LI
 res:Int
abbrev RL (f:Vo):List AV:=[Z4 f.pms,Z4 f.lnt,.i f.res]
abbrev Fy (f:Vo):AV:=.agg (RL f)
def Ty (fs:List Vo):List AV:=fs.map Fy
abbrev Dv (xs:List Vo):AV:=.sl (Ty xs) none
abbrev H6 (xs:List Vo) (v:Value):AV:=.sl (Ty xs) (some v)
theorem Ci {xs:List Vo} {j:Nat} {x:Vo} (h:xs[j]? = some x):(Ty xs)[j]? = some (Fy x):=by simp [Ty,h]
@[simp] theorem El (xs:List Vo):(Ty xs).length=xs.length:=by simp [Ty]
theorem ON (xs:List Vo):∀y∈Ty xs,y.leaves.length=3:=by intro y hy;simp only [Ty,XF] at hy;obtain ⟨x,_,rfl⟩:=hy;rfl
theorem Z84 (xs:List Vo):(Zi (Ty xs)).all AV.one=true:=Js fun y hy=>by simp only [Ty,XF] at hy;obtain ⟨x,_,rfl⟩:=hy;rfl
def W4 (r:Yc):Vo:=⟨r.params,r.lent,r.result⟩
def Az (m:Nat) (f:Vo):Bool:=Jb m ⟨f.pms,f.res⟩&&JM f.pms f.lnt
def Jc (m:Nat):List Vo->Bool
 | []=>true
 | f::r=>if Az m f=true then Jc m r else false
def IZ:List Vo->Bool
 | []=>false
 | f::_=>decide (f.pms.length=0)&&decide (f.res=0)
def JN (ds:List Zf) (fs:List Vo):Bool:=V2 ds&&(decide (1<=fs.length/\fs.length<=4)&&(IZ fs&&Jc ds.length fs))
theorem P7 {fs:List Vo} {x:Vo} (h:fs[0]? = some x):IZ fs=(decide (x.pms.length=0)&&decide (x.res=0)):=by
 cases fs with
 | nil=>simp at h
 | cons f r=>simp at h;subst h;rfl
theorem Z14 (m:Nat):∀rs:List Yc,Jc m (rs.map W4)=(JC m (rs.map Ua)&&QV rs)
 | []=>rfl
 | r::rs=>by
  simp only [Vt,Jc,JC,QV,Az,Z14 m rs]
  simp only [W4,Ua]
  by_cases h1:Jb m { params:=r.params,result:=r.result }=true<;>by_cases h2:JM r.params r.lent=true<;>simp [h1,h2]
theorem Sa (n:Zm):Vy n=(decide (n.routines.length<=4)&&JN n.decls (n.routines.map W4)):=by
 have hf:IZ (n.routines.map W4)=Gc (n.routines.map Ua):=by
  cases n.routines with
  | nil=>rfl
  | cons r rs=>rfl
 rw [Vy,JN,Kf,Z14,hf]
 simp only [QC]
 cases decide (n.routines.length<=4)<;>cases V2 n.decls<;>cases decide (1<=n.routines.length/\n.routines.length<=4)<;>cases JC n.decls.length (n.routines.map Ua) <;>
  cases Gc (n.routines.map Ua)<;>cases QV n.routines<;>rfl
theorem Hp {rs:List Yc} {j:Nat} {x:Vo} (h:(rs.map W4)[j]? = some x):∃r,rs[j]? = some r/\x=W4 r:=by
 rw [TM] at h
 cases hr:rs[j]? with
 | none=>rw [hr] at h;cases h
 | some r=>rw [hr] at h;cases h;exact ⟨r,rfl,rfl⟩
theorem RT {ps ls:LI} {j:Nat} {v:Int} {r:Bool} (h:ls[j]? = some v) (hg:(0<=v/\v<=(ps.length:Int)-1)/\ps[v.toNat]?≠some 0/\(∀p,(if j=0 then none else ls[j-1]?)=some p->p<v))
  (hr:K8 ps (ls.drop j) (if j=0 then none else ls[j-1]?)=r):K8 ps (ls.drop (j+1)) (if j+1=0 then none else ls[j+1-1]?)=r:=by
 rw [Y5 h,LQ hg] at hr
 rw [Z7 om,show j+1-1=j from rfl,h];exact hr
theorem LR {ps ls:LI} {j:Nat} {v:Int} {r:Bool} (h:ls[j]? = some v) (hg:¬((0<=v/\v<=(ps.length:Int)-1)/\ps[v.toNat]?≠some 0/\(∀p,(if j=0 then none else ls[j-1]?)=some p->p<v)))
  (hr:K8 ps (ls.drop j) (if j=0 then none else ls[j-1]?)=r):r=false:=by
 rw [Y5 h,GZ hg] at hr;exact hr.symm
theorem Hq {m:Nat} {fs:List Vo} {k:Nat} {f:Vo} {r:Bool} (h:fs[k]? = some f) (hb:Az m f=false) (hr:Jc m (fs.drop k)=r):r=false:=by
 rw [Y5 h,Jc,hb,Z7 (by simp)] at hr;exact hr.symm
theorem Zhq {m:Nat} {fs:List Vo} {k:Nat} {f:Vo} {r:Bool} (h:fs[k]? = some f) (hb:Az m f=true) (hr:Jc m (fs.drop k)=r):Jc m (fs.drop (k+1))=r:=by
 rw [Y5 h,Jc,Ze hb] at hr;exact hr
end Go.Abs
namespace Go.Abs
section
variable {ds:List Zf} {fs:List Vo} {x:Vo}
theorem Zl4 (h:((¬(V2 ds=true))∨((fs.length:Int)<1))∨((fs.length:Int)>4)):false=JN ds fs:=by
 rw [JN]
 rcases h with (h|h)|h
 ·rw [Jg.2 h];rfl
 ·rw [decide_eq_false (p:=1<=fs.length/\fs.length<=4) om];simp
 ·rw [decide_eq_false (p:=1<=fs.length/\fs.length<=4) om];simp
theorem Z2u (hx:fs[0]? = some x) (h:((x.pms.length:Int)>0)∨x.res≠0):false=JN ds fs:=by
 rw [JN,P7 hx]
 rcases h with h|h
 ·rw [decide_eq_false (p:=x.pms.length=0) om];simp
 ·rw [decide_eq_false (p:=x.res=0) h];simp
theorem HF (h:Jc ds.length fs=false):false=JN ds fs:=by rw [JN,h];simp
theorem Zl5 (h:¬(((¬(V2 ds=true))∨((fs.length:Int)<1))∨((fs.length:Int)>4))) (hx:fs[0]? = some x) (h1:¬((x.pms.length:Int)>0)) (h2:¬x.res≠0) (h3:Jc ds.length fs=true) :
  true=JN ds fs:=by
 have hv:V2 ds=true:=Wa.1 fun q=>h (.inl (.inl q))
 have ha:¬(fs.length:Int)<1:=fun q=>h (.inl (.inr q))
 have hb:¬(fs.length:Int)>4:=fun q=>h (.inr q)
 rw [JN,P7 hx,hv,h3,decide_eq_true (p:=1<=fs.length/\fs.length<=4) om,decide_eq_true (p:=x.pms.length=0) om,decide_eq_true (p:=x.res=0) (Wa.1 h2)];rfl
abbrev Z11 (m:Nat) (x:Vo):Prop:=(((x.pms.length:Int)>3)∨(¬(Wo m x.pms=true)))∨(¬(0<=x.res/\x.res<=m))
theorem Zh2 {m:Nat} (h:Z11 m x):Az m x=false:=by
 rw [Az,Jb]
 rcases h with (h|h)|h
 ·rw [decide_eq_false (p:=x.pms.length<=3) om];simp
 ·rw [Jg.2 h];simp
 ·rw [decide_eq_false h];simp
theorem My {m:Nat} (h:JM x.pms x.lnt=false):Az m x=false:=by rw [Az,h,Bool.and_false]
theorem Zh3 {m:Nat} (h:¬Z11 m x) (hl:JM x.pms x.lnt=true):Az m x=true:=by
 have h1:¬(x.pms.length:Int)>3:=fun q=>h (.inl (.inl q))
 rw [Az,Jb,hl,decide_eq_true (p:=x.pms.length<=3) om,Wa.1 fun q=>h (.inl (.inr q)),decide_eq_true (Wa.1 fun q=>h (.inr q))];rfl
end
end Go.Abs
namespace Go.Abs
abbrev YN (n:Zm):AV:=Dv (n.routines.map W4)
end Go.Abs
end
section
namespace Go.Abs
def Wp (us:LI):LI->Option LI
 | []=>some []
 | a::r=>match Xa us a with
  | none=>none
  | some t=>match Wp us r with
   | none=>none
   | some ts=>some (t::ts)
theorem N0 {us:LI}:∀{args ts:LI},Wp us args=some ts->∀tys,W9 us args tys=true↔ts=tys
 | [],ts,h,tys=>by
  rw [Wp] at h;cases h
  cases tys with
  | nil=>simp [W9,Tj]
  | cons t r=>simp [W9,Tj]
 | a::r,ts,h,tys=>by
  rw [Wp] at h
  cases ha:Xa us a with
  | none=>rw [ha] at h;cases h
  | some t=>
   rw [ha] at h
   cases hr:Wp us r with
   | none=>rw [hr] at h;cases h
   | some tr=>
    rw [hr] at h;cases h
    cases tys with
    | nil=>simp [W9,Tj]
    | cons t2 r2=>
     rw [W9,Tj,ha]
     have:=N0 hr r2
     rw [W9] at this
     by_cases he:t=t2
     ·subst he;simp [this]
     ·rw [Z7 (fun q=>he (UP q))];simp [he]
theorem NA {us:LI}:∀{args ts:LI},Wp us args=some ts->ts.length=args.length
 | [],ts,h=>by rw [Wp] at h;cases h;rfl
 | a::r,ts,h=>by
  rw [Wp] at h
  cases ha:Xa us a with
  | none=>rw [ha] at h;cases h
  | some t=>
   rw [ha] at h
   cases hr:Wp us r with
   | none=>rw [hr] at h;cases h
   | some tr=>rw [hr] at h;cases h;simp [NA hr]
theorem NB {us:LI} {b t:Int}:∀{xs ts:LI},Wp us xs=some ts->Xa us b=some t->Wp us (xs++[b])=some (ts++[t])
 | [],ts,h,hb=>by rw [Wp] at h;cases h;simp [Wp,hb]
 | a::r,ts,h,hb=>by
  rw [Wp] at h
  cases ha:Xa us a with
  | none=>rw [ha] at h;cases h
  | some u=>
   rw [ha] at h
   cases hr:Wp us r with
   | none=>rw [hr] at h;cases h
   | some tr=>
    rw [hr] at h;cases h
    rw [Q2,Wp,ha,NB hr hb];rfl
def E5 (n:Zm) (num:Int):LI->Option Int
 | [a,b]=>if XT n.decls a=true/\b=(VZ n.decls a).frm/\num=0 then some (VZ n.decls a).to_ else none
 | _=>none
def XN (n:Zm) (op num:Int) (ts:LI):Option Int:=
 if op=0 then (if (-999<=num/\num<=999)/\ts.length=0 then some 0 else none)
 else if op=1∨op=2∨op=3∨op=4 then (if num=0/\ts=[0,0] then some 0 else none)
 else if op=5 then (if num=0/\ts=[0] then some 0 else none)
 else if op=11 then E5 n num ts
 else if op=6 then (if 0<=Wi n.decls num/\ts=ZX n.decls num then some (Wi n.decls num) else none)
 else if op=9 then (match Xa n.routines num with
  | none=>none
  | some r=>if ts=r.params then some r.result else none)
 else if op=10 then (match Xa n.routines num with
  | none=>none
  | some r=>if r.params.length≠0/\0<=Jm n.decls r.params r.result/\ts=r.params.take (r.params.length-1) then some (Jm n.decls r.params r.result) else none)
 else none
theorem FA {n:Zm} {num:Int} {ts:LI} (h:ts.length≠2):E5 n num ts=none:=by
 match ts,h with
 | [],_=>rfl
 | [_],_=>rfl
 | [_,_],h=>simp at h
 | _::_::_::_,_=>rfl
structure KO (n:Zm):Prop where
 result:∀r∈n.routines,0<=r.result
 params:∀r∈n.routines,∀p∈r.params,0<=p
 decl:∀d∈n.decls,d.cons.length=0->0<=d.frm/\0<=d.to_
 fields:∀c,∀f∈ZX n.decls c,0<=f
abbrev R9 (us:LI) (s:Z5):Prop:=s.into≠0/\(((s.op≠6∨s.into<1)∨s.into>us.length)∨gI us (s.into-1)=0)
theorem Zd7 {us:LI} {op into:Int} (hnn:∀t∈us,0<=t) (h:¬(into≠0/\(((op≠6∨into<1)∨into>us.length)∨gI us (into-1)=0))):U5 us op into=true:=by
 rw [U5]
 split
 ·rfl
 ·rename_i h0
  have h1:¬(((op≠6∨into<1)∨into>us.length)∨gI us (into-1)=0):=fun q=>h ⟨h0,q⟩
  have h2:op=6:=Wa.1 fun q=>h1 (.inl (.inl (.inl q)))
  have h3:¬into<1:=fun q=>h1 (.inl (.inl (.inr q)))
  have h4:¬into>us.length:=fun q=>h1 (.inl (.inr q))
  have h5:¬gI us (into-1)=0:=fun q=>h1 (.inr q)
  obtain ⟨t,ht⟩:=J1 (xs:=us) (j:=(into-1).toNat) om
  rw [Ze h2,Q3 om ht]
  rw [WS ht] at h5
  have:=hnn t (Y0 ht)
  simp;omega
theorem Zd6 {us:LI} {op into:Int} (h:into≠0/\(((op≠6∨into<1)∨into>us.length)∨gI us (into-1)=0)):U5 us op into=false:=by
 obtain ⟨h0,h⟩:=h
 rw [U5,Z7 h0]
 split
 ·rename_i h6
  cases ha:Xa us (into-1) with
  | none=>rfl
  | some t=>
   obtain ⟨a1,a2⟩:=KS ha
   rcases h with ((h|h)|h)|h
   ·exact absurd h6 h
   ·omega
   ·omega
   ·rw [WS a2] at h;subst h;rfl
 ·rfl
theorem Zk8 {n:Zm} {us:LI} {s:Z5} (h:R9 us s):Y2 n us s=-1:=by
 rw [Aa,Ze (.inr (.inl (by rw [Zd6 h];simp)))]
end Go.Abs
namespace Go.Abs
theorem Zd8 {α:Type} {c:Prop} [Decidable c] {v:α}:(if c then some v else none).isSome=decide c:=by split<;>simp_all
theorem Zhr {n:Zm} (hty:KO n) {op num:Int} {ts:LI} {x:Int} (h:XN n op num ts=some x):0<=x:=by
 unfold XN at h
 split at h
 ·split at h<;>cases h;exact Int.le_refl 0
 split at h
 ·split at h<;>cases h;exact Int.le_refl 0
 split at h
 ·split at h<;>cases h;exact Int.le_refl 0
 split at h
 ·rcases ts with _|⟨a,_|⟨b,_|⟨c,r⟩⟩⟩
  ·cases h
  ·cases h
  ·rw [E5] at h
   split at h
   ·rename_i hq
    cases h
    rw [VZ,Ze hq.1]
    have hA:=hq.1
    simp only [XT,W5,decide_eq_true_eq] at hA
    cases hd:n.decls[(a-1).toNat]? with
    | none=>rw [hd] at hA;simp at hA
    | some d=>
     rw [hd] at hA
     exact (hty.decl d (Y0 hd) (by simpa using hA.2)).2
   ·cases h
  ·cases h
 split at h
 ·split at h
  ·rename_i hq;cases h;exact hq.1
  ·cases h
 split at h
 ·cases ha:Xa n.routines num with
  | none=>rw [ha] at h;cases h
  | some r=>
   rw [ha] at h
   simp only at h
   split at h
   ·cases h;exact hty.result r (Y0 (KS ha).2)
   ·cases h
 split at h
 ·cases ha:Xa n.routines num with
  | none=>rw [ha] at h;cases h
  | some r=>
   rw [ha] at h
   simp only at h
   split at h
   ·rename_i hq;cases h;exact hq.2.1
   ·cases h
 ·cases h
def JI (n:Zm) (us:LI) (s:Z5) (ts:LI):Int:=
 if Yx s.op=true then (match ts with
  | [t]=>if t≠0/\s.num=0/\s.kids.length=0/\¬((s.op=16∨s.op=17)/\XT n.decls t=true) then 0 else -1
  | _=>-1)
 else if s.op=7 then (if ts=[0]/\s.num=0 then TX n us s.op s.num s.kids else -1)
 else if s.op=8 then (if ts=[s.num] then TX n us s.op s.num s.kids else -1)
 else if 0<s.kids.length∨(s.op=10/\0<(((Xa n.routines s.num).map (·.lent)).getD []).length) then -1
 else (XN n s.op s.num ts).getD (-1)
theorem Rc {p q:Prop} [Decidable p] [Decidable q] {a b:Int} (h:p↔q):ite p a b=ite q a b:=by
 by_cases hp:p
 ·rw [Ze hp,Ze (h.1 hp)]
 ·rw [Z7 hp,Z7 (fun z=>hp (h.2 z))]
theorem BW {n:Zm} {us:LI} {s:Z5} {ts:LI} (hnn:∀t∈us,0<=t) (hts:Wp us s.args=some ts) (hi:¬R9 us s):Y2 n us s=JI n us s ts:=by
 have hv:=Zd7 hnn hi
 have ht:=N0 hts
 have hl:=NA hts
 have hfirst:((s.num≠0/\¬VE s.op=true)∨¬U5 us s.op s.into=true∨(0<s.kids.length/\s.op≠7/\s.op≠8))↔((s.num≠0/\¬VE s.op=true)∨(0<s.kids.length/\s.op≠7/\s.op≠8)):=by
  rw [hv];simp
 rw [Aa,Rc hfirst]
 unfold JI
 by_cases hc:Yx s.op=true
 ·have hop:14<=s.op/\s.op<=17:=by simpa [Yx] using hc
  have hnum:VE s.op=false:=by simp [VE];omega
  rw [Ze hc]
  by_cases hb:s.num≠0∨0<s.kids.length
  ·rw [Ze (by rcases hb with hb|hb;exact .inl ⟨hb,by rw [hnum];simp⟩;exact .inr ⟨hb,by omega,by omega⟩)]
   split
   ·rw [Z7];rintro ⟨h1,h2,h3,h4⟩;omega
   ·rfl
  ·rw [Z7 (by rintro (⟨h1,_⟩|⟨h1,_⟩)<;>exact hb (by first|exact .inl h1|exact .inr h1)),Z7 om,Z7 om,Z7 om,Z7 om,Z7 om,Z7 om,Z7 om,Z7 om,Ze om]
   have Zb:s.num=0:=Wa.1 fun q=>hb (.inl q)
   have Zz:s.kids.length=0:=by have:¬0<s.kids.length:=fun q=>hb (.inr q);omega
   rcases he:s.args with _|⟨a,_|⟨b,r⟩⟩
   ·rw [he] at hts;rw [Wp] at hts;cases hts;rfl
   ·rw [he] at hts
    rw [Wp] at hts
    cases ha:Xa us a with
    | none=>rw [ha] at hts;cases hts
    | some t=>
     rw [ha,Wp] at hts;cases hts
     rw [Qj,ha]
     simp only
     by_cases ht0:t=0
     ·rw [Ze ht0,Z7 (fun q=>q.1 ht0)]
     ·rw [Z7 ht0]
      by_cases hA:XT n.decls t=true
      ·by_cases h16:s.op=16∨s.op=17
       ·rw [Ze ⟨by omega,hA⟩,Z7 (fun q=>q.2.2.2 ⟨h16,hA⟩)]
       ·rw [Z7 (by rintro ⟨q,_⟩;omega),Ze ⟨ht0,Zb,Zz,fun q=>h16 q.1⟩]
      ·rw [Z7 (fun q=>hA q.2),Ze ⟨ht0,Zb,Zz,fun q=>hA q.2⟩]
   ·rw [he] at hl
    rw [show Qj n.decls us s.op (a::b::r)=-1 from rfl]
    match ts,hl with
    | [t],hl=>simp at hl
    | [],hl=>simp at hl
    | _::_::_,_=>rfl
 have hop:¬(14<=s.op/\s.op<=17):=by simpa [Yx] using hc
 by_cases h7:s.op=7
 ·have hnum:VE s.op=false:=by simp [VE];omega
  conv=>rhs;rw [Z7 hc,Ze h7]
  by_cases hb:s.num=0
  ·rw [Z7 (fun q=>q.elim (fun z=>z.1 hb) fun z=>z.2.1 h7),Z7 om,Z7 om,Z7 om,Z7 om,Ze h7]
   by_cases hq:ts=[0]
   ·rw [Ze ((ht _).2 hq),Ze ⟨hq,hb⟩]
   ·rw [Z7 (fun q=>hq ((ht _).1 q)),Z7 (fun q=>hq q.1)]
  ·rw [Ze (.inl ⟨hb,by rw [hnum];simp⟩),Z7 (fun q=>hb q.2)]
 by_cases h8:s.op=8
 ·have hnum:VE s.op=true:=by simp [VE,h8]
  conv=>rhs;rw [Z7 hc,Z7 h7,Ze h8]
  rw [Z7 (fun q=>q.elim (fun z=>z.2 hnum) fun z=>z.2.2 h8),Z7 om,Z7 om,Z7 om,Z7 om,Z7 h7,Ze h8]
  by_cases hq:ts=[s.num]
  ·rw [Ze ((ht _).2 hq),Ze hq]
  ·rw [Z7 (fun q=>hq ((ht _).1 q)),Z7 hq]
 conv=>rhs;rw [Z7 hc,Z7 h7,Z7 h8]
 by_cases hk:0<s.kids.length
 ·rw [Ze (.inr ⟨hk,h7,h8⟩),Ze (.inl hk)]
 by_cases hlent:s.op=10/\0<(((Xa n.routines s.num).map (·.lent)).getD []).length
 ·conv=>rhs;rw [Ze (.inr hlent)]
  have hnum:VE s.op=true:=by simp [VE,hlent.1]
  have h10:=hlent.1
  rw [Z7 (fun q=>q.elim (fun z=>z.2 hnum) fun z=>hk z.1),Z7 om,Z7 om,Z7 om,Z7 om,Z7 h7,Z7 h8,Ze (.inr h10),Us]
  cases ha:Xa n.routines s.num with
  | none=>rfl
  | some r=>
   have h2:=hlent.2
   rw [ha] at h2
   simp only [C6,Option.getD_some] at h2
   simp only
   rw [Ja,Z7 om,Ze (.inr (.inl h2))]
 conv=>rhs;rw [Z7 (fun q=>Or.elim q hk hlent)]
 have sf:∀{X:Option Int},XN n s.op s.num ts=X->Y2 n us s=X.getD (-1)->Y2 n us s=(XN n s.op s.num ts).getD (-1):=fun a b=>by rw [a];exact b
 have hL:=Aa n us s
 rw [Rc hfirst] at hL
 rw [<-hL]
 by_cases hnb:s.num≠0/\¬VE s.op=true
 ·have hnn2:¬(s.op=0∨(s.op=6∨(s.op=8∨(s.op=9∨s.op=10)))):=fun q=>hnb.2 (by simpa [VE] using q)
  refine sf (X:=none) ?_ (by rw [hL,Ze (.inl hnb)];rfl)
  unfold XN
  rw [Z7 om]
  split
  ·rw [Z7 (fun q=>hnb.1 q.1)]
  split
  ·rw [Z7 (fun q=>hnb.1 q.1)]
  split
  ·by_cases hl2:ts.length=2
   ·match ts,hl2 with
    | [a,b],_=>exact Z7 fun q=>hnb.1 q.2.2
   ·exact FA hl2
  rw [Z7 om,Z7 om,Z7 om]
 rw [Z7 (fun q=>q.elim hnb fun z=>hk z.1)] at hL
 have hnumf:¬(s.op=0∨(s.op=6∨(s.op=8∨(s.op=9∨s.op=10))))->s.num=0:=fun q=>Wa.1 fun z=>hnb ⟨z,fun y=>q (by simpa [VE] using y)⟩
 by_cases h0:s.op=0
 ·rw [Ze h0] at hL
  by_cases hq:s.args.length=0/\(-999<=s.num/\s.num<=999)
  ·exact sf (by unfold XN;rw [Ze h0,Ze ⟨hq.2,by omega⟩]) (by rw [hL,Ze hq];rfl)
  ·exact sf (by unfold XN;rw [Ze h0,Z7 (fun q=>hq ⟨by omega,q.1⟩)]) (by rw [hL,Z7 hq];rfl)
 rw [Z7 h0] at hL
 by_cases h1:s.op=1∨s.op=2∨s.op=3∨s.op=4
 ·rw [Ze h1] at hL
  by_cases hq:ts=[0,0]
  ·exact sf (by unfold XN;rw [Z7 h0,Ze h1,Ze ⟨hnumf om,hq⟩]) (by rw [hL,Ze ((ht _).2 hq)];rfl)
  ·exact sf (by unfold XN;rw [Z7 h0,Ze h1,Z7 (fun q=>hq q.2)]) (by rw [hL,Z7 (fun q=>hq ((ht _).1 q))];rfl)
 rw [Z7 h1] at hL
 by_cases h5:s.op=5
 ·rw [Ze h5] at hL
  by_cases hq:ts=[0]
  ·exact sf (by unfold XN;rw [Z7 h0,Z7 h1,Ze h5,Ze ⟨hnumf om,hq⟩]) (by rw [hL,Ze ((ht _).2 hq)];rfl)
  ·exact sf (by unfold XN;rw [Z7 h0,Z7 h1,Ze h5,Z7 (fun q=>hq q.2)]) (by rw [hL,Z7 (fun q=>hq ((ht _).1 q))];rfl)
 rw [Z7 h5] at hL
 by_cases h6:s.op=6
 ·rw [Ze h6] at hL
  have hct:0<Wi n.decls s.num↔0<=Wi n.decls s.num:=by
   rcases Int.lt_or_le (Wi n.decls s.num) 1 with q|q
   ·have:=(FL q).2;omega
   ·omega
  by_cases hq:0<=Wi n.decls s.num/\ts=ZX n.decls s.num
  ·exact sf (by unfold XN;rw [Z7 h0,Z7 h1,Z7 h5,Z7 om,Ze h6,Ze hq]) (by rw [hL,Ze ⟨hct.2 hq.1,(ht _).2 hq.2⟩];rfl)
  ·exact sf (by unfold XN;rw [Z7 h0,Z7 h1,Z7 h5,Z7 om,Ze h6,Z7 hq]) (by rw [hL,Z7 (fun q=>hq ⟨hct.1 q.1,(ht _).1 q.2⟩)];rfl)
 rw [Z7 h6,Z7 h7,Z7 h8] at hL
 by_cases h9:s.op=9
 ·rw [Ze (.inl h9),Us] at hL
  cases ha:Xa n.routines s.num with
  | none=>exact sf (by unfold XN;rw [Z7 h0,Z7 h1,Z7 h5,Z7 om,Z7 h6,Ze h9,ha]) (by rw [hL,ha];rfl)
  | some r=>
   rw [ha] at hL
   simp only at hL
   rw [Ja,Ze h9] at hL
   have hF:∀{X:Option Int},(if ts=r.params then some r.result else none)=X->XN n s.op s.num ts=X:=fun q=>by
    unfold XN;rw [Z7 h0,Z7 h1,Z7 h5,Z7 om,Z7 h6,Ze h9,ha];exact q
   by_cases hq:ts=r.params
   ·exact sf (hF (Ze hq)) (by rw [hL,Ze ((ht _).2 hq)];rfl)
   ·exact sf (hF (Z7 hq)) (by rw [hL,Z7 (fun q=>hq ((ht _).1 q))];rfl)
 by_cases h10:s.op=10
 ·rw [Ze (.inr h10),Us] at hL
  cases ha:Xa n.routines s.num with
  | none=>exact sf (by unfold XN;rw [Z7 h0,Z7 h1,Z7 h5,Z7 om,Z7 h6,Z7 h9,Ze h10,ha]) (by rw [hL,ha];rfl)
  | some r=>
   rw [ha] at hL hlent
   simp only [C6,Option.getD_some] at hL hlent
   rw [Ja,Z7 h9] at hL
   have hF:∀{X:Option Int},(if r.params.length≠0/\0<=Jm n.decls r.params r.result/\ts=r.params.take (r.params.length-1) then some (Jm n.decls r.params r.result) else none)=X->XN n s.op s.num ts=X:=fun q=>by
    unfold XN;rw [Z7 h0,Z7 h1,Z7 h5,Z7 om,Z7 h6,Z7 h9,Ze h10,ha];exact q
   by_cases hp:r.params.length=0
   ·exact sf (hF (Z7 fun q=>q.1 hp)) (by rw [hL,Ze (.inl hp)];rfl)
   by_cases hq:ts=r.params.take (r.params.length-1)
   ·rw [Z7 (fun z=>z.elim hp fun z=>z.elim (fun z=>hlent ⟨h10,z⟩) fun z=>z ((ht _).2 hq))] at hL
    by_cases har:0<=Jm n.decls r.params r.result
    ·exact sf (hF (Ze ⟨hp,har,hq⟩)) hL
    ·refine sf (hF (Z7 fun q=>har q.2.1)) ?_
     have key:∀(l:List Zf) (i:Nat) (f t:Int),¬0<=KQ f t l i->KQ f t l i=-1:=by
      intro l
      induction l with
      | nil=>intro i f t _;rfl
      | cons d r ih=>
       intro i f t hn
       rw [KQ] at hn ⊢
       split
       ·rename_i hh;rw [Ze hh] at hn;omega
       ·rename_i hh;rw [Z7 hh] at hn;exact ih _ _ _ hn
     exact hL.trans (key _ _ _ _ har)
   ·exact sf (hF (Z7 fun q=>hq q.2.2)) (by rw [hL,Ze (.inr (.inr fun q=>hq ((ht _).1 q)))];rfl)
 rw [Z7 om] at hL
 by_cases h11:s.op=11
 ·rw [Ze h11] at hL
  have hn0:=hnumf om
  have hF:∀{X:Option Int},E5 n s.num ts=X->XN n s.op s.num ts=X:=fun q=>by
   unfold XN;rw [Z7 h0,Z7 h1,Z7 h5,Ze h11];exact q
  rcases he:s.args with _|⟨a,_|⟨b,_|⟨c,r⟩⟩⟩
  ·rw [he] at hts hL;rw [Wp] at hts;cases hts;exact sf (hF rfl) hL
  ·rw [he] at hl hL
   exact sf (hF (FA (by simp at hl;omega))) hL
  ·rw [he] at hts hL
   rw [Wp] at hts
   cases ha:Xa us a with
   | none=>rw [ha] at hts;cases hts
   | some t=>
    rw [ha,Wp] at hts
    cases hb:Xa us b with
    | none=>rw [hb] at hts;cases hts
    | some t2=>
     rw [hb,Wp] at hts;cases hts
     rw [Kj,ha] at hL
     simp only at hL
     by_cases hA:XT n.decls t=true
     ·rw [Ze hA] at hL
      have hA2:=hA
      simp only [XT,W5,decide_eq_true_eq] at hA2
      cases hd:n.decls[(t-1).toNat]? with
      | none=>rw [hd] at hA2;simp at hA2
      | some d=>
       rw [hd] at hL
       simp only at hL
       have hD:VZ n.decls t=d:=by rw [VZ,Ze hA,hd];rfl
       have h2:=N0 (us:=us) (args:=[b]) (ts:=[t2]) (by rw [Wp,hb,Wp]) [d.frm]
       by_cases hq:t2=d.frm
       ·exact sf (hF (Ze ⟨hA,by rw [hD];exact hq,hn0⟩)) (by rw [hL,Ze (h2.2 (by rw [hq])),hD];rfl)
       ·exact sf (hF (Z7 fun q=>hq (by rw [hD] at q;exact q.2.1))) (by rw [hL,Z7 (fun q=>hq (by simpa using h2.1 q))];rfl)
     ·exact sf (hF (Z7 fun q=>hA q.1)) (by rw [hL,Z7 hA];rfl)
  ·rw [he] at hl hL
   exact sf (hF (FA (by simp at hl;omega))) hL
 rw [Z7 h11,Z7 om] at hL
 exact sf (X:=none) (by unfold XN;rw [Z7 h0,Z7 h1,Z7 h5,Z7 h11,Z7 h6,Z7 h9,Z7 h10]) hL
end Go.Abs
namespace Go.Abs
theorem Sc:∀(n:Nat) (f:Int) (k:Nat) (x:Int),(VN f n)[k]? = some x->x=f+k/\k<n
 | 0,f,k,x,h=>by simp [VN] at h
 | n+1,f,k,x,h=>by
  rw [VN] at h
  cases k with
  | zero=>simp at h;subst h;exact ⟨by omega,by omega⟩
  | succ k=>have:=Sc n (f+1) k x (by simpa using h);exact ⟨by omega,by omega⟩
theorem Ol {ds:List Zf} (hd:Wu ds) {t:Int} {k:Nat} {x:Int} (h:(ZW ds t)[k]? = some x):0<=x/\x<=100:=by
 rw [ZW] at h
 split at h
 ·rename_i ht
  obtain ⟨d,hd1⟩:=J1 (xs:=ds) (j:=(t-1).toNat) om
  rw [hd1] at h
  have:=Sc _ _ _ _ h
  have h3:=hd.cons_at hd1
  have h4:=(hd.take (t-1).toNat).sum
  simp only [C6,Option.getD_some] at this
  omega
 ·simp at h
end Go.Abs
namespace Go.Abs
section
variable {S:Option Int} {c:Prop} [Decidable c] {v:Int} {b:Bool}
theorem BQ (h:S=if c then some v else none) (hb:b=true↔c):b=S.isSome:=by rw [h,Zd8,XH,hb,decide_eq_true_iff]
theorem BR (h:S=if c then some v else none):∀x,S=some x->v=x:=by
 intro x hx;rw [h] at hx;split at hx
 ·exact UP hx
 ·cases hx
theorem Fa (h:S=none):false=S.isSome:=by rw [h];rfl
theorem Fb (h:S=none):∀x,S=some x->v=x:=by intro x hx;rw [h] at hx;cases hx
end
section
variable {n:Zm} {op num:Int} {ts:LI}
theorem sf0 (h:op=0):XN n op num ts=if (-999<=num/\num<=999)/\ts.length=0 then some 0 else none:=by unfold XN;rw [Ze h]
theorem sf1 (h:op=1∨op=2∨op=3∨op=4):XN n op num ts=if num=0/\ts=[0,0] then some 0 else none:=by unfold XN;rw [Z7 om,Ze h]
theorem sf5 (h:op=5):XN n op num ts=if num=0/\ts=[0] then some 0 else none:=by unfold XN;rw [Z7 om,Z7 om,Ze h]
theorem Z10 (h:op=11):XN n op num ts=E5 n num ts:=by unfold XN;rw [Z7 om,Z7 om,Z7 om,Ze h]
theorem Zhn (h:op=11) (hl:(ts.length:Int)≠2):XN n op num ts=none:=(Z10 h).trans (FA om)
theorem ME (h:op=11) {a b:Int} (hl:¬(ts.length:Int)≠2) (ha:ts[0]? = some a) (hb:ts[1]? = some b) :
  XN n op num ts=if XT n.decls a=true/\b=(VZ n.decls a).frm/\num=0 then some (VZ n.decls a).to_ else none:=by
 rw [Z10 h]
 match ts,hl,ha,hb with
 | [x,y],_,ha,hb=>simp at ha hb;subst ha;subst hb;rfl
 | [],hl,_,_=>simp at hl
 | [_],hl,_,_=>simp at hl
 | _::_::_::_,hl,_,_=>simp at hl;omega
theorem Zhm (h:op=11) {a:Int} (hl:¬(ts.length:Int)≠2) (ha:ts[0]? = some a) (hn:¬XT n.decls a=true):XN n op num ts=none:=by
 obtain ⟨b,hb⟩:=J1 (xs:=ts) (j:=1) om
 rw [ME h hl ha hb,Z7 fun q=>hn q.1]
theorem sf6 (h:op=6):XN n op num ts=if 0<=Wi n.decls num/\ts=ZX n.decls num then some (Wi n.decls num) else none:=by
 unfold XN;rw [Z7 om,Z7 om,Z7 om,Z7 om,Ze h]
theorem Zho (h:op=9∨op=10) (hr:num<0∨num>=(((n.routines.map W4).length:Nat):Int)):XN n op num ts=none:=by
 have ha:Xa n.routines num=none:=KR (by simp at hr;omega)
 unfold XN
 rw [Z7 om,Z7 om,Z7 om,Z7 om,Z7 om]
 rcases h with h|h
 ·rw [Ze h,ha]
 ·rw [Z7 om,Ze h,ha]
theorem sf9 (h:op=9) {x:Vo} (hr:¬(num<0∨num>=(((n.routines.map W4).length:Nat):Int))) (hx:(n.routines.map W4)[num.toNat]? = some x) :
  XN n op num ts=if ts=x.pms then some x.res else none:=by
 obtain ⟨r,h1,rfl⟩:=Hp hx
 have ha:Xa n.routines num=some r:=Q3 (by simp at hr;omega) h1
 unfold XN
 rw [Z7 om,Z7 om,Z7 om,Z7 om,Z7 om,Ze h,ha];rfl
theorem Zhl (h:op=10) {x:Vo} (hr:¬(num<0∨num>=(((n.routines.map W4).length:Nat):Int))) (hx:(n.routines.map W4)[num.toNat]? = some x) (hp:(x.pms.length:Int)-1<0) :
  XN n op num ts=none:=by
 obtain ⟨r,h1,rfl⟩:=Hp hx
 have ha:Xa n.routines num=some r:=Q3 (by simp at hr;omega) h1
 have hp':r.params.length=0:=by simp only [W4] at hp;omega
 unfold XN
 rw [Z7 om,Z7 om,Z7 om,Z7 om,Z7 om,Z7 om,Ze h,ha]
 exact Z7 fun q=>q.1 hp'
theorem Zhk (h:op=10) {x:Vo} {l:Int} (hr:¬(num<0∨num>=(((n.routines.map W4).length:Nat):Int))) (hx:(n.routines.map W4)[num.toNat]? = some x) (hp:¬(x.pms.length:Int)-1<0)
  (hl:x.pms[((x.pms.length:Int)-1).toNat]? = some l) :
  XN n op num ts=if 0<=Ut n.decls l x.res/\ts=x.pms.take ((x.pms.length:Int)-1).toNat then some (Ut n.decls l x.res) else none:=by
 obtain ⟨r,h1,rfl⟩:=Hp hx
 have ha:Xa n.routines num=some r:=Q3 (by simp at hr;omega) h1
 simp only [W4] at hp hl ⊢
 have hq:((r.params.length:Int)-1).toNat=r.params.length-1:=by omega
 have ht:r.params.take ((r.params.length:Int)-1).toNat=r.params.take (r.params.length-1):=Yu (fun k=>r.params.take k) hq
 have hl':r.params[r.params.length-1]? = some l:=by rw [<-hl];exact Yu (fun k=>r.params[k]?) hq.symm
 have hlast:Jm n.decls r.params r.result=Ut n.decls l r.result:=by rw [Jm,PG hl']
 unfold XN
 rw [Z7 om,Z7 om,Z7 om,Z7 om,Z7 om,Z7 om,Ze h,ha]
 simp only [hlast]
 by_cases hc:0<=Ut n.decls l r.result/\ts=r.params.take (r.params.length-1)
 ·rw [Ze ⟨by omega,hc⟩]
  exact (Ze ⟨hc.1,hc.2.trans ht.symm⟩).symm
 ·rw [Z7 fun q=>hc q.2]
  exact (Z7 (fun q=>hc ⟨q.1,q.2.trans ht⟩)).symm
theorem sfd (h0:¬op=0) (h1:¬(op=1∨op=2∨op=3∨op=4)) (h5:¬op=5) (h11:¬op=11) (h6:¬op=6) (h9:¬(op=9∨op=10)):XN n op num ts=none:=by
 unfold XN;rw [Z7 h0,Z7 h1,Z7 h5,Z7 h11,Z7 h6,Z7 om,Z7 om]
end
end Go.Abs
end
namespace Go.Abs
mutual
def Z5.rng:Z5->Prop
 | .mk _ num _ _ kids=>(-9223372036854775808<=num/\num<=9223372036854775807)/\Kl kids
def Z6.rng:Z6->Prop
 | .mk steps _=>TK steps
def TK:List Z5->Prop
 | []=>True
 | s::r=>s.rng/\TK r
def Kl:List Z6->Prop
 | []=>True
 | b::r=>b.rng/\Kl r
end
theorem Z5.rng_eq (s:Z5):s.rng=((-9223372036854775808<=s.num/\s.num<=9223372036854775807)/\Kl s.kids):=by cases s;rw [Z5.rng];rfl
theorem Z6.rng_eq (b:Z6):b.rng=TK b.steps:=by cases b;rw [Z6.rng];rfl
theorem MQ:∀{xs:List Z5} {k:Nat} {s:Z5},TK xs->xs[k]? = some s->s.rng
 | [],k,s,_,h=>by simp at h
 | x::r,0,s,hr,h=>by rw [TK] at hr;simp at h;subst h;exact hr.1
 | x::r,k+1,s,hr,h=>by rw [TK] at hr;exact MQ (k:=k) hr.2 (by simpa using h)
theorem FG:∀{xs:List Z6} {k:Nat} {b:Z6},Kl xs->xs[k]? = some b->b.rng
 | [],k,s,_,h=>by simp at h
 | x::r,0,s,hr,h=>by rw [Kl] at hr;simp at h;subst h;exact hr.1
 | x::r,k+1,s,hr,h=>by rw [Kl] at hr;exact FG (k:=k) hr.2 (by simpa using h)
theorem N2 {us:LI}:∀{args:LI},Wp us args=none->∀tys,W9 us args tys=false
 | [],h,tys=>by rw [Wp] at h;cases h
 | a::r,h,tys=>by
  cases tys with
  | nil=>simp [W9,Tj]
  | cons t ts=>
   rw [Wp] at h
   rw [W9,Tj]
   cases ha:Xa us a with
   | none=>simp
   | some u=>
    rw [ha] at h
    cases hr:Wp us r with
    | none=>
     have:=N2 hr ts
     rw [W9] at this
     by_cases he:u=t
     ·subst he;simpa using this
     ·rw [Z7 (fun q=>he (UP q))]
    | some tr=>rw [hr] at h;cases h
theorem Zk7 {n:Zm} {us:LI} {s:Z5} (h:Wp us s.args=none):Y2 n us s=-1:=by
 have ht:=N2 h
 rw [Aa]
 split
 ·rfl
 split
 ·rw [Z7];rintro ⟨q,_⟩
  have:s.args=[]:=List.length_eq_zero_iff.1 q
  rw [this,Wp] at h;cases h
 split
 ·rw [Z7 (by rw [ht];simp)]
 split
 ·rw [Z7 (by rw [ht];simp)]
 split
 ·rw [Z7 (by rw [ht];simp)]
 split
 ·rw [Z7 (by rw [ht];simp)]
 split
 ·rw [Z7 (by rw [ht];simp)]
 split
 ·rw [Us]
  cases Xa n.routines s.num with
  | none=>rfl
  | some r=>
   simp only
   rw [Ja]
   split
   ·rw [Z7 (by rw [ht];simp)]
   ·rw [Ze (.inr (.inr (by rw [ht];simp)))]
 split
 ·match hA:s.args with
  | []=>rfl
  | [_]=>rfl
  | [a,b]=>
   rw [Kj]
   rw [hA,Wp] at h
   cases ha:Xa us a with
   | none=>rfl
   | some t=>
    rw [ha] at h
    simp only at h ⊢
    split
    ·cases n.decls[(t-1).toNat]? with
     | none=>rfl
     | some d=>
      simp only
      rw [Z7]
      cases hb:Wp us [b] with
      | none=>rw [N2 hb];simp
      | some tr=>rw [hb] at h;cases h
    ·rfl
  | _::_::_::_=>rfl
 split
 ·match hA:s.args with
  | []=>rfl
  | [a]=>
   rw [Qj]
   rw [hA,Wp] at h
   cases ha:Xa us a with
   | none=>rfl
   | some t=>rw [ha,Wp] at h;cases h
  | _::_::_=>rfl
 ·rfl
theorem Nz {us:LI} {a:Int}:∀{xs:LI} {k:Nat},xs[k]? = some a->Xa us a=none->Wp us xs=none
 | [],k,h,_=>by simp at h
 | x::r,0,h,ha=>by simp at h;subst h;rw [Wp,ha]
 | x::r,k+1,h,ha=>by
  have:=Nz (xs:=r) (k:=k) (by simpa using h) ha
  rw [Wp]
  cases Xa us x with
  | none=>rfl
  | some t=>simp only [this]
theorem Zdn {n:Zm} {us:LI} {ks:List Z6} {ms:List LI} (h:0<ks.length) (t:Int) :
  XY n us (ks.drop 0) (ms.drop 0) (decide (0=0)) t=XY n us ks ms true 0:=by
 cases ks with
 | nil=>simp at h
 | cons b bs=>
  cases ms with
  | nil=>rw [KM,KM,XY,XY]
  | cons m r=>
   simp only [KM,decide_true]
   rw [XY,XY];simp
theorem NW {b:Z6}:∀{ks:List Z6} {k:Nat},ks[k]? = some b->b.sz<=X3 ks
 | [],k,h=>by simp at h
 | x::r,0,h=>by simp at h;subst h;rw [X3];omega
 | x::r,k+1,h=>by have:=NW (ks:=r) (k:=k) (by simpa using h);rw [X3];omega
theorem Fl (us m:LI):[us,m].flatten=us++m:=by simp
theorem Pn {xs:LI} {i:Int} (h:i.toNat<xs.length):xs[i.toNat]? = some (gI xs i):=by rw [gI,TL h];rfl
theorem Gh {xs:LI} (h:0<xs.length):xs[0]? = some (gI xs 0):=Pn (i:=0) h
def Uy (n:Zm) (num:Int):Vo:=((n.routines.map W4)[num.toNat]?).getD ⟨[],[],0⟩
theorem Z12 {n:Zm} {i:Int} (h:i.toNat<(n.routines.map W4).length):(n.routines.map W4)[i.toNat]? = some (Uy n i):=by rw [Uy,TL h];rfl
theorem EK {us m:LI} (h1:∀t∈us,0<=t) (h2:∀t∈m,0<=t):∀t∈us++m,0<=t:=fun t h=>(Xi.1 h).elim (h1 t) (h2 t)
theorem By {us:LI} {args ts:LI} {k:Nat} (h:Wp us (args.take k)=some ts) (hk:args.length<=k):Wp us args=some ts:=by
 rw [VA hk] at h;exact h
theorem Z48 {us:LI} {args ts:LI} {k:Nat} {a t:Int} (h:Wp us (args.take k)=some ts) (ha:args[k]? = some a) (ht:Xa us a=some t):Wp us (args.take (k+1))=some (ts++[t]):=by
 rw [V1 ha];exact NB h ht
theorem Sk {ts:LI} (h:(ts.length:Int)=1):ts=[gI ts 0]:=by
 match ts,h with
 | [a],_=>rfl
section
variable {n:Zm} {us ts:LI} {s:Z5}
theorem B7 {p1 p2 p3 p4 p5:Prop}:(p1/\(p2∨(p3∨(p4∨p5))))↔(p1/\(((p2∨p3)∨p4)∨p5)):=by simp only [or_assoc]
def FK (n:Zm) (s:Z5) (ts:LI):Int:=match ts with
  | [t]=>if t≠0/\s.num=0/\s.kids.length=0/\¬((s.op=16∨s.op=17)/\XT n.decls t=true) then 0 else -1
  | _=>-1
theorem BV:JI n us s ts =
 if Yx s.op=true then FK n s ts
 else if s.op=7 then (if ts=[0]/\s.num=0 then TX n us s.op s.num s.kids else -1)
 else if s.op=8 then (if ts=[s.num] then TX n us s.op s.num s.kids else -1)
 else if 0<s.kids.length∨(s.op=10/\0<(((Xa n.routines s.num).map (·.lent)).getD []).length) then -1
 else (XN n s.op s.num ts).getD (-1):=by unfold JI FK;rfl
theorem Og (h:(ts.length:Int)=1):FK n s ts=if gI ts 0≠0/\s.num=0/\s.kids.length=0/\¬((s.op=16∨s.op=17)/\XT n.decls (gI ts 0)=true) then 0 else -1:=by
 match ts,h with
 | [a],_=>rfl
theorem Z65 (h:(ts.length:Int)≠1):FK n s ts=-1:=by
 match ts,h with
 | [],_=>rfl
 | [a],h=>exact absurd rfl h
 | _::_::_,_=>rfl
theorem Zjl (hS:Y2 n us s=JI n us s ts) (hc:Yx s.op=true)
  (h:((((ts.length:Int)=1/\gI ts 0≠0)/\s.num=0)/\(s.kids.length:Int)=0)/\(s.op=16∨s.op=17)) :
  (!XT n.decls (gI ts 0))=decide (0<=Y2 n us s):=by
 obtain ⟨⟨⟨⟨h1,h2⟩,h3⟩,h4⟩,h5⟩:=h
 have h4':s.kids.length=0:=by omega
 rw [hS,BV,Ze hc,Og h1]
 cases hA:XT n.decls (gI ts 0)
 ·rw [Ze ⟨h2,h3,h4',by simp⟩];rfl
 ·rw [Z7 (fun q=>q.2.2.2 ⟨h5,rfl⟩)];rfl
theorem Zjm (hS:Y2 n us s=JI n us s ts) (hc:Yx s.op=true)
  (h:¬(((((ts.length:Int)=1/\gI ts 0≠0)/\s.num=0)/\(s.kids.length:Int)=0)/\(s.op=16∨s.op=17))) :
  ((((((ts.length:Int)==1)&&(gI ts 0 != 0))&&(s.num==0))&&((s.kids.length:Int)==0)))=decide (0<=Y2 n us s):=by
 rw [hS,BV,Ze hc]
 by_cases h1:(ts.length:Int)=1
 ·rw [Og h1]
  by_cases h2:(gI ts 0≠0/\s.num=0)/\(s.kids.length:Int)=0
  ·obtain ⟨⟨h2,h3⟩,h4⟩:=h2
   have h4':s.kids.length=0:=by omega
   rw [Ze ⟨h2,h3,h4',fun q=>h ⟨⟨⟨⟨h1,h2⟩,h3⟩,h4⟩,q.1⟩⟩,Zq.2 h1,Y3.2 h2,Zq.2 h3,Zq.2 h4];rfl
  ·rw [Z7 (fun q=>h2 ⟨⟨q.1,q.2.1⟩,by have:=q.2.2.1;omega⟩)]
   show _=false
   rw [Jg];intro q
   obtain ⟨⟨⟨_,q1⟩,q2⟩,q3⟩:=(YK (YK (YK Zq Y3) Zq) Zq).1 q
   exact h2 ⟨⟨q1,q2⟩,q3⟩
 ·rw [Z65 h1]
  show _=false
  rw [Jg];intro q
  obtain ⟨⟨⟨q1,_⟩,_⟩,_⟩:=(YK (YK (YK Zq Y3) Zq) Zq).1 q
  exact h1 q1
theorem Zjh (hS:Y2 n us s=JI n us s ts) (hc:¬Yx s.op=true) (h7:s.op=7)
  (h:(((ts.length:Int)≠1∨gI ts 0≠0)∨s.num≠0)∨(s.kids.length:Int)≠2):Y2 n us s=-1:=by
 rw [hS,BV,Z7 hc,Ze h7]
 split
 ·rename_i q
  obtain ⟨q1,q2⟩:=q
  rw [q1] at h
  rw [TX,Ze]
  right
  rw [X9,Ze h7]
  have:gI [0] 0=0:=rfl
  simp [this] at h
  show s.kids.length≠2
  omega
 ·rfl
theorem Zji (hS:Y2 n us s=JI n us s ts) (hc:¬Yx s.op=true) (h7:s.op=7)
  (h:¬((((ts.length:Int)≠1∨gI ts 0≠0)∨s.num≠0)∨(s.kids.length:Int)≠2)):Y2 n us s=XY n us s.kids (List.replicate 2 []) true 0:=by
 have h1:(ts.length:Int)=1:=Wa.1 fun q=>h (.inl (.inl (.inl q)))
 have h2:gI ts 0=0:=Wa.1 fun q=>h (.inl (.inl (.inr q)))
 have h3:s.num=0:=Wa.1 fun q=>h (.inl (.inr q))
 have h4:(s.kids.length:Int)=2:=Wa.1 fun q=>h (.inr q)
 rw [hS,BV,Z7 hc,Ze h7,Ze ⟨by rw [Sk h1,h2],h3⟩,TX,Z7]
 ·rw [X9,Ze h7];rfl
 ·rw [X9,Ze h7];simp;omega
theorem Zjj (hS:Y2 n us s=JI n us s ts) (hc:¬Yx s.op=true) (h7:¬s.op=7) (h8:s.op=8)
  (h:(ts.length:Int)≠1∨(gI ts 0≠s.num∨(((((ZW n.decls s.num).map (ZX n.decls)).length:Nat):Int)=0∨(s.kids.length:Int)≠((((ZW n.decls s.num).map (ZX n.decls)).length:Nat):Int)))):Y2 n us s=-1:=by
 rw [hS,BV,Z7 hc,Z7 h7,Ze h8]
 split
 ·rename_i q
  have hg:gI ts 0=s.num:=by rw [q];rfl
  have hl:(ts.length:Int)=1:=by rw [q];rfl
  rw [TX,Ze]
  rw [X9,Z7 h7]
  omega
 ·rfl
theorem Zjk (hS:Y2 n us s=JI n us s ts) (hc:¬Yx s.op=true) (h7:¬s.op=7) (h8:s.op=8)
  (h:¬((ts.length:Int)≠1∨(gI ts 0≠s.num∨(((((ZW n.decls s.num).map (ZX n.decls)).length:Nat):Int)=0∨(s.kids.length:Int)≠((((ZW n.decls s.num).map (ZX n.decls)).length:Nat):Int))))) :
  Y2 n us s=XY n us s.kids ((ZW n.decls s.num).map (ZX n.decls)) true 0:=by
 have h1:(ts.length:Int)=1:=Wa.1 fun q=>h (.inl q)
 have h2:gI ts 0=s.num:=Wa.1 fun q=>h (.inr (.inl q))
 rw [hS,BV,Z7 hc,Z7 h7,Ze h8,Ze (by rw [Sk h1,h2]),TX,Z7]
 ·rw [X9,Z7 h7]
 ·rw [X9,Z7 h7];omega
theorem Zed {n:Zm} {num:Int}:(((Xa n.routines num).map (·.lent)).getD []).length=if 0<=num/\num<(((n.routines.map W4).length:Nat):Int) then (Uy n num).lnt.length else 0:=by
 split
 ·rename_i h
  rw [QC] at h
  obtain ⟨r,hr⟩:=J1 (xs:=n.routines) (j:=num.toNat) om
  rw [Q3 om hr,Uy,TM,hr];rfl
 ·rename_i h
  rw [QC] at h
  rw [KR om];rfl
theorem Z22:(0<s.kids.length∨(s.op=10/\0<(((Xa n.routines s.num).map (·.lent)).getD []).length)) ↔
  ((s.kids.length:Int)>0∨(s.op=10/\(s.num>=0/\(s.num<(((n.routines.map W4).length:Nat):Int)/\((((Uy n s.num).lnt).length:Nat):Int)>0)))):=by
 rw [Zed]
 by_cases hq:0<=s.num/\s.num<(((n.routines.map W4).length:Nat):Int)
 ·rw [Ze hq];omega
 ·rw [Z7 hq];omega
theorem stB (hS:Y2 n us s=JI n us s ts) (hc:¬Yx s.op=true) (h7:¬s.op=7) (h8:¬s.op=8)
  (h:((s.kids.length:Int)>0∨(s.op=10/\(s.num>=0/\(s.num<(((n.routines.map W4).length:Nat):Int)/\((((Uy n s.num).lnt).length:Nat):Int)>0))))):Y2 n us s=-1:=by
 rw [hS,BV,Z7 hc,Z7 h7,Z7 h8,Ze (Z22.2 h)]
theorem stS (hS:Y2 n us s=JI n us s ts) (hc:¬Yx s.op=true) (h7:¬s.op=7) (h8:¬s.op=8)
  (h:¬((s.kids.length:Int)>0∨(s.op=10/\(s.num>=0/\(s.num<(((n.routines.map W4).length:Nat):Int)/\((((Uy n s.num).lnt).length:Nat):Int)>0))))):Y2 n us s=(XN n s.op s.num ts).getD (-1):=by
 rw [hS,BV,Z7 hc,Z7 h7,Z7 h8,Z7 (fun q=>h (Z22.1 q))]
theorem Zjn (hty:KO n) (h:Y2 n us s=(XN n s.op s.num ts).getD (-1)):(XN n s.op s.num ts).isSome=decide (0<=Y2 n us s):=by
 rw [h]
 cases hs:XN n s.op s.num ts with
 | none=>rfl
 | some x=>have:=Zhr hty hs;simp [this]
theorem Zjo {t:Int} (h:Y2 n us s=(XN n s.op s.num ts).getD (-1)) (hp:∀x,XN n s.op s.num ts=some x->t=x):¬Yx s.op=true->0<=Y2 n us s->t=Y2 n us s:=by
 intro _ h0
 rw [h] at h0 ⊢
 cases hs:XN n s.op s.num ts with
 | none=>rw [hs] at h0;exact absurd h0 (by decide)
 | some x=>exact hp x hs
end
theorem Zk4 {n:Zm} {us:LI} {s:Z5} (h:0<=Y2 n us s):(0<=s.op/\s.op<=11)∨(14<=s.op/\s.op<=17):=by
 rw [Aa] at h
 by_cases hq:(0<=s.op/\s.op<=11)∨(14<=s.op/\s.op<=17)
 ·exact hq
 ·exfalso
  split at h
  ·omega
  rw [Z7 om,Z7 om,Z7 om,Z7 om,Z7 om,Z7 om,Z7 om,Z7 om,Z7 om] at h
  omega
theorem Eh {n:Zm} {us:LI} {s:Z5} (h:0<=Y2 n us s):W7 s.op=!Yx s.op:=by
 have:=Zk4 h
 rw [W7,Yx,XH];simp;omega
theorem Zk9 {n:Zm} {xs:List Z5} {vs:LI} {k:Nat} {s:Z5} {t:Int} {r:Option LI} (hs:xs[k]? = some s) (h:0<=Y2 n vs s) (ht:¬Yx s.op=true->0<=Y2 n vs s->t=Y2 n vs s)
  (hr:Xp n (xs.drop k) vs=r):Xp n (xs.drop (k+1)) (if Yx s.op=true then vs else vs++[t])=r:=by
 rw [Y5 hs,Xp,Z7 om] at hr
 rw [<-hr,Eh h]
 by_cases hc:Yx s.op=true
 ·rw [Ze hc,hc];rfl
 ·rw [Z7 hc,Ze (by simpa using hc),ht hc h]
theorem Zka {n:Zm} {xs:List Z5} {vs:LI} {k:Nat} {s:Z5} {r:Option LI} (hs:xs[k]? = some s) (h:¬0<=Y2 n vs s) (hr:Xp n (xs.drop k) vs=r):r=none:=by
 rw [Y5 hs,Xp,Ze om] at hr;exact hr.symm
theorem Zeu {c:Prop} [Decidable c] {vs:LI} {t:Int} (h:∀x∈vs,0<=x) (ht:¬c->0<=t):∀x∈(if c then vs else vs++[t]),0<=x:=by
 split
 ·exact h
 ·rename_i hc
  exact EK h (fun x hx=>by rw [XK.1 hx];exact ht hc)
theorem Nw {m:Nat} {xs:LI} (h:Wo m xs=true):∀x∈xs,0<=x/\x<=m:=by
 rw [Wo,Ad] at h
 exact fun x hx=>of_decide_eq_true (h x hx)
theorem Sb {n:Zm} (h:Vy n=true):KO n:=by
 simp only [Vy,Kf,W5,decide_eq_true_eq] at h
 obtain ⟨h1,⟨h2,h3,h4,h5⟩,h6⟩:=h
 have hs:∀r∈n.routines,Wo n.decls.length r.params=true/\0<=r.result:=fun r hr=>by
  have:=Hr h4 (Ua r) (XF.2 ⟨r,hr,rfl⟩)
  simp only [Jb,W5,decide_eq_true_eq] at this
  exact ⟨this.2.1,this.2.2.1⟩
 simp only [V2,W5,decide_eq_true_eq] at h2
 obtain ⟨h2a,h2b⟩:=h2
 rw [Ir] at h2b
 have key:∀(i:Nat) (d:Zf),n.decls[i]? = some d->UT n.decls d i=true:=fun i d hi=>by
  have:=h2b i (Xq.1 hi).1
  rwa [Vl,Eg hi] at this
 refine ⟨fun r hr=>(hs r hr).2,fun r hr p hp=>(Nw (hs r hr).1 p hp).1,fun d hd h0=>?_,fun c f hf=>?_⟩
 ·obtain ⟨i,hi⟩:=List.mem_iff_getElem?.1 hd
  have:=key i d hi
  rw [UT,Z7 om] at this
  split at this
  ·cases this
  ·simp only [W5,decide_eq_true_eq] at this;omega
 ·by_cases hc:Wi n.decls c<1
  ·rw [(FL hc).1] at hf;cases hf
  ·obtain ⟨k,d,x,q1,q2,q3,q4,q5⟩:=In hc
   rw [q5] at hf
   have:=key k d q1
   have hp:0<d.cons.length:=by have:=(Xq.1 q3).1;omega
   rw [UT,Ze hp] at this
   split at this
   ·have:=Om.1 this x (Y0 q3)
    simp only [JY,W5] at this
    exact (Nw this.2 f hf).1
   ·cases this
structure NTu (n:Zm):Prop where
 result:∀r∈n.routines,r.result<=(n.decls.length:Int)
 decl:∀d∈n.decls,d.cons.length=0->d.to_<=(n.decls.length:Int)
 fields:∀c,∀f∈ZX n.decls c,f<=(n.decls.length:Int)
section
variable {n:Zm} (hu:NTu n)
include hu
end
end Go.Abs
section
namespace Go.Abs
structure X1 where
 mat:Int
 fst:Int
 fds:LI
 chg:Bool
abbrev RG (a:X1):List AV:=[.i a.mat,.i a.fst,Z4 a.fds,.b a.chg]
abbrev Nk (a:X1):AV:=.agg (RG a)
def WL (xs:List X1):List AV:=xs.map Nk
abbrev Xe (xs:List X1):AV:=.sl (WL xs) none
abbrev M4 (xs:List X1) (v:Value):AV:=.sl (WL xs) (some v)
theorem OE {xs:List X1} {j:Nat} {x:X1} (h:xs[j]? = some x):(WL xs)[j]? = some (Nk x):=by simp [WL,h]
@[simp] theorem OF (xs:List X1):(WL xs).length=xs.length:=by simp [WL]
theorem OD (xs ys:List X1):WL (xs++ys)=WL xs++WL ys:=by simp [WL]
theorem D4 (xs:List X1):∀y∈WL xs,y.leaves.length=4:=by intro y hy;simp only [WL,XF] at hy;obtain ⟨x,_,rfl⟩:=hy;rfl
theorem Iv (xs:List X1):(Zi (WL xs)).all AV.one=true:=Js fun y hy=>by simp only [WL,XF] at hy;obtain ⟨x,_,rfl⟩:=hy;rfl
theorem Z7m {xs:List X1} (h:WL xs=[]):xs=[]:=by cases xs with|nil=>rfl|cons x r=>cases h
abbrev Vn:=Zu
def Wb:LI->Int->LI
 | [],_=>[]
 | t::r,p=>if t≠0 then p::Wb r (p+1) else Wb r (p+1)
theorem Zb7 {xs:LI} {k:Nat} {t p:Int} {acc r:LI} (h:xs[k]? = some t) (ha:acc++Wb (xs.drop k) (p+k)=r) :
  (if t≠0 then acc++[p+k] else acc)++Wb (xs.drop (k+1)) (p+((k+1:Nat):Int))=r:=by
 rw [Y5 h,Wb] at ha
 rw [show p+((k+1:Nat):Int)=p+k+1 by omega]
 split
 ·rename_i q;rw [Ze q] at ha;rw [UN];exact ha
 ·rename_i q;rw [Z7 q] at ha;exact ha
theorem Zb6 {xs:LI} {k:Nat} {p:Int} {acc r:LI} (h:xs.length<=k) (ha:acc++Wb (xs.drop k) (p+k)=r):acc=r:=by
 rw [Xj h,Wb,JQ] at ha;exact ha
theorem Ln:∀(xs:LI) (p:Int) (own:LI),Ts own p xs=(Wb xs p).foldl (fun o f=>o.set f.toNat (gI o f+1)) own
 | [],_,_=>rfl
 | t::r,p,own=>by
  rw [Ts,Wb]
  split
  ·rw [List.foldl_cons];exact Ln r _ _
  ·exact Ln r _ _
theorem Ey:∀{xs:LI} {p f:Int},f∈Wb xs p->p<=f/\f<p+xs.length
 | [],_,_,h=>by simp [Wb] at h
 | t::r,p,f,h=>by
  rw [Wb] at h
  split at h
  ·rcases YH.1 h with rfl|h
   ·simp only [YW];omega
   ·have:=Ey h;simp only [YW];omega
  ·have:=Ey h;simp only [YW];omega
theorem Lp:∀(xs:LI) (p:Int),(Wb xs p).length<=xs.length
 | [],_=>by simp [Wb]
 | t::r,p=>by
  have:=Lp r (p+1)
  rw [Wb];split<;>simp<;>omega
def UJ:List X1->Int->Option X1
 | [],_=>none
 | a::r,v=>match UJ r v with
  | some x=>some x
  | none=>if a.mat=v then some a else none
theorem Sj {a:X1}:∀{as1:List X1} {v:Int},UJ (as1++[a]) v=if a.mat=v then some a else UJ as1 v
 | [],v=>rfl
 | x::r,v=>by
  rw [Q2,UJ,Sj]
  by_cases h:a.mat=v
  ·rw [Ze h,Ze h]
  ·rw [Z7 h,Z7 h];rfl
theorem ES {v:Int}:∀{as1:List X1},(∀a∈as1,a.mat≠v)->UJ as1 v=none
 | [],_=>rfl
 | x::r,h=>by rw [UJ,ES (fun a ha=>h a (Xr _ ha))];exact Z7 (h x (Xf ..))
theorem Si {v:Int} {a:X1}:∀{as1:List X1},UJ as1 v=some a->a∈as1/\a.mat=v
 | [],h=>by cases h
 | x::r,h=>by
  rw [UJ] at h
  cases hr:UJ r v with
  | some y=>rw [hr] at h;cases h;have:=Si hr;exact ⟨Xr _ this.1,this.2⟩
  | none=>
   rw [hr] at h
   simp only at h
   split at h
   ·cases h;exact ⟨Xf ..,by assumption⟩
   ·cases h
structure V3 (ds:List Zf) (L:Zu) (as1:List X1):Prop where
 rng:∀a∈as1,0<=a.mat/\a.mat<a.fst/\a.fst+a.fds.length<=L.vars.length
 par:∀a∈as1,∀v:Int,a.fst<=v->v<a.fst+a.fds.length->gI L.par v=a.mat
 non:∀v:Int,0<=v->v<L.vars.length->0<=gI L.par v->∃a∈as1,a.fst<=v/\v<a.fst+a.fds.length
 off:∀v:Int,0<=v->v<L.vars.length->match UJ as1 v with
  | none=>gI L.con v<0
  | some a=>0<=gI L.con v/\a.fst=gI L.fst v/\a.fds=ZX ds (gI L.con v)
theorem V3.same {ds:List Zf} {L M:Zu} {as1:List X1} (h:V3 ds L as1) (h1:M.vars.length=L.vars.length) (h2:M.par=L.par) (h3:M.con=L.con) (h4:M.fst=L.fst):V3 ds M as1:=by
 refine ⟨?_,?_,?_,?_⟩
 ·rw [h1];exact h.rng
 ·rw [h2];exact h.par
 ·rw [h1,h2];exact h.non
 ·rw [h1,h3,h4];exact h.off
theorem V3.grow {ds:List Zf} {L:Zu} {as1:List X1} {t o:Int} (h:V3 ds L as1) (hl:WH L):V3 ds (L.grow t o (-1)) as1:=by
 obtain ⟨e1,e2,e3,e4,e5⟩:=hl
 have key:∀{xs:LI} {y v:Int},xs.length=L.vars.length->0<=v->v<L.vars.length->gI (xs++[y]) v=gI xs v:=fun hx h0 h1=>BE om
 have kend:∀{xs:LI} {y v:Int},xs.length=L.vars.length->v=(L.vars.length:Int)->gI (xs++[y]) v=y:=fun hx h1=>Lb om
 have hlen:(L.grow t o (-1)).vars.length=L.vars.length+1:=by simp [Zu.grow]
 refine ⟨fun a ha=>?_,fun a ha v h1 h2=>?_,fun v h0 h1 h2=>?_,fun v h0 h1=>?_⟩
 ·have:=h.rng a ha;omega
 ·have:=h.rng a ha
  show gI (L.par++[-1]) v=a.mat
  rw [key e2 om om];exact h.par a ha v h1 h2
 ·have h2':0<=gI (L.par++[-1]) v:=h2
  by_cases hv:v<L.vars.length
  ·rw [key e2 h0 hv] at h2';exact h.non v h0 hv h2'
  ·rw [kend e2 om] at h2';omega
 ·show match UJ as1 v with
   | none=>gI (L.con++[-1]) v<0
   | some a=>0<=gI (L.con++[-1]) v/\a.fst=gI (L.fst++[-1]) v/\a.fds=ZX ds (gI (L.con++[-1]) v)
  by_cases hv:v<L.vars.length
  ·rw [key e3 h0 hv,key e4 h0 hv];exact h.off v h0 hv
  ·rw [ES (fun a ha=>by have:=h.rng a ha;omega)]
   show gI (L.con++[-1]) v<0
   rw [kend e3 om];omega
theorem V3.arm {ds:List Zf} {L:Zu} {as1:List X1} {x c:Int} (h:V3 ds L as1) (hl:WH L) (hx:0<=x/\x<L.vars.length) (hc:0<=c) :
  V3 ds (Aj ds L x c) (as1++[⟨x,(L.vars.length:Nat),ZX ds c,false⟩]):=by
 obtain ⟨e1,e2,e3,e4,e5⟩:=hl
 rw [Aj,Lk]
 have hnew:∀{xs:LI} {y v:Int},xs.length=L.vars.length->(L.vars.length:Int)<=v->v<L.vars.length+(ZX ds c).length->gI (xs++List.replicate (ZX ds c).length y) v=y:=fun hx h0 h1=>Le om
 have Kv:∀{xs:LI} {y v:Int},xs.length=L.vars.length->0<=v->v<L.vars.length->gI (xs++List.replicate (ZX ds c).length y) v=gI xs v:=fun hx h0 h1=>BE om
 refine ⟨fun a ha=>?_,fun a ha v h1 h2=>?_,fun v h0 h1 h2=>?_,fun v h0 h1=>?_⟩
 ·simp only [Ys]
  rcases Xi.1 ha with ha|ha
  ·have:=h.rng a ha;omega
  ·rw [XK.1 ha]
   show 0<=x/\x<(L.vars.length:Nat)/\(L.vars.length:Int)+((ZX ds c).length:Nat)<=_
   omega
 ·show gI (L.par++List.replicate _ x) v=a.mat
  rcases Xi.1 ha with ha|ha
  ·have:=h.rng a ha
   rw [Kv e2 om om];exact h.par a ha v h1 h2
  ·rw [XK.1 ha] at h1 h2 ⊢
   exact hnew e2 h1 h2
 ·simp only [Ys] at h1
  have h2':0<=gI (L.par++List.replicate (ZX ds c).length x) v:=h2
  by_cases hv:v<L.vars.length
  ·rw [Kv e2 h0 hv] at h2'
   obtain ⟨a,ha,q⟩:=h.non v h0 hv h2'
   exact ⟨a,List.mem_append_left _ ha,q⟩
  ·exact ⟨_,List.mem_append_right _ (XK.2 rfl),by show (L.vars.length:Int)<=v;omega,by show v<(L.vars.length:Int)+(ZX ds c).length;omega⟩
 ·simp only [Ys] at h1
  show match UJ (as1++[⟨x,(L.vars.length:Nat),ZX ds c,false⟩]) v with
   | none=>gI (L.con.set x.toNat c++List.replicate (ZX ds c).length (-1)) v<0
   | some a=>0<=gI (L.con.set x.toNat c++List.replicate (ZX ds c).length (-1)) v/\a.fst=gI (L.fst.set x.toNat L.vars.length++List.replicate (ZX ds c).length (-1)) v /\
     a.fds=ZX ds (gI (L.con.set x.toNat c++List.replicate (ZX ds c).length (-1)) v)
  rw [Sj]
  by_cases hv:v<L.vars.length
  ·rw [Kv (by simp [e3]) h0 hv,Kv (by simp [e4]) h0 hv]
   by_cases he:x=v
   ·rw [Ze he]
    show 0<=gI (L.con.set x.toNat c) v/\(L.vars.length:Int)=gI (L.fst.set x.toNat L.vars.length) v/\ZX ds c=ZX ds (gI (L.con.set x.toNat c) v)
    rw [Df om om,Df om om]
    exact ⟨hc,rfl,rfl⟩
   ·rw [Z7 he,Dg om,Dg om];exact h.off v h0 hv
  ·rw [hnew (by simp [e3]) om om]
   rw [Z7 (by show ¬x=v;omega),ES (fun a ha=>by have:=h.rng a ha;omega)]
   show (-1:Int)<0
   omega
theorem Z3s {L:Zu} {ln:LI} {v:Int} {p:Int} (hv:0<=v/\v<L.vars.length) (hd:∀i:Int,0<=i->i<L.vars.length->gI L.par i<i) (h:¬(gI L.own v>0∨v∈ln)) (hp:gI L.par v=p) (h0:0<=p):Wd L ln v=Wd L ln p:=
 (Nu (N:=L.vars.length) rfl hp hv ⟨by omega,fun q=>h (.inr q)⟩ om hd rfl).symm
theorem Z3r {L:Zu} {ln:LI} {v:Int} (h:¬(gI L.own v>0∨v∈ln)) (hp:gI L.par v<0):Wd L ln v=false:=
 (Nt rfl rfl ⟨by omega,fun q=>h (.inr q)⟩ hp rfl).symm
theorem Z3t {L:Zu} {ln:LI} {v:Int} (h:gI L.own v>0∨v∈ln):Wd L ln v=true:=
 (Nv rfl (fun q=>h.elim (fun z=>by omega) q.2) rfl).symm
end Go.Abs
namespace Go.Abs
def XQ (L:Zu) (v:Int):Zu:={ L with own:=L.own.set v.toNat (gI L.own v-1) }
theorem Bi {L:Zu} {v:Int}:UM L v=if 1<=gI L.own v then some (XQ L v) else none:=by
 rw [UM]
 by_cases h:gI L.own v<1
 ·rw [Ze h,Z7 om]
 ·rw [Z7 h,Ze om];rfl
end Go.Abs
namespace Go.Abs
def We (L:Zu) (r:Int):Zu:=if gI L.vars r≠0 then XQ L r else L
theorem OX {L:Zu} {m:Nat} {r:Int} (ho:gI L.vars r≠0->1<=gI L.own r) (hz:Va ((We L r).own.drop m) ((We L r).tok.drop m)=true):Ug m r L=some ((We L r).take m):=by
 rw [Ug]
 by_cases h:gI L.vars r≠0
 ·rw [Ze h,Bi,Ze (ho h)]
  have e:We L r=XQ L r:=Ze h
  rw [e] at hz ⊢
  exact Ze hz
 ·rw [Z7 h]
  have e:We L r=L:=Z7 h
  rw [e] at hz ⊢
  exact Ze hz
theorem Z89 {L:Zu} {m:Nat} {r:Int} (h:gI L.vars r≠0) (ho:¬1<=gI L.own r):Ug m r L=none:=by
 rw [Ug,Ze h,Bi,Z7 ho];rfl
theorem G3 {L:Zu} {m:Nat} {r:Int} (hz:Va ((We L r).own.drop m) ((We L r).tok.drop m)=false):Ug m r L=none:=by
 rw [Ug]
 by_cases h:gI L.vars r≠0
 ·rw [Ze h,Bi]
  have e:We L r=XQ L r:=Ze h
  rw [e] at hz
  split
  ·exact Z7 (by rw [hz];simp)
  ·rfl
 ·rw [Z7 h]
  have e:We L r=L:=Z7 h
  rw [e] at hz
  exact Z7 (by rw [hz];simp)
theorem HK {os ts:LI} {k:Nat} {o t:Int} {r:Bool} (h1:os[k]? = some o) (h2:ts[k]? = some t) (h:o≠0∨0<=t) (hr:Va (os.drop k) (ts.drop k)=r):r=false:=by
 rw [Y5 h1,Y5 h2,Va,Ze h] at hr;exact hr.symm
theorem HL {os ts:LI} {k:Nat} {o t:Int} {r:Bool} (h1:os[k]? = some o) (h2:ts[k]? = some t) (h:¬(o≠0∨0<=t)) (hr:Va (os.drop k) (ts.drop k)=r):Va (os.drop (k+1)) (ts.drop (k+1))=r:=by
 rw [Y5 h1,Y5 h2,Va,Z7 h] at hr;exact hr
theorem Z3a {os ts:LI} {k:Nat} {r:Bool} (h1:os.length<=k) (hr:Va (os.drop k) (ts.drop k)=r):r=true:=by
 rw [Xj h1] at hr;rw [<-hr];simp [Va]
end Go.Abs
namespace Go.Abs
def CW (o:LI) (fs:LI):LI:=fs.foldl (fun o f=>o.set f.toNat (gI o f+1)) o
theorem Z57 {p:Int} {xs own:LI}:CW own (Wb xs p)=Ts own p xs:=(Ln xs p own).symm
theorem Z58 {fs o r:LI} {k:Nat} {f x:Int} (h:fs[k]? = some f) (hx:gI o f=x) (hr:CW o (fs.drop k)=r):CW (o.set f.toNat (x+1)) (fs.drop (k+1))=r:=by
 rw [Y5 h,CW,List.foldl_cons,hx] at hr;exact hr
theorem NZ {fs o r:LI} {k:Nat} (h:fs.length<=k) (hr:CW o (fs.drop k)=r):o=r:=by
 rw [Xj h] at hr;exact hr
def Kn (n:Zm) (ln:LI) (L:Zu) (op v:Int):Option Zu:=if op=14 then Ao L ln v else if op=15 then UM L v else QY n.decls L op v
section
variable {n:Zm} {ln:LI} {L:Zu} {op v:Int} {am:List X1} {a:X1}
theorem Z67 (h:op=14) (ha:¬Wd L ln v=true):Kn n ln L op v=none:=by rw [Kn,Ze h,Ao,Z7 ha]
theorem Z68 (h:op=14) (ha:Wd L ln v=true) {x:Int} (hx:gI L.own v=x):Kn n ln L op v=some { L with own:=L.own.set v.toNat (x+1) }:=by rw [Kn,Ze h,Ao,Ze ha,hx]
theorem Z6a (h:op=15) (ht:1<=gI L.own v):Kn n ln L op v=some (XQ L v):=by rw [Kn,Z7 om,Ze h,Bi,Ze ht]
theorem Z69 (h:op=15) (ht:¬1<=gI L.own v):Kn n ln L op v=none:=by rw [Kn,Z7 om,Ze h,Bi,Z7 ht]
theorem Oj (h1:¬op=14) (h2:¬op=15):Kn n ln L op v=QY n.decls L op v:=by rw [Kn,Z7 h1,Z7 h2]
theorem Zfi {ds:List Zf} (har:V3 ds L am) (hv:0<=v/\v<L.vars.length) (ho:UJ am v=none):QY ds L op v=none:=by
 have:=har.off v hv.1 hv.2
 rw [ho] at this
 rw [QY,Ze (.inl this)]
theorem Zfh {ds:List Zf} (har:V3 ds L am) (hv:0<=v/\v<L.vars.length) (ho:UJ am v=some a) {xt:Int} (hxt:gI L.tok v=xt):QY ds L op v=if ¬1<=gI L.own v∨(op=17/\xt>=0) then none else
  some { XQ L v with own:=Ts (XQ L v).own a.fst a.fds,tok:=if op=17 then L.tok.set v.toNat a.fds.length else L.tok }:=by
 have:=har.off v hv.1 hv.2
 rw [ho] at this
 obtain ⟨h1,h2,h3⟩:=this
 have hcon:¬gI L.con v<0:=by omega
 rw [QY,Bi,hxt,<-h2,<-h3]
 by_cases ht:1<=gI L.own v
 ·rw [Ze ht]
  by_cases h17:op=17/\xt>=0
  ·have c1:gI L.con v<0∨(op=17/\0<=xt):=.inr h17
   have c2:¬1<=gI L.own v∨(op=17/\xt>=0):=.inr h17
   rw [Ze c1,Ze c2]
  ·have c1:¬(gI L.con v<0∨(op=17/\0<=xt)):=fun q=>q.elim hcon h17
   have c2:¬(¬1<=gI L.own v∨(op=17/\xt>=0)):=fun q=>q.elim (fun z=>z ht) h17
   rw [Z7 c1,Z7 c2]
 ·rw [Z7 ht]
  have c2:¬1<=gI L.own v∨(op=17/\xt>=0):=.inl ht
  rw [Ze c2]
  split<;>rfl
end
end Go.Abs
namespace Go.Abs
theorem Z7b {ds:List Zf} {L:Zu} {q v:Int} (hk:Xd ds L q) (h1:1<=gI L.own v) (hv:0<=v/\v<L.vars.length):∀y∈(XQ L v).own,0<=y/\y<=q:=by
 intro y hy
 rcases J6 hy with hy|rfl
 ·exact ⟨hk.nn y hy,hk.bd y hy⟩
 ·obtain ⟨x,hx⟩:=J1 (xs:=L.own) (j:=v.toNat) (by have:=hk.len.own;omega)
  have hg:=WS hx
  have:=hk.bd x (Y0 hx)
  omega
end Go.Abs
end
section
namespace Go.Abs
def V9 (n:Zm) (us:LI) (op num:Int):LI->Nat->LI
 | [],_=>[]
 | a::r,i=>if Q4 n us op num a i=true then (i:Int)::V9 n us op num r (i+1) else V9 n us op num r (i+1)
section
variable {n:Zm} {us:LI} {op num:Int}
theorem Zfu {args acc r:LI} {k:Nat} {a:Int} (h:args[k]? = some a) (hc:Q4 n us op num a k=true) (hr:acc++V9 n us op num (args.drop k) k=r) :
  (acc++[(k:Int)])++V9 n us op num (args.drop (k+1)) (k+1)=r:=by
 rw [Y5 h,V9,Ze hc] at hr;rw [UN];exact hr
theorem SF {args acc r:LI} {k:Nat} {a:Int} (h:args[k]? = some a) (hc:¬Q4 n us op num a k=true) (hr:acc++V9 n us op num (args.drop k) k=r) :
  acc++V9 n us op num (args.drop (k+1)) (k+1)=r:=by
 rw [Y5 h,V9,Z7 hc] at hr;exact hr
theorem Zft {args acc r:LI} {k:Nat} (h:args.length<=k) (hr:acc++V9 n us op num (args.drop k) k=r):acc=r:=by
 rw [Xj h,V9,JQ] at hr;exact hr
theorem Mh (h:¬Ta op=true):∀(args:LI) (i:Nat),V9 n us op num args i=[]
 | [],_=>rfl
 | a::r,i=>by
  have hb:Ta op=false:=by simpa using h
  rw [V9,Z7 (by rw [Q4,hb];simp)];exact Mh h r (i+1)
theorem Mg:∀{args:LI} {i:Nat} {p:Int},p∈V9 n us op num args i->(i:Int)<=p/\p<i+args.length
 | [],_,_,h=>by simp [V9] at h
 | a::r,i,p,h=>by
  rw [V9] at h
  simp only [YW]
  split at h
  ·rcases YH.1 h with rfl|h
   ·omega
   ·have:=Mg h;omega
  ·have:=Mg h;omega
theorem SD:∀(args:LI) (i:Nat),(V9 n us op num args i).length<=args.length
 | [],_=>by simp [V9]
 | a::r,i=>by
  have:=SD r (i+1)
  rw [V9];split<;>simp<;>omega
theorem RU (h:¬Ta op=true) (i:Nat):¬WV n op num i=true:=by
 have:op≠9:=fun q=>h (by rw [q];rfl)
 rw [WV,B9,Z7 this];simp
def Br (n:Zm) (op num:Int) (args:LI) (k:Nat) (ls:LI):Prop:=∀x,x∈ls↔∃i,i<k/\args[i]? = some x/\WV n op num i=true
theorem RS {args ls:LI} {k:Nat} (h:Br n op num args k ls) (hl:¬WV n op num k=true):Br n op num args (k+1) ls:=by
 intro x;rw [h x]
 constructor
 ·rintro ⟨i,q1,q2⟩;exact ⟨i,by omega,q2⟩
 ·rintro ⟨i,q1,q2,q3⟩
  rcases JR i k with q|q
  ·exact ⟨i,q,q2,q3⟩
  ·have:i=k:=by omega
   subst this;exact absurd q3 hl
theorem Ze5 {args ls ls2:LI} {k:Nat} {a:Int} (ha:args[k]? = some a) (h:Br n op num args k ls) (hl:WV n op num k=true) (h2:∀x,x∈ls2↔x∈ls∨x=a):Br n op num args (k+1) ls2:=by
 intro x;rw [h2 x,h x]
 constructor
 ·rintro (⟨i,q1,q2⟩|rfl)
  ·exact ⟨i,by omega,q2⟩
  ·exact ⟨k,by omega,ha,hl⟩
 ·rintro ⟨i,q1,q2,q3⟩
  rcases JR i k with q|q
  ·exact .inl ⟨i,q,q2,q3⟩
  ·have:i=k:=by omega
   subst this;rw [ha] at q2;exact .inr (UP q2).symm
theorem Ze7 {args:LI}:Br n op num args 0 []:=by intro x;simp
theorem Ze6 {args ls:LI} {k:Nat} (h:Br n op num args k ls) (hk:args.length<=k):∀x,x∈ls↔∃i,args[i]? = some x/\WV n op num i=true:=by
 intro x;rw [h x]
 constructor
 ·rintro ⟨i,_,q⟩;exact ⟨i,q⟩
 ·rintro ⟨i,q⟩;exact ⟨i,by have:=(Xq.1 q.1).1;omega,q⟩
end
def KJ (args:LI):LI->Zu->Option Zu
 | [],L=>some L
 | k::r,L=>match UM L (gI args k) with
  | none=>none
  | some L1=>KJ args r L1
theorem Fj {n:Zm} {op num:Int} {all:LI}:∀{args:LI} {i:Nat} {L:Zu},all.drop i=args->QK n op num args i L=KJ all (V9 n L.vars op num args i) L
 | [],i,L,_=>rfl
 | a::r,i,L,h=>by
  have hr:all.drop (i+1)=r:=by rw [<-List.drop_drop,h];rfl
  have ha:gI all (i:Int)=a:=by
   have:(all.drop i)[0]? = some a:=by rw [h];rfl
   rw [CK] at this
   exact WS (by simpa using this)
  rw [QK,V9]
  split
  ·rw [KJ,ha]
   cases ht:UM L a with
   | none=>rfl
   | some L1=>
    simp only
    rw [Fj hr,(KI ht).2.1]
  ·exact Fj hr
theorem Zke {args ps:LI} {k:Nat} {L:Zu} {p x:Int} {r:Option Zu} (h:ps[k]? = some p) (hx:gI args p=x) (ht:1<=gI L.own x) (hr:KJ args (ps.drop k) L=r):KJ args (ps.drop (k+1)) (XQ L x)=r:=by
 rw [Y5 h,KJ,hx,Bi,Ze ht] at hr;exact hr
theorem Zkf {args ps:LI} {k:Nat} {L:Zu} {p x:Int} {r:Option Zu} (h:ps[k]? = some p) (hx:gI args p=x) (ht:¬1<=gI L.own x) (hr:KJ args (ps.drop k) L=r):r=none:=by
 rw [Y5 h,KJ,hx,Bi,Z7 ht] at hr;exact hr.symm
theorem Zkd {args ps:LI} {k:Nat} {L:Zu} {r:Option Zu} (h:ps.length<=k) (hr:KJ args (ps.drop k) L=r):r=some L:=by
 rw [Xj h,KJ] at hr;exact hr.symm
theorem Gn {n:Zm} {op num:Int} {ln:LI} {L:Zu} {all:LI}:∀{args:LI} {i:Nat},all.drop i=args ->
  (Jv n op num ln L args i=true↔∀j x,i<=j->all[j]? = some x->WV n op num j=true->Wd L ln x=true)
 | [],i,h=>by
  simp only [Jv,true_iff]
  intro j x hj hx _
  have:=(Xq.1 hx).1
  have hl:=Yu List.length h
  simp at hl;omega
 | a::r,i,h=>by
  have hr:all.drop (i+1)=r:=by rw [<-List.drop_drop,h];rfl
  have ha:all[i]? = some a:=by
   have:(all.drop i)[0]? = some a:=by rw [h];rfl
   rw [CK] at this;simpa using this
  rw [Jv]
  split
  ·rename_i q
   simp only [Bool.false_eq_true,false_iff]
   exact fun z=>q.2 (z i a (YU _) ha q.1)
  ·rename_i q
   rw [Gn hr]
   constructor
   ·intro z j x hj hx hl
    rcases JR i j with hij|hij
    ·exact z j x hij hx hl
    ·have:j=i:=by omega
     subst this;rw [ha] at hx;cases hx
     exact Wa.1 fun y=>q ⟨hl,y⟩
   ·exact fun z j x hj=>z j x om
theorem PI {n:Zm} {ln:LI} {L L1:Zu} {op num into:Int} {args ls:LI} (h1:KJ args (V9 n L.vars op num args 0) L=some L1) (hl:∀x,x∈ls↔∃i,args[i]? = some x/\WV n op num i=true) :
  ((∀x∈ls,Wd L1 ln x=true)->UZ n ln L op num into args=Jw L1 into args.length)/\((∃x∈ls,¬Wd L1 ln x=true)->UZ n ln L op num into args=none):=by
 rw [UZ,Fj (all:=args) (args:=args) (i:=0) rfl,h1]
 simp only
 constructor
 ·intro h
  rw [Ze ((Gn (all:=args) (args:=args) (i:=0) rfl).2 fun j x _ hx hj=>h x ((hl x).2 ⟨j,hx,hj⟩))]
 ·rintro ⟨x,hx,hd⟩
  rw [Z7]
  intro z
  obtain ⟨j,q1,q2⟩:=(hl x).1 hx
  exact hd ((Gn (all:=args) (args:=args) (i:=0) rfl).1 z j x (Af _) q1 q2)
theorem Zaz {n:Zm} {ln:LI} {L:Zu} {op num into:Int} {args:LI} (h1:KJ args (V9 n L.vars op num args 0) L=none):UZ n ln L op num into args=none:=by
 rw [UZ,Fj (all:=args) (args:=args) (i:=0) rfl,h1]
end Go.Abs
namespace Go.Abs
theorem Zhp {n:Zm} (hn:X4 n) (num:Int):(Uy n num).lnt.length<=4194304:=by
 rw [Uy,TM]
 cases h:n.routines[num.toNat]? with
 | none=>simp
 | some r=>exact hn.lent r (Y0 h)
theorem Ze4 {n:Zm} {op num:Int} {k:Nat}:WV n op num k=true↔(op=9/\(k:Int)∈(Uy n num).lnt):=by
 rw [WV,B9,decide_eq_true_iff]
 by_cases h:op=9
 ·rw [Ze h,Uy,TM]
  cases n.routines[num.toNat]? with
  | none=>simp
  | some r=>simp [h,W4]
 ·rw [Z7 h];simp [h]
end Go.Abs
namespace Go.Abs
theorem clS {xs:LI} {p:LI->Prop}:DY fun r h=>∃(vp vl:Value) (ls:LI),r=.tup [ZQ xs vp,ZQ ls vl]/\h=[.tail vp 1,.tail vl 1]/\p ls:=by
 rintro _ _ ⟨vp,vl,ls,rfl,rfl,_⟩
 refine ⟨.tup fun y hy=>?_,by simp [DZ]⟩
 simp only [YH,List.not_mem_nil,or_false] at hy
 rcases hy with rfl|rfl
 ·exact .own (k:=1) (HE _) (by simp)
 ·exact .own (k:=1) (HE _) (by simp)
end Go.Abs
end
section
namespace Go.Abs
section
variable {n:Zm} {ln:LI}
theorem Zb0 {L L':Zu} {op num into q:Int} {args:LI} {ds:List Zf} (hk:Xd ds L q) (h:UZ n ln L op num into args=some L'):L'.vars=L.vars/\L'.par=L.par/\L'.con=L.con/\L'.fst=L.fst:=by
 rw [UZ] at h
 cases ht:QK n op num args 0 L with
 | none=>rw [ht] at h;cases h
 | some L1=>
  rw [ht] at h
  obtain ⟨_,h1,h2,h3,h4,_⟩:=Gp hk ht
  simp only at h
  split at h
  ·rw [Jw] at h
   split at h
   ·split at h
    ·cases h
    ·cases h;exact ⟨h1,h2,h3,h4⟩
   ·cases h;exact ⟨h1,h2,h3,h4⟩
  ·cases h
theorem Zfr {L L1:Zu} {s:Z5} {q:Int} {ds:List Zf} (hk:Xd ds L q) (h:Ka n ln L s.op s.num s.into s.args (QS n ln L s.op s.num s.args s.kids)=some L1):L1.vars=L.vars/\L1.par=L.par/\L1.con=L.con/\L1.fst=L.fst:=by
 rw [Ka] at h
 split at h
 ·obtain ⟨h1,h2,h3,h4,_⟩:=Iu h;exact ⟨h1,h2,h3,h4⟩
 split at h
 ·obtain ⟨_,h1,h2,h3,h4,_⟩:=KI h;exact ⟨h1,h2,h3,h4⟩
 split at h
 ·obtain ⟨h1,h2,h3,h4,_⟩:=M9 h;exact ⟨h1,h2,h3,h4⟩
 split at h
 ·split at h
  ·cases h
  ·cases hks:s.kids with
   | nil=>rw [hks,QS] at h;cases h
   | cons b bs=>
    rw [hks,QS] at h
    unfold BJ at h
    cases hb:Vp n ln (VM n.decls L s.op s.num s.args 0) L.vars.length b with
    | none=>rw [hb] at h;cases h
    | some one=>
     rw [hb] at h
     simp only at h
     split at h
     ·cases h;exact ⟨rfl,rfl,rfl,rfl⟩
     ·cases h
 ·exact Zb0 hk h
theorem Z28 (hn:X4 n) {s:Z5} {L L':Zu} {q:Int} {am:List X1} (hk:Xd n.decls L q) (hq:0<=q) (hty:0<=Y2 n L.vars s) (h:UA n ln L s=some L') (ha:V3 n.decls L am):V3 n.decls L' am:=by
 rw [MU] at h
 cases hp:Ka n ln L s.op s.num s.into s.args (QS n ln L s.op s.num s.args s.kids) with
 | none=>rw [hp] at h;cases h
 | some L1=>
  rw [hp] at h
  obtain ⟨h1,h2,h3,h4⟩:=Zfr hk hp
  have hk1:=(BP hn hk hq (CF hty) hp).1
  have ha1:V3 n.decls L1 am:=ha.same (by rw [h1]) h2 h3 h4
  rw [Jr] at h
  split at h
  ·cases h;exact ha1.grow hk1.len
  ·cases h;exact ha1
theorem Hx (hn:X4 n) {am:List X1}:∀{xs:List Z5} {L L':Zu} {q:Int} {vs:LI},Xd n.decls L q->0<=q->V3 n.decls L am->Xp n xs L.vars=some vs->Vz n ln L xs=some L' ->
  Xd n.decls L' (q+4*Yf xs)/\L'.vars=vs/\V3 n.decls L' am
 | [],L,L',q,vs,hk,hq,ha,ht,h=>by
  rw [Vz] at h;rw [Xp] at ht;cases h;cases ht
  exact ⟨by simpa [Yf] using hk,rfl,ha⟩
 | s::r,L,L',q,vs,hk,hq,ha,ht,h=>by
  rw [Vz] at h
  cases hs:UA n ln L s with
  | none=>rw [hs] at h;cases h
  | some L1=>
   rw [hs] at h
   obtain ⟨g1,g2⟩:=DN ht
   obtain ⟨k1,k2⟩:=Hv hn hk hq g1 hs
   have:=Hx hn (xs:=r) k1 (by have:=s.sz_pos;omega) (Z28 hn hk hq g1 hs ha) (by rw [k2];exact g2) h
   refine ⟨?_,this.2⟩
   rw [show q+4*Yf (s::r)=q+4*s.sz+4*Yf r by rw [Yf];omega]
   exact this.1
end
end Go.Abs
namespace Go.Abs
def C9 (n:Zm):Prop:=∀r∈n.routines,∀i:Nat,(i:Int)∈r.lent->∃t,r.params[i]? = some t/\t≠0
theorem RR {ps:LI}:∀{ls:LI} {prev:Option Int},K8 ps ls prev=true->∀v∈ls,(0<=v/\v<=(ps.length:Int)-1)/\ps[v.toNat]?≠some 0
 | [],_,_,v,h=>by cases h
 | x::r,prev,h,v,hv=>by
  rw [K8] at h
  split at h
  ·rename_i q
   rcases YH.1 hv with rfl|hv
   ·exact ⟨q.1,q.2.1⟩
   ·exact RR h v hv
  ·cases h
theorem RW:∀{rs:List Yc},QV rs=true->∀r∈rs,JM r.params r.lent=true
 | [],_,r,h=>by cases h
 | x::rs,h,r,hr=>by
  rw [QV] at h
  split at h
  ·rcases YH.1 hr with rfl|hr
   ·assumption
   ·exact RW h r hr
  ·cases h
theorem Zew {n:Zm} (h:Vy n=true):C9 n:=by
 simp only [Vy,Kf,W5,decide_eq_true_eq] at h
 obtain ⟨_,_,h6⟩:=h
 intro r hr i hi
 obtain ⟨h1,h2⟩:=RR (RW h6 r hr) i hi
 obtain ⟨t,ht⟩:=J1 (xs:=r.params) (j:=i) om
 refine ⟨t,ht,fun q=>h2 ?_⟩
 rw [VH,ht,q]
theorem Fm {us:LI}:∀{args tys:LI} {i:Nat} {a t:Int},Tj us args tys=true->args[i]? = some a->tys[i]? = some t->Xa us a=some t
 | [],_,i,a,t,_,h,_=>by simp at h
 | x::r,[],i,a,t,_,_,h=>by simp at h
 | x::r,y::ys,i,a,t,h,ha,ht=>by
  rw [Tj] at h
  split at h
  ·rename_i hq
   cases i with
   | zero=>simp at ha ht;subst ha;subst ht;exact hq
   | succ i=>exact Fm h (by simpa using ha) (by simpa using ht)
  ·cases h
theorem Ze8 {n:Zm} (hl:C9 n) {us:LI} {s:Z5} (h:0<=Y2 n us s):∀(i:Nat) (a:Int),s.args[i]? = some a->WV n s.op s.num i=true->gI us a≠0:=by
 intro i a ha hla
 rw [WV,B9,decide_eq_true_iff] at hla
 by_cases h9:s.op=9
 ·rw [Ze h9] at hla
  have hn:=(CF h).num h9
  obtain ⟨r,hr⟩:=J1 (xs:=n.routines) (j:=s.num.toNat) om
  rw [hr] at hla
  obtain ⟨t,ht,h0⟩:=hl r (Y0 hr) i hla
  rw [Aa] at h
  split at h
  ·omega
  rw [Z7 om,Z7 om,Z7 om,Z7 om,Z7 om,Z7 om,Ze (.inl h9),Us,Q3 om hr] at h
  simp only [Ja] at h
  rw [Ze h9] at h
  split at h
  ·rename_i hty
   rw [W9] at hty
   have hq:Xa us a=some t:=by
    first
    | exact Fm hty ha ht
    | exact Fm (Bool.and_eq_true_iff.1 hty).2 ha ht
    | exact Fm (Bool.and_eq_true_iff.1 hty).1 ha ht
   rw [WS (KS hq).2];exact h0
  ·omega
 ·rw [Z7 h9] at hla;cases hla
end Go.Abs
namespace Go.Abs
theorem Zhf {n:Zm} {us:LI} {s:Z5} (h:∀t∈us,0<=t) (h0:0<=Y2 n us s):∀t∈K0 n us s,0<=t:=by
 rw [K0];split
 ·exact EK h fun t ht=>by rw [XK.1 ht];exact h0
 ·exact h
end Go.Abs
namespace Go.Abs
theorem Ii {c:Bool} {ok:Int->Prop}:DY fun r h=>∃t:Int,r=.tup [.i t,.b c]/\h=[]/\ok t:=by
 rintro _ _ ⟨t,rfl,rfl,_⟩
 refine ⟨.tup fun y hy=>?_,by simp⟩
 simp only [YH,List.not_mem_nil,or_false] at hy
 rcases hy with rfl|rfl<;>exact .val
section
variable {n:Zm} {ln:LI} {L:Zu} {s:Z5}
theorem Z8p {op t:Int} {r:Option Zu} (h:¬W7 op=true):Jr L op t r=r:=by
 cases r with
 | none=>rfl
 | some X=>exact Z7 h
theorem Z2a {x:Int} (hc:Yx s.op=true) (hx:gI s.args 0=x):UA n ln L s=Kn n ln L s.op x:=by
 have hop:14<=s.op/\s.op<=17:=by simpa [Yx] using hc
 have hd:¬W7 s.op=true:=by rw [W7];simp;omega
 rw [UL,Z8p hd,Kn]
 by_cases h14:s.op=14
 ·rw [Ze h14];exact Mc h14 hx
 rw [Z7 h14]
 by_cases h15:s.op=15
 ·rw [Ze h15];exact Md h15 hx
 rw [Z7 h15]
 exact Me om hx
theorem MV {L1:Zu} {t:Int} (hP:Kb n ln L s=some L1) (h0:0<=Y2 n L.vars s) (hnc:¬Yx s.op=true) (ht:t=Y2 n L.vars s):UA n ln L s=some (L1.grow t (min t 1) (-1)):=by
 have hd:W7 s.op=true:=by rw [Eh h0];simpa using hnc
 rw [UL,hP]
 show (if W7 s.op=true then _ else _)=_
 rw [Ze hd,ht,show (if Y2 n L.vars s≠0 then (1:Int) else 0)=min (Y2 n L.vars s) 1 by split<;>omega]
theorem Z2b (hP:Kb n ln L s=none):UA n ln L s=none:=by rw [UL,hP];rfl
theorem Mf (h1:¬Yx s.op=true) (h2:¬(s.op=7∨s.op=8)):Kb n ln L s=UZ n ln L s.op s.num s.into s.args:=by
 have hop:¬(14<=s.op/\s.op<=17):=by simpa [Yx] using h1
 rw [Kb,Ka,Z7 om,Z7 om,Z7 om,Z7 h2]
theorem Zfq (h1:¬Yx s.op=true) (h2:¬(s.op=7∨s.op=8)) (h3:¬Ta s.op=true) (h0:0<=Y2 n L.vars s):Kb n ln L s=some L:=by
 rw [Mf h1 h2,UZ,Fj (all:=s.args) (args:=s.args) (i:=0) rfl,Mh h3]
 show (if Jv n s.op s.num ln L s.args 0=true then Jw L s.into s.args.length else none)=some L
 rw [Ze ((Gn (all:=s.args) (args:=s.args) (i:=0) rfl).2 fun j x _ _ hl=>absurd hl (RU h3 j)),Jw]
 have hi:¬0<s.into:=by
  intro hi
  rw [Aa] at h0
  split at h0
  ·omega
  ·rename_i hq
   have hv:U5 L.vars s.op s.into=true:=Wa.1 fun z=>hq (.inr (.inl z))
   rw [U5,Z7 om] at hv
   split at hv
   ·rename_i h6;exact h3 (by rw [h6];rfl)
   ·cases hv
 rw [Z7 hi]
end
end Go.Abs
namespace Go.Abs
def TQ (L:Zu) (am:List X1) (s:Z5) (m:LI):List X1:=if s.op=8 then am++[⟨gI s.args 0,(L.vars.length:Nat),m,false⟩] else am
def JH (n:Zm) (L:Zu) (s:Z5) (k:Nat):Zu:=if s.op=8 then { L with con:=L.con.set (gI s.args 0).toNat (gI (ZW n.decls s.num) k),fst:=L.fst.set (gI s.args 0).toNat L.vars.length } else L
theorem BU {n:Zm} {L:Zu} {s:Z5} {k:Nat}:(JH n L s k).vars=L.vars:=by rw [JH];split<;>rfl
theorem DK {n:Zm} {L:Zu} {s:Z5} {k:Nat}:(JH n L s k).own=L.own:=by rw [JH];split<;>rfl
theorem DL {n:Zm} {L:Zu} {s:Z5} {k:Nat}:(JH n L s k).tok=L.tok:=by rw [JH];split<;>rfl
theorem Z27 {n:Zm} {L:Zu} {s:Z5} {k:Nat} (h:WH L):WH (JH n L s k):=by rw [JH];split;exact h.arm;exact h
theorem Z26 {n:Zm} {L:Zu} {s:Z5} {k:Nat} {m:LI} (hop:s.op=7∨s.op=8) (hm:(X9 n.decls s.op s.num)[k]? = some m):Jt (JH n L s k) (gI s.args 0) m=VM n.decls L s.op s.num s.args k:=by
 rw [JH,VM]
 by_cases h8:s.op=8
 ·rw [Ze h8,Ze h8]
  obtain ⟨c,hc,rfl⟩:=I5 h8 hm
  have hgc:gI (ZW n.decls s.num) (k:Int)=c:=by rw [gI];simp [hc]
  rw [Aj,hgc]
 ·rw [Z7 h8,Z7 h8]
  rw [X9,Ze om] at hm
  have:m=[]:=by
   match k,hm with
   | 0,hm=>simpa using hm.symm
   | 1,hm=>simpa using hm.symm
   | k+2,hm=>simp at hm
  rw [this];rfl
theorem NE {n:Zm} {L:Zu} {am:List X1} {s:Z5} {k:Nat} {m:LI} (hn:X4 n) (ha:V3 n.decls L am) (hl:WH L) (hop:s.op=7∨s.op=8) (hx:0<=gI s.args 0/\gI s.args 0<L.vars.length) (hm:(X9 n.decls s.op s.num)[k]? = some m) :
  V3 n.decls (VM n.decls L s.op s.num s.args k) (TQ L am s m):=by
 rw [TQ,VM]
 by_cases h8:s.op=8
 ·rw [Ze h8,Ze h8]
  obtain ⟨c,hc,rfl⟩:=I5 h8 hm
  have hgc:gI (ZW n.decls s.num) (k:Int)=c:=by rw [gI];simp [hc]
  rw [hgc]
  exact ha.arm hl hx (Ol hn.decls hc).1
 ·rw [Z7 h8,Z7 h8];exact ha
end Go.Abs
namespace Go.Abs
theorem Hw {n:Zm}:∀{xs:List Z5} {us vs:LI},Xp n xs us=some vs->us.length<=vs.length/\vs.length<=us.length+Yf xs
 | [],us,vs,h=>by rw [Xp] at h;cases h;simp [Yf]
 | s::r,us,vs,h=>by
  obtain ⟨_,g2⟩:=DN h
  have:=Hw g2
  have h2:=F9 n us s
  rw [Yf];omega
theorem ND {L:Zu} {am:List X1} {s:Z5} {m:LI}:(TQ L am s m).length<=am.length+1:=by rw [TQ];split<;>simp
theorem NF {n:Zm} (hty:KO n) {op num:Int} {k:Nat} {m:LI} (h:(X9 n.decls op num)[k]? = some m):∀f∈m,0<=f:=by
 by_cases h7:op=7
 ·rw [X9,Ze h7] at h
  have:m=[]:=by
   match k,h with
   | 0,h=>simpa using h.symm
   | 1,h=>simpa using h.symm
   | k+2,h=>simp at h
  rw [this];intro f hf;cases hf
 ·rw [X9,Z7 h7,TM] at h
  cases hc:(ZW n.decls num)[k]? with
  | none=>rw [hc] at h;cases h
  | some c=>rw [hc] at h;cases h;exact hty.fields c
theorem G0 {L:Zu} {r:Int}:(We L r).own.length=L.own.length/\(We L r).tok.length=L.tok.length/\(We L r).vars=L.vars:=by
 rw [We];split
 ·exact ⟨TN,rfl,rfl⟩
 ·exact ⟨rfl,rfl,rfl⟩
end Go.Abs
namespace Go.Abs
theorem Hy {L M:Zu} {n:Zm} {ln:LI} {xs:List Z5} {f:Zu->Option Zu} (h:Vz n ln L xs=some M):DP (Vz n ln L xs) f=f M:=by rw [h];rfl
end Go.Abs
end
namespace Go.Abs

end Go.Abs
section
namespace Go.Abs
theorem Z39:∀{os ts:LI} {m:Nat},os.length=ts.length->(Va os ts=true↔Va (os.take m) (ts.take m)=true/\Va (os.drop m) (ts.drop m)=true)
 | [],[],m,_=>by simp [Va]
 | [],_::_,_,h=>by simp at h
 | _::_,[],_,h=>by simp at h
 | o::os,t::ts,0,h=>by simp [Va]
 | o::os,t::ts,m+1,h=>by
  simp only [C5,List.drop_succ_cons]
  rw [Va,Va]
  split
  ·simp
  ·exact Z39 (by simpa using h)
theorem Z06 {n:Zm} {r:Yc} {M:Zu} (hP:Vz n r.lent (UI r) r.body.steps=some M) (hl:M.own.length=M.tok.length):Kk n r=(Ug 0 r.body.result M).isSome:=by
 rw [Kk,JT,hP]
 show (match Ug r.params.length r.body.result M with|none=>false|some L=>(UE L 0).isSome)=_
 rw [Ug,Ug]
 cases hT:(if gI M.vars r.body.result≠0 then UM M r.body.result else some M) with
 | none=>rfl
 | some M2=>
  have h2:M2.own.length=M2.tok.length:=by
   split at hT
   ·have:=KI hT;rw [this.2.2.2.2.2.1,this.2.2.2.2.2.2,TN];exact hl
   ·cases hT;exact hl
  show (match UE M2 r.params.length with|none=>false|some L=>(UE L 0).isSome)=(UE M2 0).isSome
  have key:=Z39 (m:=r.params.length) h2
  rw [UE,UE]
  by_cases h1:Va (M2.own.drop r.params.length) (M2.tok.drop r.params.length)=true
  ·rw [Ze h1]
   show (UE (M2.take r.params.length) 0).isSome=_
   rw [UE]
   by_cases h3:Va (M2.own.take r.params.length) (M2.tok.take r.params.length)=true
   ·rw [Ze (show Va ((M2.take r.params.length).own.drop 0) ((M2.take r.params.length).tok.drop 0)=true from h3),Ze (show Va (M2.own.drop 0) (M2.tok.drop 0)=true from key.2 ⟨h3,h1⟩)];rfl
   ·rw [Z7 (show ¬Va ((M2.take r.params.length).own.drop 0) ((M2.take r.params.length).tok.drop 0)=true from h3),Z7 (show ¬Va (M2.own.drop 0) (M2.tok.drop 0)=true from fun z=>h3 (key.1 z).1)]
  ·rw [Z7 h1,Z7 (show ¬Va (M2.own.drop 0) (M2.tok.drop 0)=true from fun z=>h1 (key.1 z).2)];rfl
theorem Zgl {n:Zm} {r:Yc} (hP:Vz n r.lent (UI r) r.body.steps=none):Kk n r=false:=by rw [Kk,JT,hP];rfl
end Go.Abs
namespace Go.Abs
theorem MD {xs:LI} {k:Nat} {a b:Int} (h:xs.length=k):(xs++[a]).set k b=xs++[b]:=by subst h;simp
end Go.Abs
namespace Go.Abs
theorem Z4e {ds:List Zf}:V3 ds ⟨[],[],[],[],[],[]⟩ []:=⟨fun a ha=>(nomatch ha),fun a ha=>(nomatch ha),fun v h0 h1=>(by have h2:v<((0:Nat):Int):=h1;omega),fun v h0 h1=>(by have h2:v<((0:Nat):Int):=h1;omega)⟩
theorem Sz {ds:List Zf} {lent:LI}:∀{ps:LI} {i:Nat} {L:Zu},WH L->V3 ds L []->V3 ds (KD lent ps i L) []
 | [],_,_,_,h=>h
 | t::r,i,L,hl,h=>by rw [KD];exact Sz hl.grow (h.grow hl)
theorem S6 {ds:List Zf} (rt:Yc):V3 ds (UI rt) []:=Sz ⟨rfl,rfl,rfl,rfl,rfl⟩ Z4e
end Go.Abs
end
section
namespace Go.Abs
end Go.Abs
namespace Go.Abs
end Go.Abs
namespace Go.Abs
end Go.Abs
namespace Go.Abs
end Go.Abs
end
namespace Go.Abs
def ZC (op v:Int):Z5:=.mk op 0 0 [v] []
def VS (ds:List Zf) (num:Int) (k:Nat):LI:=((ZW ds num).map (ZX ds))[k]?.getD []
section
variable {ds:List Zf} {am:List X1} {m:Nat}
end
theorem Ga {ds:List Zf} {num:Int} {k:Nat} {m:LI} (h:((ZW ds num).map (ZX ds))[k]? = some m):VS ds num k=m:=by rw [VS,h];rfl
theorem IX {ds:List Zf} (hd:Wu ds) (num:Int) (k:Nat):(VS ds num k).length<=3:=by
 rw [VS,TM]
 cases (ZW ds num)[k]? with
 | none=>simp
 | some c=>exact Uu hd c
theorem Z8d (xs ys:List Wn):KY (xs++ys)=KY xs++KY ys:=by simp [IV]
theorem IS (xs ys:List XG):Ks (xs++ys)=Ks xs++Ks ys:=by simp [IT]
theorem Z8e (x:Wn):KY [x]=[x.er]:=by simp [IV]
theorem IU (x:XG):Ks [x]=[x.er]:=by simp [IT]
theorem MT {xs:List Z5} {k:Nat} {s:Z5} (h:xs[k]? = some s):Yf (xs.take (k+1))=Yf (xs.take k)+s.sz:=by
 induction xs generalizing k with
 | nil=>simp at h
 | cons t r ih=>
  cases k with
  | zero=>simp at h;subst h;simp [Yf]
  | succ k=>rw [C5,C5,Yf,Yf,ih (by simpa using h)];omega
theorem AA (xs:List Z5) (k:Nat):Yf (xs.take k)<=Yf xs:=by
 induction xs generalizing k with
 | nil=>simp
 | cons t r ih=>
  cases k with
  | zero=>simp [Yf]
  | succ k=>have:=ih k;rw [C5,Yf,Yf];omega
theorem Zhd {n:Zm} {us:LI} {s:Z5} (g:0<=Y2 n us s) (h:Yx s.op=true):K0 n us s=us:=by rw [K0,Eh g,h];rfl
theorem Zhc {n:Zm} {us:LI} {s:Z5} (g:0<=Y2 n us s) (h:¬Yx s.op=true):(K0 n us s).length=us.length+1:=by
 rw [K0,Eh g,Jg.2 h];simp
theorem Zhe {n:Zm} {us:LI} {s:Z5} (g:0<=Y2 n us s):(K0 n us s).length=if Yx s.op=true then us.length else us.length+1:=by
 split
 ·rw [Zhd g (by assumption)]
 ·exact Zhc g (by assumption)
theorem Zdo {n:Zm} {us:LI} {s:Z5} (g:0<=Y2 n us s) (h:0<s.kids.length):s.op=7∨s.op=8:=by
 rw [Aa] at g
 split at g
 ·omega
 ·rename_i q
  exact C2 fun z=>q (.inr (.inr ⟨h,fun e=>z (.inl e),fun e=>z (.inr e)⟩))
theorem Cm (ys:List Vm):(Zi (Vw ys)).length=ys.length*3:=by rw [UX _ (OJ _)];simp
theorem Pa (ys:List VC):(Zi (Up ys)).length=ys.length:=by rw [UX _ (OI _)];simp
theorem P9 (ys:List Zf):(Zi (YB ys)).length=ys.length*3:=by rw [UX _ (KX _)];simp
theorem Z8v (ys:List Yg):(Zi (XR ys)).length=ys.length:=by rw [UX _ (Ej _)];simp
theorem Z8w {ds:List Zf} {k:Nat} {d:Zf} (h:ds[k]? = some d):Zi (YB (ds.drop k))=TZ d++Zi (YB (ds.drop (k+1))):=by rw [Y5 h];rfl
theorem Z8u {ds:List Yg} {k:Nat} {d:Yg} (h:ds[k]? = some d):Zi (XR (ds.drop k))=Ds d++Zi (XR (ds.drop (k+1))):=by rw [Y5 h];rfl
theorem Z0a {ys:List Vm} {ds:List Zf} {k:Nat} {d:Zf} (h:ds[k]? = some d):Zi (Vw ys++YB (ds.drop k))=Zi (Vw ys)++(TZ d++Zi (YB (ds.drop (k+1)))):=by
 rw [UG,Z8w h]
theorem Zgp {ys:List VC} {ds:List Yg} {k:Nat} {d:Yg} (h:ds[k]? = some d):Zi (Up ys++XR (ds.drop k))=Zi (Up ys)++(Ds d++Zi (XR (ds.drop (k+1)))):=by
 rw [UG,Z8u h]
theorem Z09 {ys:List Vm} {ds:List Zf} {k:Nat} (h:ys.length=k) (hk:k<=ds.length):(Zi (Vw ys++YB (ds.drop k))).length=ds.length*3:=by
 rw [UG,Ys,Cm,P9,Bm];omega
theorem Z08 {ys:List VC} {ds:List Yg} {k:Nat} (h:ys.length=k) (hk:k<=ds.length):(Zi (Up ys++XR (ds.drop k))).length=ds.length*1:=by
 rw [UG,Ys,Pa,Z8v,Bm];omega
theorem Zgr {ys:List Vm} {ds:List Zf} {k:Nat} {f t:Int} {zs:List VC} {u:Value}:Zi (Vw ys)++([.i f,.i t,EP zs u]++Zi (YB (ds.drop (k+1))))=Zi (Vw (ys++[Vm.mk f t zs u])++YB (ds.drop (k+1))):=by
 rw [Z7x,UG,UG,UN];rfl
theorem Zgo {ys:List VC} {ds:List Yg} {k:Nat} {xs:LI} {u:Value}:Zi (Up ys)++([ZQ xs u]++Zi (XR (ds.drop (k+1))))=Zi (Up (ys++[VC.mk xs u])++XR (ds.drop (k+1))):=by
 rw [Z7w,UG,UG,UN];rfl
theorem Zgq {ys:List Vm} {ds:List Zf} {k:Nat} (h:ds.length<=k):Zi (Vw ys++YB (ds.drop k))=Zi (Vw ys):=by rw [Xj h];simp [YB]
theorem Zgn {ys:List VC} {ds:List Yg} {k:Nat} (h:ds.length<=k):Zi (Up ys++XR (ds.drop k))=Zi (Up ys):=by rw [Xj h];simp [XR]
theorem Zgs {A B:List AV} {x y z x':AV} {o:Nat} (hA:A.length=o):(A++([x,y,z]++B)).take (o+2)++[x']++(A++([x,y,z]++B)).drop (o+2+1)=A++([x,y,x']++B):=by
 have h:=F6 (A:=A++[x,y]) (xs:=[z]) (ys:=[x']) (B:=B) (o:=o+2) (by simp [hA]) rfl
 simpa using h
theorem Zgt {A B:List AV} {x y z:AV} {o:Nat} (hA:A.length=o):((A++([x,y,z]++B)).drop (o+2)).take 1=[z]:=by
 have h:=Mt (A:=A++[x,y]) (xs:=[z]) (B:=B) (o:=o+2) (by simp [hA])
 simpa using h
theorem Zgu {A B:List AV} {x y z x':AV} {o:Nat} (hA:A.length=o):(A++([x,y,z]++B)).set (o+2) x'=A++([x,y,x']++B):=by
 subst hA
 rw [List.set_append_right _ _ om]
 simp
theorem Z3c {f t:Int} {zs:List VC} {u:Value} {cs:List Yg} (h:zs.map VC.er=cs):[Vm.mk f t zs u].map Vm.er=[Zf.mk f t cs]:=by
 rw [<-h];rfl
theorem XG.eta (y:XG):XG.mk y.steps y.sv y.result=y:=by cases y;rfl
theorem Zek {xs:List Vb} {rs:List Yc} {g:Yc->Yc} {k:Nat} {r:Yc} {R:Vb} (h:xs.map Vb.er=(rs.take k).map g) (hr:rs[k]? = some r) (hy:R.er=g r) :
  (xs++[R]).map Vb.er=(rs.take (k+1)).map g:=by
 rw [List.map_append,h,V1 hr,List.map_append,Vt,hy];rfl
theorem Qe:∀(xs ys:List Z5),Yf (xs++ys)=Yf xs+Yf ys
 | [],ys=>by simp [Yf]
 | x::r,ys=>by rw [Q2,Yf,Yf,Qe r ys];omega
theorem Oi (op v:Int):(ZC op v).sz=2:=by rw [ZC,Z5.sz];simp [X3]
theorem MR (op:Int):∀l:LI,Yf (l.map (ZC op))=2*l.length
 | []=>by simp [Yf]
 | x::r=>by rw [Vt,Yf,Oi,MR op r,YW];omega
section
variable {ds:List Zf} (hd:Wu ds)
include hd
end
def J0:List Yc->Bool
 | []=>true
 | r::rs=>if UB r.body<0 then false else J0 rs
def KZ (n:Zm):Bool:=J0 n.routines
def Ax:Zm:=⟨[],[]⟩
theorem FE {n:Zm} (hz:V4 n) (h:US n=true):X4 n/\Vy n=true/\∀r∈n.routines,0<=YT n r.params r.body:=by
 rw [US,W5] at h
 obtain ⟨h1,h2⟩:=Fs hz h.1
 rw [WC,W5] at h
 exact ⟨h1,h.1.1,h2⟩
section
variable {ds:List Zf} {cons first:LI}
end
section
variable {ds:List Zf} (hd:Wu ds)
include hd
end
def Yq:List Z5->Nat
 | []=>0
 | s::r=>if s.op=14∨s.op=15 then Yq r+1 else 0
def X5 (op:Int):List Z5->LI
 | []=>[]
 | s::r=>if s.op=op then gI s.args 0::X5 op r else X5 op r
def Uw:LI->Int->LI->LI->LI × LI
 | [],_,D,R=>(D,R)
 | f::r,q,D,R=>if f≠0/\q∈D then Uw r (q+1) (D.erase q) R else if f≠0 then Uw r (q+1) D (R++[q]) else Uw r (q+1) D R
def TI (xs:List Z5) (x:Int) (fs:LI) (q:Int):LI × LI:=Uw fs q (X5 14 (xs.take (Yq xs))) ((X5 15 (xs.take (Yq xs))).erase x)
def Uc (xs:List Z5) (x:Int) (fs:LI) (q:Int):List Z5:=
 if x∈X5 15 (xs.take (Yq xs))/\fs.length≠0 then (TI xs x fs q).1.map (ZC 14)++[ZC 16 x]++(TI xs x fs q).2.map (ZC 15)++xs.drop (Yq xs) else xs
def VQ (b:Z6) (x:Int) (fs:LI) (q:Int):Z6:=.mk (Uc b.steps x fs q) b.result
theorem CC:∀xs:List Z5,Yq xs<=xs.length
 | []=>YU _
 | s::r=>by have:=CC r;rw [Yq];split<;>simp<;>omega
theorem JB:∀{xs:List Z5} {s:Z5},s∈xs.take (Yq xs)->s.op=14∨s.op=15
 | [],s,h=>by simp [Yq] at h
 | t::r,s,h=>by
  rw [Yq] at h
  split at h
  ·rename_i q
   rw [C5] at h
   rcases YH.1 h with rfl|h
   ·exact q
   ·exact JB h
  ·simp at h
theorem I3:∀xs:List Z5,(X5 14 xs).length+(X5 15 xs).length<=xs.length
 | []=>by simp [X5]
 | s::r=>by
  have:=I3 r
  rw [X5,X5]
  by_cases h:s.op=14
  ·rw [Ze h,Z7 om];simp;omega
  ·rw [Z7 h];split<;>simp<;>omega
theorem Ha:∀(fs:LI) (q:Int) (D R:LI),(Uw fs q D R).1.length+(Uw fs q D R).2.length<=D.length+R.length+fs.length
 | [],q,D,R=>by simp [Uw]
 | f::r,q,D,R=>by
  rw [Uw,YW]
  split
  ·have:=Ha r (q+1) (D.erase q) R
   have h2:=List.length_erase_le (a:=q) (l:=D)
   omega
  ·split
   ·have:=Ha r (q+1) D (R++[q])
    simp only [Ys,YW,XJ] at this
    omega
   ·have:=Ha r (q+1) D R
    omega
theorem Sx {xs:List Z5} {x:Int} {fs:LI} {q:Int} (h:x∈X5 15 (xs.take (Yq xs))) (hf:fs.length<=3):(TI xs x fs q).1.length+(TI xs x fs q).2.length<=Yq xs+2:=by
 have h1:=Ha fs q (X5 14 (xs.take (Yq xs))) ((X5 15 (xs.take (Yq xs))).erase x)
 have h2:=I3 (xs.take (Yq xs))
 have h3:=List.length_pos_of_mem h
 rw [List.length_erase_of_mem h] at h1
 rw [WW] at h2
 have h4:=CC xs
 unfold TI
 omega
theorem Zjg (xs:List Z5) (k:Nat):Yf xs=Yf (xs.take k)+Yf (xs.drop k):=by rw [<-Qe,Tn]
theorem Z21:∀xs:List Z5,(∀s∈xs,2<=s.sz)->2*xs.length<=Yf xs
 | [],_=>by simp
 | s::r,h=>by
  have h1:=Z21 r fun t ht=>h t (Xr _ ht)
  have h2:=h s (Xf ..)
  rw [Yf,YW];omega
theorem Z3z {xs:List Z5} {x:Int} {fs:LI} {q:Int} (hf:fs.length<=3) (h:∀s∈xs,s.op=14∨s.op=15->2<=s.sz):Yf (Uc xs x fs q)<=Yf xs+6:=by
 rw [Uc]
 split
 ·rename_i hc
  have h1:=Sx (q:=q) hc.1 hf
  have h2:=Z21 (xs.take (Yq xs)) fun s hs=>h s (Tm hs) (JB hs)
  have h3:=Zjg xs (Yq xs)
  have h4:=CC xs
  rw [WW] at h2
  rw [Qe,Qe,Qe,MR,MR,Yf,Yf,Oi]
  omega
 ·omega
def QW (L:LI) (v:Int):LI:=L.filter (· != v)
def Th (m:Int):List Z5->LI->Bool->List Z5 × List Z5 × LI
 | [],L,_=>([],[],L)
 | s::r,L,d=>if s.op=14/\gI s.args 0∈L then Th m r (QW L (gI s.args 0)) d else if s.op=14 then (s::(Th m r L d).1,(Th m r L d).2) else
  if (s.op=15/\gI s.args 0=m)/\¬d=true then Th m r L true else ((Th m r L d).1,s::(Th m r L d).2.1,(Th m r L d).2.2)
theorem Pl:∀(L r:LI) (d:Int),L.foldl List.erase (d::r)=if d∈L then (L.erase d).foldl List.erase r else d::L.foldl List.erase r
 | [],r,d=>by simp
 | l::L,r,d=>by
  rw [List.foldl_cons]
  by_cases h:d=l
  ·subst h
   simp
  ·have h2:¬l=d:=fun e=>h e.symm
   rw [List.erase_cons_tail (by simpa using h),Pl L,List.erase_cons_tail (by simpa using h2)]
   simp only [YH,h,false_or,List.foldl_cons]
theorem Gr:∀(fs:LI) (q:Int),(Wb fs q).Pairwise (·<·)
 | [],_=>by simp [Wb]
 | f::r,q=>by
  rw [Wb]
  split
  ·refine Vj.2 ⟨fun a ha=>?_,Gr r (q+1)⟩
   have:=Ey ha
   omega
  ·exact Gr r (q+1)
theorem Zev {L:LI} (h:L.Pairwise (·<·)):L.Nodup:=h.imp fun q e=>by omega
theorem Zet {L:LI} (h:L.Pairwise (·<·)) (v:Int):(QW L v).Pairwise (·<·):=h.filter _
theorem Zeq {L:LI} (h:L.Nodup) (v:Int):QW L v=L.erase v:=(h.erase_eq_filter v).symm
theorem Dy:∀(fs:LI) (q:Int) (D R:LI),Uw fs q D R=((Wb fs q).foldl List.erase D,R++(Wb fs q).filter (fun v=>decide (v∉D)))
 | [],q,D,R=>by simp [Uw,Wb]
 | f::r,q,D,R=>by
  rw [Uw]
  by_cases hf:f≠0
  ·have e:Wb (f::r) q=q::Wb r (q+1):=by rw [Wb,Ze hf]
   rw [e]
   by_cases hq:q∈D
   ·rw [Ze ⟨hf,hq⟩,Dy r,List.foldl_cons,List.filter_cons_of_neg (by simpa using hq)]
    congr 2
    refine List.filter_congr fun v hv=>?_
    have h1:v≠q:=by have:=Ey hv;omega
    simp only [List.mem_erase_of_ne h1]
   ·rw [Z7 (fun z=>hq z.2),Ze hf,Dy r,List.foldl_cons,List.erase_of_not_mem hq,List.filter_cons_of_pos (by simpa using hq),UN]
    rfl
  ·have e:Wb (f::r) q=Wb r (q+1):=by rw [Wb,Z7 hf]
   rw [e,Z7 (fun z=>hf z.1),Z7 hf,Dy r]
def Cn (s:Z5):Prop:=s=ZC s.op (gI s.args 0)
theorem Fe {m:Int}:∀{pre:List Z5} {L:LI} {d:Bool},L.Nodup->(∀s∈pre,(s.op=14∨s.op=15)/\Cn s) ->
  Th m pre L d=((L.foldl List.erase (X5 14 pre)).map (ZC 14),(if d=true then X5 15 pre else (X5 15 pre).erase m).map (ZC 15),L.filter (fun v=>decide (v∉X5 14 pre)))
 | [],L,d,hL,h=>by
  have:∀L:LI,L.foldl List.erase []=[]:=fun L=>by induction L with
   | nil=>rfl
   | cons a L ih=>rw [List.foldl_cons];exact ih
  simp only [Th,X5,this,AE,List.erase_nil,ite_self]
  exact Prod.ext rfl (Prod.ext rfl (List.filter_eq_self.2 (by simp)).symm)
 | s::r,L,d,hL,h=>by
  obtain ⟨ho,hc⟩:=h s (Xf ..)
  have hr:∀t∈r,(t.op=14∨t.op=15)/\Cn t:=fun t ht=>h t (Xr _ ht)
  rw [Th]
  by_cases h14:s.op=14
  ·have e15:X5 15 (s::r)=X5 15 r:=by rw [X5,Z7 om]
   have e14:X5 14 (s::r)=gI s.args 0::X5 14 r:=by rw [X5,Ze h14]
   rw [e14,e15,Pl]
   by_cases hm:gI s.args 0∈L
   ·rw [Ze ⟨h14,hm⟩,Ze hm,Zeq hL,Fe (hL.erase _) hr]
    congr 2
    rw [hL.erase_eq_filter,List.filter_filter]
    refine List.filter_congr fun v hv=>?_
    by_cases hv1:v=gI s.args 0<;>by_cases hv2:v∈X5 14 r<;>simp [hv1,hv2]
   ·rw [Z7 (fun z=>hm z.2),Ze h14,Z7 hm,Fe hL hr]
    refine Prod.ext ?_ (Prod.ext rfl ?_)
    ·show s::_=List.map (ZC 14) (_::_)
     rw [Vt,<-h14]
     congr 1
    ·refine List.filter_congr fun v hv=>?_
     have:v≠gI s.args 0:=fun e=>hm (e▸hv)
     simp [this]
  ·have h15:s.op=15:=by omega
   have e15:X5 15 (s::r)=gI s.args 0::X5 15 r:=by rw [X5,Ze h15]
   have e14:X5 14 (s::r)=X5 14 r:=by rw [X5,Z7 h14]
   rw [e14,e15,Z7 (fun z=>h14 z.1),Z7 h14]
   by_cases hm:(s.op=15/\gI s.args 0=m)/\¬d=true
   ·rw [Ze hm,Fe hL hr,Ze rfl,Z7 hm.2,<-hm.1.2,List.erase_cons_head]
   ·rw [Z7 hm,Fe hL hr]
    refine Prod.ext rfl (Prod.ext ?_ rfl)
    show s::_=List.map (ZC 15) _
    by_cases hd:d=true
    ·rw [Ze hd,Ze hd,Vt,<-h15];congr 1
    ·have hn:gI s.args 0≠m:=fun e=>hm ⟨⟨h15,e⟩,hd⟩
     rw [Z7 hd,Z7 hd,List.erase_cons_tail (by simpa using hn),Vt,<-h15];congr 1
theorem Zia {xs:List Z5} {m:Int} {fs:LI} {q:Int} (hc:∀s∈xs,Yx s.op=true->Cn s) (h1:m∈X5 15 (xs.take (Yq xs))) (h2:fs.length≠0) {W:List Z5 × List Z5 × LI} (hW:W=Th m (xs.take (Yq xs)) (Wb fs q) false) :
  W.1++[ZC 16 m]++W.2.1++W.2.2.map (ZC 15)++xs.drop (Yq xs)=Uc xs m fs q:=by
 rw [Fe (Zev (Gr fs q)) fun s hs=>⟨JB hs,hc s (Tm hs) (by rw [Yx];have:=JB hs;simp;omega)⟩] at hW
 subst hW
 have e:Uc xs m fs q=_:=Ze ⟨h1,h2⟩
 rw [e,TI,Dy]
 simp
theorem Nx {xs:List Z5} {m:Int} {fs:LI} {q:Int} (h:¬(m∈X5 15 (xs.take (Yq xs))/\fs.length≠0)):Uc xs m fs q=xs:=Z7 h
end Go.Abs
section
namespace Go.Abs
mutual
def Tg (ds:List Zf) (m:Nat):Z5->Z5
 | .mk op num into args kids=>.mk op num into args (Wk ds m op num args kids 0)
def Wk (ds:List Zf) (m:Nat) (op num:Int) (args:LI):List Z6->Nat->List Z6
 | [],_=>[]
 | b::r,k=>(if op=8 then VQ (XA ds (m+(VS ds num k).length) b) (gI args 0) (VS ds num k) m else XA ds m b)::Wk ds m op num args r (k+1)
def W2 (ds:List Zf) (m:Nat):List Z5->List Z5
 | []=>[]
 | s::r=>Tg ds m s::W2 ds (if Yx s.op=true then m else m+1) r
def XA (ds:List Zf) (m:Nat):Z6->Z6
 | .mk steps result=>.mk (W2 ds m steps) result
end
def Jd (ds:List Zf) (m:Nat) (op num:Int) (args:LI) (k:Nat) (b:Z6):Z6:=if op=8 then VQ (XA ds (m+(VS ds num k).length) b) (gI args 0) (VS ds num k) m else XA ds m b
theorem DJ (ds:List Zf) (m:Nat) (s:Z5):Tg ds m s=.mk s.op s.num s.into s.args (Wk ds m s.op s.num s.args s.kids 0):=by cases s;rw [Tg];rfl
theorem DI (ds:List Zf) (m:Nat) (b:Z6):XA ds m b=.mk (W2 ds m b.steps) b.result:=by cases b;rw [XA];rfl
section
variable {ds:List Zf} {m:Nat}
theorem Z1g {xs acc r:List Z5} {k:Nat} {s:Z5} (h:xs[k]? = some s) (ha:acc++W2 ds m (xs.drop k)=r) :
  (acc++[.mk s.op s.num s.into s.args (Wk ds m s.op s.num s.args s.kids 0)])++W2 ds (if Yx s.op=true then m else m+1) (xs.drop (k+1))=r:=by
 rw [Y5 h,W2,DJ] at ha
 rw [<-ha];simp
theorem Z1f {xs acc r:List Z5} {k:Nat} (h:xs.length<=k) (ha:acc++W2 ds m (xs.drop k)=r):acc=r:=by
 rw [Xj h,W2,JQ] at ha;exact ha
theorem Fd {op num:Int} {args:LI} {bs acc r:List Z6} {k:Nat} {b:Z6} (h:bs[k]? = some b) (ha:acc++Wk ds m op num args (bs.drop k) k=r) :
  (acc++[Jd ds m op num args k b])++Wk ds m op num args (bs.drop (k+1)) (k+1)=r:=by
 rw [Y5 h,Wk] at ha
 rw [<-ha,Jd];simp
theorem Z17 {op num:Int} {args:LI} {bs acc r:List Z6} {k j:Nat} (h:bs.length<=k) (ha:acc++Wk ds m op num args (bs.drop k) j=r):acc=r:=by
 rw [Xj h,Wk,JQ] at ha;exact ha
end
mutual
def wS (ds:List Zf):Z5->Prop
 | .mk op num into args kids=>(W7 op=!Yx op)/\(Yx op=true->num=0/\into=0/\kids=[]/\∃a,args=[a])/\(op=8->(∃a,args=[a]/\0<=a/\a<=900000000)/\kids.length=(ZW ds num).length)/\QB ds kids
def QB (ds:List Zf):List Z6->Prop
 | []=>True
 | b::r=>wB ds b/\QB ds r
def Ub (ds:List Zf):List Z5->Prop
 | []=>True
 | s::r=>wS ds s/\Ub ds r
def wB (ds:List Zf):Z6->Prop
 | .mk steps _=>Ub ds steps
end
section
variable {ds:List Zf}
theorem BZ (s:Z5):wS ds s↔(W7 s.op=!Yx s.op)/\(Yx s.op=true->s.num=0/\s.into=0/\s.kids=[]/\∃a,s.args=[a])/\(s.op=8->(∃a,s.args=[a]/\0<=a/\a<=900000000)/\s.kids.length=(ZW ds s.num).length)/\QB ds s.kids:=by cases s;rw [wS];rfl
theorem JP (b:Z6):wB ds b↔Ub ds b.steps:=by cases b;rw [wB];rfl
theorem C0:∀{xs:List Z5},Ub ds xs↔∀s∈xs,wS ds s
 | []=>by simp [Ub]
 | s::r=>by rw [Ub,C0];simp
theorem Z30:∀{xs:List Z6},QB ds xs↔∀s∈xs,wB ds s
 | []=>by simp [QB]
 | s::r=>by rw [QB,Z30];simp
theorem Z2y {b:Z6} {k:Nat} {s:Z5} (h:wB ds b) (hs:b.steps[k]? = some s):wS ds s:=C0.1 ((JP b).1 h) s (Y0 hs)
theorem N9 {s:Z5} {k:Nat} {b:Z6} (h:wS ds s) (hb:s.kids[k]? = some b):wB ds b:=Z30.1 ((BZ s).1 h).2.2.2 b (Y0 hb)
theorem DQ {s:Z5} (h:wS ds s) (hc:Yx s.op=true):Cn s/\s.kids=[]/\∃a,s.args=[a]:=by
 obtain ⟨h1,h2,h3,a,h4⟩:=((BZ s).1 h).2.1 hc
 refine ⟨?_,h3,a,h4⟩
 cases s with
 | mk op num into args kids=>
  simp only [Z5.num,Z5.into,Z5.kids,Z5.args] at h1 h2 h3 h4
  subst h1 h2 h3 h4
  rfl
theorem N8 {op v:Int} (h:op=14∨op=15∨op=16):wS ds (ZC op v):=(BZ _).2 ⟨by show W7 op=!Yx op;rcases h with rfl|rfl|rfl<;>rfl,fun _=>⟨rfl,rfl,rfl,v,rfl⟩,fun e=>absurd e (show op≠8 by omega),True.intro⟩
theorem Z33 {s:Z5} (h:wS ds s):W7 s.op=!Yx s.op:=((BZ s).1 h).1
theorem Ft {s:Z5} (h:wS ds s) (h8:s.op=8):(∃a,s.args=[a]/\0<=a/\a<=900000000)/\s.kids.length=(ZW ds s.num).length:=((BZ s).1 h).2.2.1 h8
theorem HS {xs:List Z5} (h:Ub ds xs):∀s∈xs,Yx s.op=true->Cn s:=fun s hs hc=>(DQ (C0.1 h s hs) hc).1
theorem Zl6 {xs:List Z5} {x:Int} {fs:LI} {q:Int} (h:Ub ds xs):Ub ds (Uc xs x fs q):=by
 rw [Uc]
 split
 ·rw [C0]
  intro s hs
  simp only [Xi,XF,XK] at hs
  rcases hs with ((⟨a,_,rfl⟩|rfl)|⟨a,_,rfl⟩)|hs
  ·exact N8 om
  ·exact N8 om
  ·exact N8 om
  ·exact C0.1 h s (List.mem_of_mem_drop hs)
 ·exact h
theorem HH {b:Z6} {x:Int} {fs:LI} {q:Int} (h:wB ds b):wB ds (VQ b x fs q):=by
 rw [VQ,JP];exact Zl6 ((JP b).1 h)
end
section
variable {n:Zm}
theorem Zez {us:LI} {s:Z5} (g:0<=Y2 n us s) (h:Yx s.op=true):s.num=0/\s.into=0/\s.kids=[]:=by
 have ho:14<=s.op/\s.op<=17:=by simpa [Yx] using h
 rw [Aa] at g
 split at g
 ·omega
 ·rename_i q
  refine ⟨C2 fun z=>q (.inl ⟨z,?_⟩),C2 fun z=>q (.inr (.inl ?_)),C2 fun z=>q (.inr (.inr ⟨Fv.2 z,by omega,by omega⟩))⟩
  ·rw [VE];simp;omega
  ·rw [U5,Z7 z,Z7 om];simp
mutual
theorem Zl7:∀(s:Z5) {us:LI},us.length+4*s.sz<=900000000->Wu n.decls->0<=Y2 n us s->wS n.decls s
 | .mk op num into args kids,us,hu,hd,g=>by
  have hf:=CF g
  rw [wS]
  refine ⟨Eh g,fun hc=>?_,fun h8=>?_,?_⟩
  ·obtain ⟨h1,h2,h3⟩:=Zez g hc
   have ho:14<=op/\op<=17:=by simpa [Yx] using hc
   exact ⟨h1,h2,h3,hf.one (.inr (.inr ho))⟩
  ·obtain ⟨k1,k2,k3⟩:=hf.kids (.inr h8)
   obtain ⟨a,ha⟩:=hf.one (.inr (.inl h8))
   have hb:=hf.args a (by rw [ha];exact XK.2 rfl)
   refine ⟨⟨a,ha,hb.1,by omega⟩,?_⟩
   have e:X9 n.decls op num=(ZW n.decls num).map (ZX n.decls):=by rw [X9,Z7 om]
   have k1':kids.length=(X9 n.decls op num).length:=k1
   rw [k1',e,QC]
  ·refine Z31 kids hd fun i b hb=>?_
   have hl:0<kids.length:=by have:=(Xq.1 hb).1;omega
   obtain ⟨k1,k2,k3⟩:=hf.kids (Zdo g hl)
   have k1':kids.length=(X9 n.decls op num).length:=k1
   have hi:=(Xq.1 hb).1
   obtain ⟨mk,hmk⟩:=J1 (xs:=X9 n.decls op num) (j:=i) om
   have hk3:=E6 hd hmk
   have ZO:=NU hb
   rw [Z5.sz] at hu
   exact ⟨us++mk,by rw [Ys];omega,k3 i b mk hb hmk⟩
theorem Z31:∀(bs:List Z6),Wu n.decls->(∀(i:Nat) (b:Z6),bs[i]? = some b->∃us:LI,us.length+4*b.sz<=900000000/\0<=YT n us b)->QB n.decls bs
 | [],_,_=>True.intro
 | b::r,hd,h=>by
  obtain ⟨us,hq,hu⟩:=h 0 b rfl
  exact ⟨Z2z b hq hd hu,Z31 r hd fun i x hx=>h (i+1) x (by simpa using hx)⟩
theorem Z35:∀(xs:List Z5) {us vs:LI},us.length+4*Yf xs<=900000000->Wu n.decls->Xp n xs us=some vs->Ub n.decls xs
 | [],_,_,_,_,_=>True.intro
 | s::r,us,vs,hu,hd,h=>by
  obtain ⟨g1,g2⟩:=DN h
  rw [Yf] at hu
  have h1:=s.sz_pos
  have h2:=F9 n us s
  exact ⟨Zl7 s om hd g1,Z35 r om hd g2⟩
theorem Z2z:∀(b:Z6) {us:LI},us.length+4*b.sz<=900000000->Wu n.decls->0<=YT n us b->wB n.decls b
 | .mk steps result,us,hu,hd,h=>by
  obtain ⟨fvs,t0,hvs,_,_⟩:=CT h
  rw [Z6.sz] at hu
  rw [wB];exact Z35 steps om hd hvs
end
end
mutual
def Z5.pz:Z5->Nat
 | .mk _ _ _ args kids=>1+args.length+J9 kids
def Z6.pz:Z6->Nat
 | .mk steps _=>1+VP steps
def VP:List Z5->Nat
 | []=>0
 | s::r=>s.pz+VP r
def J9:List Z6->Nat
 | []=>0
 | b::r=>b.pz+8+J9 r
end
theorem Z5.pz_eq (s:Z5):s.pz=1+s.args.length+J9 s.kids:=by cases s;rw [Z5.pz];rfl
theorem Z6.pz_eq (b:Z6):b.pz=1+VP b.steps:=by cases b;rw [Z6.pz];rfl
theorem F3:∀xs ys:List Z5,VP (xs++ys)=VP xs+VP ys
 | [],ys=>by simp [VP]
 | x::r,ys=>by rw [Q2,VP,VP,F3 r ys];omega
theorem Oh (op v:Int):(ZC op v).pz=2:=by rw [ZC,Z5.pz];simp [J9]
theorem Mm (op:Int):∀l:LI,VP (l.map (ZC op))=2*l.length
 | []=>by simp [VP]
 | x::r=>by rw [Vt,VP,Oh,Mm op r,YW];omega
theorem Zg0 {l:List Z5} {k:Nat} {s:Z5} (h:l[k]? = some s):k+s.pz<=VP l:=by
 induction l generalizing k with
 | nil=>simp at h
 | cons t r ih=>
  have ht:=t.pz_eq
  cases k with
  | zero=>simp at h;subst h;simp only [VP];omega
  | succ k=>have:=ih (k:=k) (by simpa using h);simp only [VP];omega
theorem Zfz {l:List Z6} {k:Nat} {b:Z6} (h:l[k]? = some b):k+b.pz+8<=J9 l:=by
 induction l generalizing k with
 | nil=>simp at h
 | cons t r ih=>
  cases k with
  | zero=>simp at h;subst h;simp only [J9];omega
  | succ k=>have:=ih (k:=k) (by simpa using h);simp only [J9];omega
theorem Zg4 {b:Z6} {k:Nat} {s:Z5} (h:b.steps[k]? = some s):k+s.pz<b.pz:=by have:=Zg0 h;have:=b.pz_eq;omega
theorem Zg2 {s:Z5} {k:Nat} {b:Z6} (h:s.kids[k]? = some b):k+b.pz+8<s.pz:=by have:=Zfz h;have:=s.pz_eq;omega
theorem SQ:∀xs:List Z5,xs.length<=VP xs
 | []=>YU _
 | s::r=>by have:=SQ r;have:=s.pz_eq;rw [VP,YW];omega
theorem SO:∀xs:List Z6,xs.length<=J9 xs
 | []=>YU _
 | s::r=>by have:=SO r;rw [J9,YW];omega
theorem SS (b:Z6):b.steps.length<b.pz:=by have:=SQ b.steps;have:=b.pz_eq;omega
theorem Zg1 (s:Z5):s.args.length<s.pz:=by have:=s.pz_eq;omega
theorem Zg3 (s:Z5):s.kids.length<s.pz:=by have:=SO s.kids;have:=s.pz_eq;omega
mutual
theorem Z5.pz_le:∀s:Z5,s.pz<=9*s.sz
 | .mk _ _ _ args kids=>by have:=SN kids;rw [Z5.pz,Z5.sz];omega
theorem Z6.pz_le:∀b:Z6,b.pz+8<=9*b.sz
 | .mk steps _=>by have:=SP steps;rw [Z6.pz,Z6.sz];omega
theorem SP:∀xs:List Z5,VP xs<=9*Yf xs
 | []=>Af _
 | s::r=>by have:=s.pz_le;have:=SP r;rw [VP,Yf];omega
theorem SN:∀xs:List Z6,J9 xs<=9*X3 xs
 | []=>Af _
 | s::r=>by have:=s.pz_le;have:=SN r;rw [J9,X3];omega
end
theorem SR:∀xs:List Z5,(∀s∈xs,2<=s.pz)->2*xs.length<=VP xs
 | [],_=>by simp
 | s::r,h=>by
  have h1:=SR r fun t ht=>h t (Xr _ ht)
  have h2:=h s (Xf ..)
  rw [VP,YW];omega
section
variable {ds:List Zf}
theorem CZ {op:Int} (h:op=14∨op=15):Yx op=true:=by rw [Yx];simp;omega
theorem Z3y {xs:List Z5} {x:Int} {fs:LI} {q:Int} (hf:fs.length<=3) (h:Ub ds xs):VP (Uc xs x fs q)<=VP xs+6:=by
 rw [Uc]
 split
 ·rename_i hc
  have h1:=Sx (q:=q) hc.1 hf
  have h2:=SR (xs.take (Yq xs)) fun s hs=>by
   obtain ⟨_,_,a,ha⟩:=DQ (C0.1 h s (Tm hs)) (CZ (JB hs))
   rw [s.pz_eq,ha];simp
  have h3:VP xs=VP (xs.take (Yq xs))+VP (xs.drop (Yq xs)):=by rw [<-F3,Tn]
  have h4:=CC xs
  rw [WW] at h2
  rw [F3,F3,F3,Mm,Mm,VP,VP,Oh]
  omega
 ·omega
theorem AP {b:Z6} {x:Int} {fs:LI} {q:Int} (hf:fs.length<=3) (h:wB ds b):(VQ b x fs q).pz<=b.pz+6:=by
 have:=Z3y (x:=x) (q:=q) hf ((JP b).1 h)
 rw [VQ,Z6.pz,b.pz_eq];omega
theorem Zif {xs:List Z5}:∀{m:Nat},Ub ds xs->∀s∈W2 ds m xs,s.op=14∨s.op=15->2<=s.sz:=by
 induction xs with
 | nil=>intro m _ s hs;simp [W2] at hs
 | cons t r ih=>
  intro m h s hs ho
  rw [W2] at hs
  rcases YH.1 hs with rfl|hs
  ·rw [DJ] at ho ⊢
   obtain ⟨_,_,a,ha⟩:=DQ h.1 (CZ ho)
   rw [Z5.sz,ha];simp
  ·exact ih h.2 s hs ho
variable (hd:Wu ds)
include hd
mutual
theorem Zi8:∀(s:Z5) {m:Nat},wS ds s->(Tg ds m s).sz<=s.pz
 | .mk op num into args kids,m,h=>by
  have:=Z18 kids (m:=m) (op:=op) (num:=num) (args:=args) (k:=0) h.2.2.2
  rw [Tg,Z5.sz,Z5.pz];omega
theorem Z18:∀(bs:List Z6) {m:Nat} {op num:Int} {args:LI} {k:Nat},QB ds bs->X3 (Wk ds m op num args bs k)<=J9 bs
 | [],_,_,_,_,_,_=>YU _
 | b::r,m,op,num,args,k,h=>by
  have h2:=Z18 r (m:=m) (op:=op) (num:=num) (args:=args) (k:=k+1) h.2
  rw [Wk,X3,J9]
  split
  ·have h1:=Fc b (m:=m+(VS ds num k).length) h.1
   have h3:=Z3z (xs:=(XA ds (m+(VS ds num k).length) b).steps) (x:=gI args 0) (q:=(m:Int)) (IX hd num k) (by rw [DI];exact Zif ((JP b).1 h.1))
   rw [VQ,Z6.sz]
   rw [Z6.sz_eq] at h1
   omega
  ·have h1:=Fc b (m:=m) h.1
   omega
theorem Z1b:∀(xs:List Z5) {m:Nat},Ub ds xs->Yf (W2 ds m xs)<=VP xs
 | [],_,_=>YU _
 | s::r,m,h=>by
  have h1:=Zi8 s (m:=m) h.1
  have h2:=Z1b r (m:=if Yx s.op=true then m else m+1) h.2
  rw [W2,Yf,VP];omega
theorem Fc:∀(b:Z6) {m:Nat},wB ds b->(XA ds m b).sz<=b.pz
 | .mk steps result,m,h=>by
  have:=Z1b steps (m:=m) h
  rw [XA,Z6.sz,Z6.pz];omega
end
end
section
variable {ds:List Zf} {m:Nat}
theorem Zi7 {s:Z5} (h:s.kids=[]):Tg ds m s=s:=by
 rw [DJ,h,Wk]
 cases s with
 | mk op num into args kids=>simp only [Z5.kids] at h;subst h;rfl
theorem MK {rest:List Z5}:∀{pre:List Z5},(∀s∈pre,Yx s.op=true/\s.kids=[])->W2 ds m (pre++rest)=pre++W2 ds m rest
 | [],_=>rfl
 | s::r,h=>by
  obtain ⟨h1,h2⟩:=h s (Xf ..)
  rw [Q2,W2,Zi7 h2,Ze h1,MK fun t ht=>h t (Xr _ ht),Q2]
theorem Z1a {xs:List Z5} (h:Ub ds xs):W2 ds m xs=xs.take (Yq xs)++W2 ds m (xs.drop (Yq xs)):=by
 have:=MK (ds:=ds) (m:=m) (rest:=xs.drop (Yq xs)) (pre:=xs.take (Yq xs)) fun s hs=>by
  have h1:=CZ (JB hs)
  exact ⟨h1,(DQ (C0.1 h s (Tm hs)) h1).2.1⟩
 rw [Tn] at this
 exact this
theorem Mw:∀(xs:List Z5) {m:Nat},Yq (W2 ds m xs)=Yq xs
 | [],_=>rfl
 | s::r,m=>by
  have e:(Tg ds m s).op=s.op:=by rw [DJ];rfl
  rw [W2,Yq,Yq,e,Mw r]
theorem Zid {xs:List Z5} {x:Int} {fs:LI} {q:Int} (h:Ub ds xs):W2 ds m (Uc xs x fs q)=Uc (W2 ds m xs) x fs q:=by
 have hl:(xs.take (Yq xs)).length=Yq xs:=by rw [WW];have:=CC xs;omega
 have ht:(W2 ds m xs).take (Yq xs)=xs.take (Yq xs):=by
  rw [Z1a h,List.take_append_of_le_length om,List.take_take,Nat.min_self]
 have hr:(W2 ds m xs).drop (Yq xs)=W2 ds m (xs.drop (Yq xs)):=by
  rw [Z1a h,List.drop_append_of_le_length om,List.drop_take,Nat.sub_self];rfl
 have e:Uc (W2 ds m xs) x fs q=if x∈X5 15 (xs.take (Yq xs))/\fs.length≠0 then (TI xs x fs q).1.map (ZC 14)++[ZC 16 x]++(TI xs x fs q).2.map (ZC 15)++W2 ds m (xs.drop (Yq xs)) else W2 ds m xs:=by
  rw [Uc,Mw,ht,hr,TI,Mw,ht];rfl
 rw [e,Uc]
 split
 ·refine MK fun s hs=>?_
  simp only [Xi,XF,XK] at hs
  rcases hs with (⟨a,_,rfl⟩|rfl)|⟨a,_,rfl⟩<;>exact ⟨rfl,rfl⟩
 ·rfl
theorem MJ {b:Z6} {x:Int} {fs:LI} {q:Int} (h:wB ds b):XA ds m (VQ b x fs q)=VQ (XA ds m b) x fs q:=by
 rw [VQ,XA,Zid ((JP b).1 h),VQ,DI];rfl
end
def Uz (ds:List Zf) (r:Yc):Yc:=⟨r.params,r.lent,r.result,XA ds r.params.length r.body⟩
def Wt (n:Zm):Zm:=⟨n.decls,n.routines.map (Uz n.decls)⟩
def YC (n:Zm):Zm × Bool:=if US n=true then (if KZ (Wt n)=true then (Wt n,true) else (Ax,false)) else (Ax,false)
theorem HG {n:Zm} (hn:X4 n) (hz:V4 n) (hbt:∀r∈n.routines,0<=YT n r.params r.body):∀r∈n.routines,wB n.decls r.body:=fun r hr=>Z2z r.body (by have:=hz.body r hr;have:=hn.params r hr;omega) hn.decls (hbt r hr)
theorem Z19 {n:Zm} (hn:X4 n) (hz:V4 n) (hbt:∀r∈n.routines,0<=YT n r.params r.body):∀r∈(Wt n).routines,r.body.sz<=1000000000:=by
 intro r hr
 obtain ⟨q,hq,rfl⟩:=XF.1 hr
 have h1:=Fc hn.decls q.body (m:=q.params.length) (HG hn hz hbt q hq)
 have h2:=hz.body q hq
 have h3:=q.body.pz_le
 show (XA n.decls q.params.length q.body).sz<=1000000000
 omega
end Go.Abs
namespace Go.Abs
theorem Z0h {xs:List Z5} {k:Nat} {s:Z5} {r:Nat} (h:xs[k]? = some s) (hs:s.op=14∨s.op=15) (ha:k+Yq (xs.drop k)=r):k+1+Yq (xs.drop (k+1))=r:=by
 rw [Y5 h,Yq,Ze hs] at ha;omega
theorem Z0i {xs:List Z5} {k:Nat} {s:Z5} {r:Nat} (h:xs[k]? = some s) (hs:¬(s.op=14∨s.op=15)) (ha:k+Yq (xs.drop k)=r):k=r:=by
 rw [Y5 h,Yq,Z7 hs] at ha;omega
theorem Z0g {xs:List Z5} {k:Nat} {r:Nat} (h:xs.length<=k) (ha:k+Yq (xs.drop k)=r):k=r:=by
 rw [Xj h,Yq] at ha;omega
theorem Z4c {op:Int} {xs:List Z5} {acc r:LI} {k:Nat} {s:Z5} (h:xs[k]? = some s) (hs:s.op=op) (ha:acc++X5 op (xs.drop k)=r):(acc++[gI s.args 0])++X5 op (xs.drop (k+1))=r:=by
 rw [Y5 h,X5,Ze hs] at ha;rw [<-ha];simp
theorem Z4a {op:Int} {xs:List Z5} {acc r:LI} {k:Nat} {s:Z5} (h:xs[k]? = some s) (hs:¬s.op=op) (ha:acc++X5 op (xs.drop k)=r):acc++X5 op (xs.drop (k+1))=r:=by
 rw [Y5 h,X5,Z7 hs] at ha;exact ha
theorem Z49 {op:Int} {xs:List Z5} {acc r:LI} {k:Nat} (h:xs.length<=k) (ha:acc++X5 op (xs.drop k)=r):acc=r:=by
 rw [Xj h,X5,JQ] at ha;exact ha
theorem Z8g {xs acc r:LI} {y:Int} {k:Nat} {x:Int} {d:Bool} (h:xs[k]? = some x) (ha:acc++(if d=true then xs.drop k else (xs.drop k).erase y)=r) :
  (if x=y/\¬d=true then acc else acc++[x])++(if ((x==y&&!d)||d)=true then xs.drop (k+1) else (xs.drop (k+1)).erase y)=r:=by
 rw [Y5 h] at ha
 rw [<-ha]
 by_cases hd:d=true
 ·simp [hd]
 ·by_cases hx:x=y
  ·simp [hd,hx]
  ·rw [Z7 (fun z=>hx z.1),Z7 hd,List.erase_cons_tail (by simpa using hx)]
   simp [hd,hx]
theorem Z8f {xs acc r:LI} {y:Int} {k:Nat} {d:Bool} (h:xs.length<=k) (ha:acc++(if d=true then xs.drop k else (xs.drop k).erase y)=r):acc=r:=by
 rw [Xj h] at ha;simpa using ha
section
variable {fs D R:LI} {q k:Nat} {f:Int} {r:LI × LI}
theorem Zfk (h:fs[k]? = some f) (h0:f≠0) (hm:((q+k:Nat):Int)∈D) (ha:Uw (fs.drop k) (q+k) D R=r):Uw (fs.drop (k+1)) (q+((k+1:Nat):Int)) (D.erase ((q+k:Nat):Int)) R=r:=by
 rw [Y5 h,Uw,Ze ⟨h0,by rw [<-Int.natCast_add];exact hm⟩,<-Int.natCast_add] at ha
 rw [<-ha];congr 1
theorem Zfl (h:fs[k]? = some f) (h0:f≠0) (hm:¬((q+k:Nat):Int)∈D) (ha:Uw (fs.drop k) (q+k) D R=r):Uw (fs.drop (k+1)) (q+((k+1:Nat):Int)) D (R++[((q+k:Nat):Int)])=r:=by
 rw [Y5 h,Uw,Z7 (fun z=>hm (by rw [Int.natCast_add];exact z.2)),Ze h0,<-Int.natCast_add] at ha
 rw [<-ha];congr 1
theorem Zfm (h:fs[k]? = some f) (h0:¬f≠0) (ha:Uw (fs.drop k) (q+k) D R=r):Uw (fs.drop (k+1)) (q+((k+1:Nat):Int)) D R=r:=by
 rw [Y5 h,Uw,Z7 (fun z=>h0 z.1),Z7 h0] at ha
 rw [<-ha];congr 1
theorem Zfj (h:fs.length<=k) (ha:Uw (fs.drop k) (q+k) D R=r):r=(D,R):=by
 rw [Xj h,Uw] at ha;exact ha.symm
end
theorem Z41 {xs:List Z5} {x:Int} {fs:LI} {q:Int} {D R:LI} (h1:x∈X5 15 (xs.take (Yq xs))) (h2:fs.length≠0) (hr:TI xs x fs q=(D,R)):D.map (ZC 14)++[ZC 16 x]++R.map (ZC 15)++xs.drop (Yq xs)=Uc xs x fs q:=by
 rw [Uc,Ze ⟨h1,h2⟩,hr]
theorem Zib {ds:List Zf} {xs:List Z5}:∀{m:Nat},Ub ds xs->∀s∈W2 ds m xs,Yx s.op=true->∃a,s.args=[a]:=by
 induction xs with
 | nil=>intro m _ s hs;simp [W2] at hs
 | cons t r ih=>
  intro m h s hs ho
  rw [W2] at hs
  rcases YH.1 hs with rfl|hs
  ·rw [DJ] at ho ⊢
   exact (DQ h.1 ho).2.2
  ·exact ih h.2 s hs ho
end Go.Abs
end
namespace Go.Abs
theorem H2 {op m:Int}:∀{xs:List Z5},m∈X5 op xs↔∃s∈xs,s.op=op/\gI s.args 0=m
 | []=>by simp [X5]
 | s::r=>by
  rw [X5]
  by_cases h:s.op=op
  ·rw [Ze h,YH,H2]
   constructor
   ·rintro (rfl|⟨t,ht,h1,h2⟩)
    ·exact ⟨s,Xf ..,h,rfl⟩
    ·exact ⟨t,Xr _ ht,h1,h2⟩
   ·rintro ⟨t,ht,h1,h2⟩
    rcases YH.1 ht with rfl|ht
    ·exact .inl h2.symm
    ·exact .inr ⟨t,ht,h1,h2⟩
  ·rw [Z7 h,H2]
   constructor
   ·rintro ⟨t,ht,h1⟩;exact ⟨t,Xr _ ht,h1⟩
   ·rintro ⟨t,ht,h1,h2⟩
    rcases YH.1 ht with rfl|ht
    ·exact absurd h1 h
    ·exact ⟨t,ht,h1,h2⟩
theorem Ni {s:Z5} (h:Cn s):∃a,s.args=[a]:=⟨gI s.args 0,by have:=Yu Z5.args h;exact this⟩
theorem Z4b {op m:Int} {xs:List Z5} {k:Nat} (h:∀s∈xs.take k,¬(s.op=op/\gI s.args 0=m)) (hk:xs.length<=k):¬m∈X5 op xs:=by
 rw [VA hk] at h
 intro z
 obtain ⟨s,hs,h1,h2⟩:=H2.1 z
 exact h s hs ⟨h1,h2⟩
theorem Zkc {α:Type} {xs:List α} {k:Nat} {x:α} {p:α->Prop} (hx:xs[k]? = some x) (h:∀s∈xs.take k,p s) (hp:p x):∀s∈xs.take (k+1),p s:=by
 rw [V1 hx]
 intro s hs
 rcases Xi.1 hs with hs|hs
 ·exact h s hs
 ·rw [XK.1 hs];exact hp
theorem Zer {xs acc r:LI} {v:Int} {k:Nat} {x:Int} (h:xs[k]? = some x) (ha:acc++QW (xs.drop k) v=r):(if (x != v)=true then acc++[x] else acc)++QW (xs.drop (k+1)) v=r:=by
 rw [Y5 h,QW] at ha
 rw [<-ha,QW]
 by_cases hx:x=v
 ·simp [hx]
 ·simp [hx]
theorem Zep {xs acc r:LI} {v:Int} {k:Nat} (h:xs.length<=k) (ha:acc++QW (xs.drop k) v=r):acc=r:=by
 rw [Xj h,QW,List.filter_nil,JQ] at ha;exact ha
section
variable {xs:LI} {v:Int} {lo hi:Nat}
theorem Z54 {m:Nat} {y:Int} (hs:xs.Pairwise (·<·)) (hy:xs[m]? = some y) (hv:y<v):∀(j:Nat) (x:Int),j<m+1->xs[j]? = some x->x<v:=by
 intro j x hj hx
 rcases JR j m with h|h
 ·have hm:=(Xq.1 hy).1
  have:=List.pairwise_iff_getElem.1 hs j m om hm h
  rw [TL om] at hx
  rw [TL hm] at hy
  have e1:=UP hx
  have e2:=UP hy
  omega
 ·have:j=m:=by omega
  subst this;rw [hx] at hy;cases hy;exact hv
theorem Z53 {m:Nat} {y:Int} (hs:xs.Pairwise (·<·)) (hy:xs[m]? = some y) (hv:¬y<v):∀(j:Nat) (x:Int),m<=j->xs[j]? = some x->v<=x:=by
 intro j x hj hx
 rcases JR m j with h|h
 ·have hm:=(Xq.1 hx).1
  have:=List.pairwise_iff_getElem.1 hs m j om hm h
  rw [TL hm] at hx
  rw [TL om] at hy
  have e1:=UP hx
  have e2:=UP hy
  omega
 ·have:j=m:=by omega
  subst this;rw [hx] at hy;cases hy;omega
theorem Z55 (hs:xs.Pairwise (·<·)) (h1:∀(j:Nat) (x:Int),j<lo->xs[j]? = some x->x<v) (h2:∀(j:Nat) (x:Int),lo<=j->xs[j]? = some x->v<=x) {y:Int} (hy:xs[lo]? = some y) (hn:y≠v):¬v∈xs:=by
 intro hv
 obtain ⟨j,hj⟩:=Fu hv
 rcases JR j lo with h|h
 ·have:=h1 j v h hj;omega
 ·have hm:=h2 lo y (YU _) hy
  rcases JR lo j with h3|h3
  ·have hjl:=(Xq.1 hj).1
   have:=List.pairwise_iff_getElem.1 hs lo j om hjl h3
   rw [TL hjl] at hj
   rw [TL om] at hy
   have e1:=UP hj
   have e2:=UP hy
   omega
  ·have:j=lo:=by omega
   subst this;rw [hj] at hy;cases hy;exact hn rfl
theorem Z56 (h1:∀(j:Nat) (x:Int),j<lo->xs[j]? = some x->x<v) (hl:xs.length<=lo):¬v∈xs:=by
 intro hv
 obtain ⟨j,hj⟩:=Fu hv
 have:=h1 j v (by have:=(Xq.1 hj).1;omega) hj
 omega
end
section
variable {m:Int} {xs du dr:List Z5} {lf:LI} {d:Bool} {k:Nat} {s:Z5} {W:List Z5 × List Z5 × LI}
def Qd (m:Int) (du dr:List Z5) (xs:List Z5) (lf:LI) (d:Bool):List Z5 × List Z5 × LI:=(du++(Th m xs lf d).1,dr++(Th m xs lf d).2.1,(Th m xs lf d).2.2)
theorem Zhz (h:xs[k]? = some s) (h1:s.op=14) (h2:gI s.args 0∈lf) (ha:Qd m du dr (xs.drop k) lf d=W):Qd m du dr (xs.drop (k+1)) (QW lf (gI s.args 0)) d=W:=by
 rw [Qd,Y5 h,Th,Ze ⟨h1,h2⟩] at ha;exact ha
theorem Zhx (h:xs[k]? = some s) (h1:s.op=14) (h2:¬gI s.args 0∈lf) (ha:Qd m du dr (xs.drop k) lf d=W):Qd m (du++[s]) dr (xs.drop (k+1)) lf d=W:=by
 rw [Qd,Y5 h,Th,Z7 (fun z=>h2 z.2),Ze h1] at ha
 rw [<-ha,Qd,UN];rfl
theorem Zhw (h:xs[k]? = some s) (h1:¬s.op=14) (h2:(s.op=15/\gI s.args 0=m)/\¬d=true) (ha:Qd m du dr (xs.drop k) lf d=W):Qd m du dr (xs.drop (k+1)) lf true=W:=by
 rw [Qd,Y5 h,Th,Z7 (fun z=>h1 z.1),Z7 h1,Ze h2] at ha;exact ha
theorem Zi0 (h:xs[k]? = some s) (h1:¬s.op=14) (h2:¬((s.op=15/\gI s.args 0=m)/\¬d=true)) (ha:Qd m du dr (xs.drop k) lf d=W):Qd m du (dr++[s]) (xs.drop (k+1)) lf d=W:=by
 rw [Qd,Y5 h,Th,Z7 (fun z=>h1 z.1),Z7 h1,Z7 h2] at ha
 rw [<-ha,Qd,UN];rfl
theorem Zhy (h:xs.length<=k) (ha:Qd m du dr (xs.drop k) lf d=W):W=(du,dr,lf):=by
 rw [Qd,Xj h,Th,JQ,JQ] at ha;exact ha.symm
end
theorem Zes (xs:LI) (v:Int):(QW xs v).length<=xs.length:=List.length_filter_le _ _
def GV:List Z5->Nat
 | []=>0
 | s::r=>if Yx s.op=true then GV r+1 else 0
def NH (op x:Int):List Z5->Int->Int
 | [],_=>-1
 | s::r,k=>if s.op=op/\gI s.args 0=x then k else NH op x r (k+1)
def Il (many:Nat) (s:Z5):Prop:=(s.op=6/\s.into=0)/\s.args.length=many
instance (many:Nat) (s:Z5):Decidable (Il many s):=by unfold Il;infer_instance
def Ok (many:Nat):List Z5->Int->Int
 | [],_=>-1
 | s::r,k=>if Il many s then k else Ok many r (k+1)
def gSt (xs:List Z5) (i:Int):Z5:=xs[i.toNat]?.getD (ZC 0 0)
def Zd5 (v:Int) (s:Z5):Z5:=.mk s.op s.num v s.args s.kids
def H9 (xs:List Z5) (x:Int):Int:=NH 16 x (xs.take (GV xs)) 0
def Ed (xs:List Z5) (many:Nat):Int:=Ok many (xs.drop (GV xs)) (GV xs)
def Zgb (xs:List Z5) (x:Int) (many:Nat):List Z5:=
 if H9 xs x<0∨Ed xs many<0 then xs else (xs.set (H9 xs x).toNat (ZC 17 x)).set (Ed xs many).toNat (Zd5 (1+x) (gSt xs (Ed xs many)))
def Zga (b:Z6) (x:Int) (many:Nat):Z6:=.mk (Zgb b.steps x many) b.result
mutual
def ruS (ds:List Zf) (kept:LI):Z5->Z5
 | .mk op num into args kids=>.mk op num into args (Z0e ds kept op num args kids 0)
def Z0e (ds:List Zf) (kept:LI) (op num:Int) (args:LI):List Z6->Nat->List Z6
 | [],_=>[]
 | b::r,k=>(if op=8/\¬gI args 0∈kept then Zga (Mu ds (if H9 b.steps (gI args 0)<0∨Ed b.steps (VS ds num k).length<0 then kept else gI args 0::kept) b) (gI args 0) (VS ds num k).length else Mu ds kept b)::Z0e ds kept op num args r (k+1)
def Z0f (ds:List Zf) (kept:LI):List Z5->List Z5
 | []=>[]
 | s::r=>ruS ds kept s::Z0f ds kept r
def Mu (ds:List Zf) (kept:LI):Z6->Z6
 | .mk steps result=>.mk (Z0f ds kept steps) result
end
section
variable {ds:List Zf} {kept:LI}
end
section
variable {ds:List Zf}
end
section
variable {f:Z5->Z5} (hop:∀s,(f s).op=s.op) (hin:∀s,(f s).into=s.into) (har:∀s,(f s).args=s.args)
include hop
include har
include hin
end
def TR (op:Int) (c:LI):LI:=if Yx op=true then c.set (op-14).toNat (gI c (op-14)+1) else c
mutual
def JX:Z5->LI->LI
 | .mk op _ _ _ kids,c=>UC kids (TR op c)
def UC:List Z6->LI->LI
 | [],c=>c
 | b::r,c=>UC r (Tu b c)
def T9:List Z5->LI->LI
 | [],c=>c
 | s::r,c=>T9 r (JX s c)
def Tu:Z6->LI->LI
 | .mk steps _,c=>T9 steps c
end
theorem Z63 (s:Z5) (c:LI):JX s c=UC s.kids (TR s.op c):=by cases s;rw [JX];rfl
theorem Z5x (b:Z6) (c:LI):Tu b c=T9 b.steps c:=by cases b;rw [Tu];rfl
theorem Z64 {xs:List Z5} {k:Nat} {s:Z5} {c r:LI} (h:xs[k]? = some s) (ha:T9 (xs.drop k) c=r):T9 (xs.drop (k+1)) (UC s.kids (TR s.op c))=r:=by
 rw [Y5 h,T9,Z63] at ha;exact ha
theorem Z62 {xs:List Z5} {k:Nat} {c r:LI} (h:xs.length<=k) (ha:T9 (xs.drop k) c=r):c=r:=by
 rw [Xj h,T9] at ha;exact ha
theorem Z5y {xs:List Z6} {k:Nat} {s:Z6} {c r:LI} (h:xs[k]? = some s) (ha:UC (xs.drop k) c=r):UC (xs.drop (k+1)) (Tu s c)=r:=by
 rw [Y5 h,UC] at ha;exact ha
theorem Z5w {xs:List Z6} {k:Nat} {c r:LI} (h:xs.length<=k) (ha:UC (xs.drop k) c=r):c=r:=by
 rw [Xj h,UC] at ha;exact ha
structure CB (c:LI) (q:Int):Prop where
 len:c.length=4
 bd:∀x∈c,0<=x/\x<=q
theorem CB.le {c:LI} {q p:Int} (h:CB c q) (hq:q<=p):CB c p:=⟨h.len,fun x hx=>by have:=h.bd x hx;omega⟩
theorem CB.at {c:LI} {q:Int} (h:CB c q) {i:Int} (hi:i.toNat<4):0<=gI c i/\gI c i<=q:=h.bd _ (by rw [gI,TL (by rw [h.len];exact hi)];exact List.getElem_mem _)
theorem CB.one {c:LI} {q:Int} (h:CB c q) (_:0<=q) (op:Int):CB (TR op c) (q+1):=by
 rw [TR]
 split
 ·rename_i ho
  have ho':14<=op/\op<=17:=by simpa [Yx] using ho
  refine ⟨by rw [TN];exact h.len,fun x hx=>?_⟩
  rcases J6 hx with hx|rfl
  ·have:=h.bd x hx;omega
  ·have:=h.at (i:=op-14) om;omega
 ·exact h.le om
mutual
theorem CB.s:∀(s:Z5) {c:LI} {q:Int},CB c q->0<=q->CB (JX s c) (q+s.sz)
 | .mk op num into args kids,c,q,h,hq=>by
  have:=CB.bs kids (h.one hq op) om
  rw [JX,Z5.sz];exact this.le om
theorem CB.bs:∀(bs:List Z6) {c:LI} {q:Int},CB c q->0<=q->CB (UC bs c) (q+X3 bs)
 | [],c,q,h,hq=>by rw [UC,X3];exact h.le om
 | b::r,c,q,h,hq=>by
  have:=CB.bs r (CB.b b h hq) om
  rw [UC,X3];exact this.le om
theorem CB.ss:∀(xs:List Z5) {c:LI} {q:Int},CB c q->0<=q->CB (T9 xs c) (q+Yf xs)
 | [],c,q,h,hq=>by rw [T9,Yf];exact h.le om
 | s::r,c,q,h,hq=>by
  have:=CB.ss r (CB.s s h hq) om
  rw [T9,Yf];exact this.le om
theorem CB.b:∀(b:Z6) {c:LI} {q:Int},CB c q->0<=q->CB (Tu b c) (q+b.sz)
 | .mk steps result,c,q,h,hq=>by
  have:=CB.ss steps h hq
  rw [Tu,Z6.sz];exact this.le om
end
mutual
def H4:Z5->Prop
 | .mk op _ _ _ kids=>op≠17/\EN kids
def EN:List Z6->Prop
 | []=>True
 | b::r=>EM b/\EN r
def EO:List Z5->Prop
 | []=>True
 | s::r=>H4 s/\EO r
def EM:Z6->Prop
 | .mk steps _=>EO steps
end
theorem O7 (op:Int) (c:LI):(TR op c).length=c.length:=by rw [TR];split<;>simp
theorem Z5u {op:Int} {c:LI} (hl:c.length=4):gI c 3<=gI (TR op c) 3/\(gI (TR op c) 3=gI c 3->op≠17):=by
 rw [TR]
 split
 ·rename_i ho
  have ho':14<=op/\op<=17:=by simpa [Yx] using ho
  by_cases h:op=17
  ·subst h
   rw [Df (x:=17-14) (j:=3) om om]
   show gI c 3<=gI c 3+1/\_
   refine ⟨by omega,fun e=>?_⟩
   have:gI c 3+1=gI c 3:=e
   omega
  ·rw [Dg om];exact ⟨Int.le_refl _,fun _=>h⟩
 ·rename_i ho
  exact ⟨Int.le_refl _,fun _ h=>ho (by rw [h];rfl)⟩
mutual
theorem Od:∀(s:Z5) {c:LI},c.length=4->(JX s c).length=4/\gI c 3<=gI (JX s c) 3/\(gI (JX s c) 3=gI c 3->H4 s)
 | .mk op num into args kids,c,hl=>by
  have h1:=Z5u (op:=op) hl
  obtain ⟨h2,h3,h4⟩:=Oa kids (c:=TR op c) (by rw [O7];exact hl)
  rw [JX,H4]
  exact ⟨h2,by omega,fun e=>⟨h1.2 om,h4 om⟩⟩
theorem Oa:∀(bs:List Z6) {c:LI},c.length=4->(UC bs c).length=4/\gI c 3<=gI (UC bs c) 3/\(gI (UC bs c) 3=gI c 3->EN bs)
 | [],c,hl=>by rw [UC,EN];exact ⟨hl,Int.le_refl _,fun _=>True.intro⟩
 | b::r,c,hl=>by
  obtain ⟨h2,h3,h4⟩:=FJ b hl
  obtain ⟨h5,h6,h7⟩:=Oa r h2
  rw [UC,EN]
  exact ⟨h5,by omega,fun e=>⟨h4 om,h7 om⟩⟩
theorem Of:∀(xs:List Z5) {c:LI},c.length=4->(T9 xs c).length=4/\gI c 3<=gI (T9 xs c) 3/\(gI (T9 xs c) 3=gI c 3->EO xs)
 | [],c,hl=>by rw [T9,EO];exact ⟨hl,Int.le_refl _,fun _=>True.intro⟩
 | b::r,c,hl=>by
  obtain ⟨h2,h3,h4⟩:=Od b hl
  obtain ⟨h5,h6,h7⟩:=Of r h2
  rw [T9,EO]
  exact ⟨h5,by omega,fun e=>⟨h4 om,h7 om⟩⟩
theorem FJ:∀(b:Z6) {c:LI},c.length=4->(Tu b c).length=4/\gI c 3<=gI (Tu b c) 3/\(gI (Tu b c) 3=gI c 3->EM b)
 | .mk steps result,c,hl=>by rw [Tu,EM];exact Of steps hl
end
def TS:List Yc->LI->LI
 | [],c=>c
 | r::rs,c=>TS rs (Tu r.body c)
theorem Z60 {xs:List Yc} {k:Nat} {s:Yc} {c r:LI} (h:xs[k]? = some s) (ha:TS (xs.drop k) c=r):TS (xs.drop (k+1)) (Tu s.body c)=r:=by
 rw [Y5 h,TS] at ha;exact ha
theorem Z5z {xs:List Yc} {k:Nat} {c r:LI} (h:xs.length<=k) (ha:TS (xs.drop k) c=r):c=r:=by
 rw [Xj h,TS] at ha;exact ha
theorem Ij:∀(rs:List Yc) {c:LI},c.length=4->(TS rs c).length=4/\gI c 3<=gI (TS rs c) 3/\(gI (TS rs c) 3=gI c 3->∀r∈rs,EM r.body)
 | [],c,hl=>by rw [TS];exact ⟨hl,Int.le_refl _,fun _ r hr=>by cases hr⟩
 | r::rs,c,hl=>by
  obtain ⟨h2,h3,h4⟩:=FJ r.body hl
  obtain ⟨h5,h6,h7⟩:=Ij rs h2
  rw [TS]
  refine ⟨h5,by omega,fun e q hq=>?_⟩
  rcases YH.1 hq with rfl|hq
  ·exact h4 om
  ·exact h7 om q hq
def UD (n:Zm):LI:=TS n.routines [0,0,0,0]
theorem Z20:∀{xs:List Z5} {i:Nat} {s:Z5} (t:Z5),xs[i]? = some s->Yf (xs.set i t)+s.sz=Yf xs+t.sz
 | [],_,_,_,h=>by simp at h
 | x::r,0,s,t,h=>by simp at h;subst h;rw [List.set_cons_zero,Yf,Yf];omega
 | x::r,i+1,s,t,h=>by
  have:=Z20 (xs:=r) (i:=i) t (by simpa using h)
  rw [List.set_cons_succ,Yf,Yf];omega
section
variable {ds:List Zf}
variable (hd:Wu ds)
end
def ruR (ds:List Zf) (r:Yc):Yc:=⟨r.params,r.lent,r.result,Mu ds [] r.body⟩
def ruN (n:Zm):Zm:=⟨n.decls,n.routines.map (ruR n.decls)⟩
def Zm8 (n:Zm):Zm × Bool:=if US n=true/\¬gI (UD n) 3>0 then (ruN n,true) else (Ax,false)
theorem Z8c {xs ys:LI} (h:xs.length=ys.length) (ha:∀i,i<xs.length->xs[i]? = ys[i]?):xs=ys:=List.ext_getElem? fun i=>by
 by_cases hi:i<xs.length
 ·exact ha i hi
 ·rw [CM om,CM om]

mutual
def Z1.sz:Z1->Nat
 | .mk _ _ kids=>1+XC kids
def XC:List Z1->Nat
 | []=>0
 | e::r=>e.sz+XC r
end
theorem Z1.sz_eq (e:Z1):e.sz=1+XC e.kids:=by cases e;rw [Z1.sz];rfl
theorem Eo:∀xs ys:List Z1,XC (xs++ys)=XC xs+XC ys
 | [],ys=>by simp [XC]
 | x::r,ys=>by rw [Q2,XC,XC,Eo r];omega
theorem Ck:∀{xs:List Z1} {k:Nat} {e:Z1},xs[k]? = some e->e.sz<=XC xs
 | [],k,e,h=>by simp at h
 | x::r,0,e,h=>by simp at h;subst h;rw [XC];omega
 | x::r,k+1,e,h=>by have:=Ck (xs:=r) (k:=k) (by simpa using h);rw [XC];omega
theorem P1:∀{xs:List Z1},xs.length<=XC xs
 | []=>Af _
 | x::r=>by have:=P1 (xs:=r);have:=x.sz_eq;rw [XC,YW];omega
def AR:Zf:=⟨0,0,[⟨[]⟩,⟨[0,1]⟩]⟩
def AS:Zf:=⟨0,0,[⟨[]⟩,⟨[3,0,3]⟩]⟩
def OA:List Zf:=[⟨0,0,[⟨[1,3]⟩]⟩,⟨1,0,[]⟩,⟨0,0,[⟨[1,1,0]⟩,⟨[0]⟩,⟨[3]⟩]⟩,⟨0,1,[]⟩]
def B1:List (List Zf):=[[AR,⟨0,0,[]⟩,AS],[AR,⟨0,0,[]⟩,AS,⟨0,0,[⟨[1,3]⟩]⟩],[AR,⟨0,0,[]⟩,AS,⟨1,0,[]⟩],[AR,⟨0,0,[]⟩,AS,⟨0,0,[⟨[1,1,0]⟩,⟨[0]⟩,⟨[3]⟩]⟩],[AR,⟨0,0,[]⟩,AS,⟨0,1,[]⟩]]
def GD (ds:List Zf):Prop:=ds∈B1
theorem GD.ok {ds:List Zf} (h:GD ds):Wu ds:=by
 have k:=(by decide:∀ds∈B1,ds.length<=4/\(∀d∈ds,d.cons.length<=3)/\∀d∈ds,∀c∈d.cons,c.fields.length<=3) ds h
 exact ⟨k.1,k.2.1,k.2.2⟩
theorem GD.len {ds:List Zf} (h:GD ds):3<=ds.length/\ds.length<=4:=by
 exact (by decide:∀ds∈B1,3<=ds.length/\ds.length<=4) ds h
def Jz (t:Int):Prop:=t=0∨t=1∨t=3
instance (t:Int):Decidable (Jz t):=inferInstanceAs (Decidable (_∨_∨_))
theorem GD.low {ds:List Zf} (h:GD ds):ZW ds 0=[]/\ZW ds 1=[0,1]/\ZW ds 2=[]/\ZW ds 3=[2,3]/\ZX ds 0=[]/\ZX ds 1=[0,1]/\ZX ds 2=[]/\ZX ds 3=[3,0,3]:=
 (by decide:∀ds∈B1,ZW ds 0=[]/\ZW ds 1=[0,1]/\ZW ds 2=[]/\ZW ds 3=[2,3]/\ZX ds 0=[]/\ZX ds 1=[0,1]/\ZX ds 2=[]/\ZX ds 3=[3,0,3]) ds h
theorem GD.fields {ds:List Zf} (h:GD ds):∀c∈ZW ds 1++(ZW ds 3++ZW ds 4),∀t∈ZX ds c,Jz t:=
 (by decide:∀ds∈B1,∀c∈ZW ds 1++(ZW ds 3++ZW ds 4),∀t∈ZX ds c,Jz t) ds h
theorem GD.cons_cases {ds:List Zf} (h:GD ds) {t:Int} {c:Int} (hc:c∈ZW ds t):(0<=c/\c<=9)/\(t=1∨t=3∨t=4)/\(ZX ds c).length<=3/\∀u∈ZX ds c,Jz u:=by
 have ht:1<=t/\t<=ds.length:=by
  by_cases q:1<=t/\t<=ds.length
  ·exact q
  ·rw [ZW,Z7 q] at hc;cases hc
 have hl:=h.len
 have hlow:=h.low
 have key:∀c∈ZW ds 1++(ZW ds 3++ZW ds 4),0<=c/\c<=9:=
  (by decide:∀ds∈B1,∀c∈ZW ds 1++(ZW ds 3++ZW ds 4),0<=c/\c<=9) ds h
 have h4:t=1∨t=2∨t=3∨t=4:=by omega
 have hf:=h.fields
 have hd:=Uu h.ok c
 rcases h4 with rfl|rfl|rfl|rfl
 ·exact ⟨key c (Xi.2 (.inl hc)),.inl rfl,hd,hf c (Xi.2 (.inl hc))⟩
 ·rw [hlow.2.2.1] at hc;cases hc
 ·exact ⟨key c (Xi.2 (.inr (Xi.2 (.inl hc)))),.inr (.inl rfl),hd,hf c (Xi.2 (.inr (Xi.2 (.inl hc))))⟩
 ·exact ⟨key c (Xi.2 (.inr (Xi.2 (.inr hc)))),.inr (.inr rfl),hd,hf c (Xi.2 (.inr (Xi.2 (.inr hc))))⟩
def Ah:List (LI × Int):=[([],0),([1],0),([1,1],1),([1],1),([1,0],1),([2,1],1),([1,1],0),([3],0),([0],1),([0,1],1),([3,0],3),([3],1),([1,3,0],0),([0],0),([0,0],0),([1,0],0)]
def Qh (f:Func):Prop:=(f.params,f.result)∈Ah
theorem Qh.bd {f:Func} (h:Qh f):f.params.length<=3/\(∀t∈f.params,0<=t/\t<=3)/\Jz f.result:=by
 have key:∀q∈Ah,q.1.length<=3/\(∀t∈q.1,0<=t/\t<=3)/\Jz q.2:=by decide
 exact key _ h
theorem Qh.clo {ds:List Zf} {f:Func} (hd:GD ds) (h:Qh f) (hp:0<Ut ds (gI f.params ((f.params.length:Int)-1)) f.result):∀t∈f.params.dropLast,Jz t:=by
 have key:∀q∈Ah,0<Ut ds (gI q.1 ((q.1.length:Int)-1)) q.2->∀t∈q.1.dropLast,Jz t:=
  (by decide +kernel:∀ds∈B1,∀q∈Ah,0<Ut ds (gI q.1 ((q.1.length:Int)-1)) q.2->∀t∈q.1.dropLast,Jz t) ds hd
 exact key _ h hp
structure GP (p:Wc):Prop where
 decls:GD p.decls
 len:1<=p.funcs.length/\p.funcs.length<=4
 sigs:∀f∈p.funcs,Qh f
def QA (ds:List Zf) (op num:Int) (m:Nat) (k:Nat):Nat:=
 if op=13 then m+k else if op=8 then (if k=0 then m else m+(ZX ds (gI (ZW ds num) ((k:Int)-1))).length) else m
mutual
def eW (ds:List Zf) (nf:Nat):Nat->Z1->Prop
 | m,.mk op num kids=>(0<=op/\op<=13)/\(op=12->kids=[]/\0<=num/\num<m)/\(op=13->kids.length=2)/\(op=7->kids.length=3)/\(op=8->kids.length=1+(ZW ds num).length)/\(op=9->0<=num/\num<nf)/\(-2000<=num/\num<=2000)/\kids.length<=4 /\
  Kr ds nf (QA ds op num m) 0 kids
def Kr (ds:List Zf) (nf:Nat) (sc:Nat->Nat):Nat->List Z1->Prop
 | _,[]=>True
 | k,e::r=>eW ds nf (sc k) e/\Kr ds nf sc (k+1) r
end
theorem Z86 {ds:List Zf} {nf m:Nat} (e:Z1):eW ds nf m e↔(0<=e.op/\e.op<=13)/\(e.op=12->e.kids=[]/\0<=e.num/\e.num<m)/\(e.op=13->e.kids.length=2)/\(e.op=7->e.kids.length=3)/\(e.op=8->e.kids.length=1+(ZW ds e.num).length)/\(e.op=9->0<=e.num/\e.num<nf)/\(-2000<=e.num/\e.num<=2000)/\e.kids.length<=4 /\
  Kr ds nf (QA ds e.op e.num m) 0 e.kids:=by cases e;rw [eW];rfl
theorem Dc {ds:List Zf} {nf:Nat} {sc:Nat->Nat}:∀{xs:List Z1} {j k:Nat} {e:Z1},Kr ds nf sc j xs->xs[k]? = some e->eW ds nf (sc (j+k)) e
 | [],j,k,e,_,h=>by simp at h
 | x::r,j,0,e,hw,h=>by simp at h;subst h;exact hw.1
 | x::r,j,k+1,e,hw,h=>by
  have:=Dc (xs:=r) (j:=j+1) (k:=k) hw.2 (by simpa using h)
  rw [show j+(k+1)=j+1+k by omega];exact this
theorem OU {ds:List Zf} {nf:Nat} {sc:Nat->Nat}:∀{xs ys:List Z1} {j:Nat},Kr ds nf sc j (xs++ys)↔Kr ds nf sc j xs/\Kr ds nf sc (j+xs.length) ys
 | [],ys,j=>by simp [Kr]
 | x::r,ys,j=>by
  rw [Q2,Kr,Kr,OU (xs:=r),and_assoc,YW,show j+1+r.length=j+(r.length+1) by omega]
theorem IQ {ds:List Zf} {nf m:Nat} {sc:Nat->Nat} (hs:∀k,sc k=m):∀{xs:List Z1} {j:Nat},(∀e∈xs,eW ds nf m e)->Kr ds nf sc j xs
 | [],_,_=>True.intro
 | x::r,j,h=>⟨by rw [hs];exact h x (Xf ..),IQ hs fun e he=>h e (Xr _ he)⟩
theorem Cj {ds:List Zf} {nf m:Nat} {op num:Int} {kids:List Z1} (ho:0<=op/\op<=11/\op≠7/\op≠8) (hc:op=9->0<=num/\num<nf) (hn:-2000<=num/\num<=2000) (hl:kids.length<=4) (hk:∀e∈kids,eW ds nf m e):eW ds nf m (.mk op num kids):=by
 rw [eW]
 refine ⟨by omega,fun h=>by omega,fun h=>by omega,fun h=>by omega,fun h=>by omega,hc,hn,hl,IQ (m:=m) (fun k=>?_) hk⟩
 rw [QA,Z7 om,Z7 om]
theorem Z87 {ds:List Zf} {nf m:Nat} {z:Int} (hz:-2000<=z/\z<=2000):eW ds nf m (.mk 0 z []):=Cj om (fun h=>by omega) hz (by simp) (fun e he=>by cases he)
theorem Z88 {ds:List Zf} {nf m:Nat} {z:Int} (hz:0<=z/\z<m) (hm:m<=2000):eW ds nf m (.mk 12 z []):=by
 rw [eW]
 exact ⟨by omega,fun _=>⟨rfl,hz⟩,fun h=>by omega,fun h=>by omega,fun h=>by omega,fun h=>by omega,by omega,by simp,True.intro⟩
theorem OR {ds:List Zf} {nf m:Nat} {num:Int} {kids:List Z1} (hn:-2000<=num/\num<=2000) (hl:kids.length=3) (hk:∀e∈kids,eW ds nf m e):eW ds nf m (.mk 7 num kids):=by
 rw [eW]
 refine ⟨by omega,fun h=>by omega,fun h=>by omega,fun _=>hl,fun h=>by omega,fun h=>by omega,hn,by omega,IQ (m:=m) (fun k=>?_) hk⟩
 rw [QA,Z7 om,Z7 om]
theorem OS {ds:List Zf} {nf m:Nat} {num:Int} {a b:Z1} (hn:-2000<=num/\num<=2000) (ha:eW ds nf m a) (hb:eW ds nf (m+1) b):eW ds nf m (.mk 13 num [a,b]):=by
 rw [eW]
 exact ⟨by omega,fun h=>by omega,fun _=>rfl,fun h=>by omega,fun h=>by omega,fun h=>by omega,hn,by simp,ha,hb,True.intro⟩
theorem IP {ds:List Zf} {nf m:Nat} {num:Int} {a:Z1} {arms:List Z1} (hn:-2000<=num/\num<=2000) (h3:arms.length<=3) (hl:arms.length=(ZW ds num).length) (ha:eW ds nf m a) (hk:Kr ds nf (QA ds 8 num m) 1 arms):eW ds nf m (.mk 8 num (a::arms)):=by
 rw [eW]
 refine ⟨by omega,fun h=>by omega,fun h=>by omega,fun h=>by omega,fun _=>by rw [YW];omega,fun h=>by omega,hn,by rw [YW];omega,?_,hk⟩
 rw [QA,Z7 om,Ze rfl,Ze rfl]
 exact ha
def bS (b:Nat):Nat:=max 4 (10*b-10)
def bC (b:Nat):Nat:=max 40 (100*b-100)
def Xn:List Z5->Nat
 | []=>0
 | s::r=>(if Yx s.op=true then 0 else 1)+Xn r
theorem AT:∀xs ys:List Z5,Xn (xs++ys)=Xn xs+Xn ys
 | [],ys=>by simp [Xn]
 | x::r,ys=>by rw [Q2,Xn,Xn,AT r];omega
theorem BA:∀xs:List Z5,Xn xs<=xs.length
 | []=>YU _
 | x::r=>by have:=BA r;rw [Xn,YW];split<;>omega
def Qz (ds:List Zf) (op num:Int) (m:Nat) (k:Nat):Nat:=if op=8 then m+(ZX ds (gI (ZW ds num) k)).length else m
mutual
def fS (ds:List Zf) (nf:Nat):Nat->Z5->Prop
 | m,.mk op num into args kids=>((0<=op/\op<=11)∨(14<=op/\op<=17))/\(∀a∈args,0<=a/\a<m)/\(14<=op->num=0/\into=0/\kids=[]/\∃a,args=[a])/\(op=7->kids.length=2)/\(op=8->kids.length=(ZW ds num).length)/\(op=7∨op=8->∃a,args=[a]) /\
  (op=9->0<=num/\num<nf)/\(-2000<=num/\num<=2000)/\(0<=into/\into<=m)/\args.length<=4/\(op≠7/\op≠8->kids=[])/\Qm ds nf (Qz ds op num m) 0 kids
def Qm (ds:List Zf) (nf:Nat) (sc:Nat->Nat):Nat->List Z6->Prop
 | _,[]=>True
 | k,b::r=>fB ds nf (sc k) b/\Qm ds nf sc (k+1) r
def TT (ds:List Zf) (nf:Nat):Nat->List Z5->Prop
 | _,[]=>True
 | m,s::r=>fS ds nf m s/\TT ds nf (if Yx s.op=true then m else m+1) r
def fB (ds:List Zf) (nf:Nat):Nat->Z6->Prop
 | m,.mk steps result=>TT ds nf m steps/\0<=result/\result<(m+Xn steps:Nat)
end
section
variable {ds:List Zf} {nf:Nat}
structure FS (ds:List Zf) (nf m:Nat) (s:Z5):Prop where
 op:(0<=s.op/\s.op<=11)∨(14<=s.op/\s.op<=17)
 args:∀a∈s.args,0<=a/\a<m
 cnt:14<=s.op->s.num=0/\s.into=0/\s.kids=[]/\∃a,s.args=[a]
 k7:s.op=7->s.kids.length=2
 k8:s.op=8->s.kids.length=(ZW ds s.num).length
 one:s.op=7∨s.op=8->∃a,s.args=[a]
 call:s.op=9->0<=s.num/\s.num<nf
 num:-2000<=s.num/\s.num<=2000
 into:0<=s.into/\s.into<=m
 alen:s.args.length<=4
 kn:s.op≠7/\s.op≠8->s.kids=[]
 kids:Qm ds nf (Qz ds s.op s.num m) 0 s.kids
theorem IW {m:Nat} (s:Z5):fS ds nf m s↔FS ds nf m s:=by
 cases s
 rw [fS]
 exact ⟨fun ⟨h1,h2,h3,h4,h5,h6,h7,h8,h9,h10,h11,h12⟩=>⟨h1,h2,h3,h4,h5,h6,h7,h8,h9,h10,h11,h12⟩,fun h=>⟨h.op,h.args,h.cnt,h.k7,h.k8,h.one,h.call,h.num,h.into,h.alen,h.kn,h.kids⟩⟩
theorem G6 {m:Nat} (b:Z6):fB ds nf m b↔TT ds nf m b.steps/\0<=b.result/\b.result<(m+Xn b.steps:Nat):=by cases b;rw [fB];rfl
theorem G7 {sc:Nat->Nat}:∀{xs:List Z6} {j k:Nat} {b:Z6},Qm ds nf sc j xs->xs[k]? = some b->fB ds nf (sc (j+k)) b
 | [],j,k,b,_,h=>by simp at h
 | x::r,j,0,b,hw,h=>by simp at h;subst h;exact hw.1
 | x::r,j,k+1,b,hw,h=>by
  have:=G7 (xs:=r) (j:=j+1) (k:=k) hw.2 (by simpa using h)
  rw [show j+(k+1)=j+1+k by omega];exact this
theorem P3 {sc:Nat->Nat}:∀{xs ys:List Z6} {j:Nat},Qm ds nf sc j (xs++ys)↔Qm ds nf sc j xs/\Qm ds nf sc (j+xs.length) ys
 | [],ys,j=>by simp [Qm]
 | x::r,ys,j=>by
  rw [Q2,Qm,Qm,P3 (xs:=r),and_assoc,YW,show j+1+r.length=j+(r.length+1) by omega]
theorem P4 {sc:Nat->Nat} {xs:List Z6} {b:Z6} (h:Qm ds nf sc 0 xs) (hb:fB ds nf (sc xs.length) b):Qm ds nf sc 0 (xs++[b]):=
 P3.2 ⟨h,by rw [Vl];exact hb,True.intro⟩
theorem Er:∀{xs ys:List Z5} {m:Nat},TT ds nf m (xs++ys)↔TT ds nf m xs/\TT ds nf (m+Xn xs) ys
 | [],ys,m=>by simp [TT,Xn]
 | x::r,ys,m=>by
  rw [Q2,TT,TT,Er (xs:=r),and_assoc,Xn]
  by_cases h:Yx x.op=true
  ·rw [Ze h,Ze h,Vl]
  ·rw [Z7 h,Z7 h,Bo]
theorem G9 {xs:List Z5} {s:Z5} {m:Nat} (h:TT ds nf m xs) (hs:fS ds nf (m+Xn xs) s):TT ds nf m (xs++[s]):=Er.2 ⟨h,hs,True.intro⟩
theorem G8:∀{xs:List Z5} {k m:Nat} {s:Z5},TT ds nf m xs->xs[k]? = some s->fS ds nf (m+Xn (xs.take k)) s
 | [],k,m,s,_,h=>by simp at h
 | x::r,0,m,s,hw,h=>by simp at h;subst h;exact hw.1
 | x::r,k+1,m,s,hw,h=>by
  have:=G8 (xs:=r) (k:=k) hw.2 (by simpa using h)
  rw [C5,Xn]
  by_cases hc:Yx x.op=true
  ·rw [Ze hc] at this ⊢;rw [Vl];exact this
  ·rw [Z7 hc] at this ⊢;rw [<-Bo];exact this
mutual
theorem Zgf:∀(s:Z5) {m:Nat},fS ds nf m s->s.rng
 | .mk op num into args kids,m,h=>by
  rw [fS] at h
  obtain ⟨h1,h2,h3,h4,h5,h6,h7,h8,h9,h10,h11,h12⟩:=h
  rw [Z5.rng]
  exact ⟨by omega,Z02 kids h12⟩
theorem Z02:∀(bs:List Z6) {sc:Nat->Nat} {k:Nat},Qm ds nf sc k bs->Kl bs
 | [],_,_,_=>True.intro
 | b::r,sc,k,h=>⟨Z01 b h.1,Z02 r h.2⟩
theorem Z03:∀(xs:List Z5) {m:Nat},TT ds nf m xs->TK xs
 | [],_,_=>True.intro
 | s::r,m,h=>⟨Zgf s h.1,Z03 r h.2⟩
theorem Z01:∀(b:Z6) {m:Nat},fB ds nf m b->b.rng
 | .mk steps result,m,h=>by rw [fB] at h;rw [Z6.rng];exact Z03 steps h.1
end
end
structure FN (n:Zm) (q:Nat):Prop where
 decls:GD n.decls
 len:1<=n.routines.length/\n.routines.length<=4
 sigs:∀r∈n.routines,(r.params,r.result)∈Ah
 lent:∀r∈n.routines,r.lent.length<=3/\∀i∈r.lent,0<=i/\i<r.params.length
 body:∀r∈n.routines,fB n.decls n.routines.length r.params.length r.body/\r.body.sz<=q
theorem FN.ok {n:Zm} {q:Nat} (h:FN n q):X4 n:=
 ⟨h.decls.ok,h.len.2,fun r hr=>(Qh.bd (f:=⟨r.params,r.result,default⟩) (h.sigs r hr)).1,fun r hr=>by have:=(h.lent r hr).1;omega⟩
def Pk (n k:Int):Prop:=0<=k/\(0<n->k<n)/\(n<=0->k=0)
theorem Pk.lt {n k:Int} (h:Pk n k) (hn:0<n):0<=k/\k<n:=⟨h.1,h.2.1 hn⟩
theorem Pk.zero {n:Int}:Pk n 0:=⟨Int.le_refl _,fun h=>h,fun _=>rfl⟩
theorem Pk.rem {n a:Int} (ha:0<=a) (hn:0<n):Pk n (a % n):=⟨Int.emod_nonneg _ om,fun _=>Int.emod_lt_of_pos _ hn,fun _=>by omega⟩
def AD (ds:List Zf):Prop:=ds.length<=8/\∀d∈ds,d.cons.length<=4/\∀c∈d.cons,c.fields.length<=4
theorem GD.ad {ds:List Zf} (h:GD ds):AD ds:=(by decide:∀ds∈B1,ds.length<=8/\∀d∈ds,d.cons.length<=4/\∀c∈d.cons,c.fields.length<=4) ds h
theorem AD.set {ds:List Zf} (h:AD ds) (k:Nat) {d:Zf} (hd:d.cons.length<=4/\∀c∈d.cons,c.fields.length<=4):AD (ds.set k d):=
 ⟨by rw [TN];exact h.1,fun x hx=>(List.mem_or_eq_of_mem_set hx).elim (h.2 x) fun e=>by rw [e];exact hd⟩
theorem AD.app {ds es:List Zf} (h:AD ds) (hl:ds.length+es.length<=8) (hd:∀d∈es,d.cons.length<=4/\∀c∈d.cons,c.fields.length<=4):AD (ds++es):=
 ⟨by rw [Ys];exact hl,fun x hx=>(Xi.1 hx).elim (h.2 x) (hd x)⟩
theorem GD.three:GD [AR,⟨0,0,[]⟩,AS]:=List.Mem.head _
theorem GD.four:∀{k:Nat} {x:Zf},OA[k]? = some x->GD ([AR,⟨0,0,[]⟩,AS]++[x])
 | 0,x,h=>by cases h;exact .tail _ (.head _)
 | 1,x,h=>by cases h;exact .tail _ (.tail _ (.head _))
 | 2,x,h=>by cases h;exact .tail _ (.tail _ (.tail _ (.head _)))
 | 3,x,h=>by cases h;exact .tail _ (.tail _ (.tail _ (.tail _ (.head _))))
 | k+4,x,h=>by simp [OA] at h
theorem BN {l:LI} {z a b:Int} (h:z∈l) (hl:l.all (fun x=>decide (a<=x/\x<=b))=true):a<=z/\z<=b:=by
 have:=Ad.1 hl z h
 exact of_decide_eq_true this
def rk (t:Int):Nat:=if Jz t then 0 else 1
theorem Mq (t:Int):rk t<=1:=by rw [rk];split<;>omega
theorem Z00 {t:Int} (h:Jz t):rk t=0:=Ze h
def SE (g:Wc) (q:Nat) (e:Z1):Prop:=(∀m,eW g.decls g.funcs.length m e)/\e.sz<=q
def GE (g:Wc) (m q:Nat) (e:Z1):Prop:=eW g.decls g.funcs.length m e/\e.sz<=q
theorem SE.ge {g:Wc} {q q' m:Nat} {e:Z1} (h:SE g q e) (hq:q<=q'):GE g m q' e:=⟨h.1 m,VB h.2 hq⟩
theorem GE.le {g:Wc} {m q q':Nat} {e:Z1} (h:GE g m q e) (hq:q<=q'):GE g m q' e:=⟨h.1,VB h.2 hq⟩
theorem G5 {m:Nat}:∀{xs:List Z1},(∀e∈xs,e.sz<=m)->XC xs<=xs.length*m
 | [],_=>Af _
 | x::r,h=>by
  have h1:=h x (Xf ..)
  have h2:=G5 (xs:=r) fun e he=>h e (Xr _ he)
  rw [XC,YW,K3];omega
theorem XS {α:Type} {p:α->Prop} {xs:List α} {a:α} (h:∀x∈xs,p x) (ha:p a):∀x∈xs++[a],p x:=fun x hx=>(Xi.1 hx).elim (h x) fun q=>by rw [XK.1 q];exact ha
theorem SE.int {g:Wc} {z:Int} {q:Nat} (hz:-2000<=z/\z<=2000) (hq:1<=q):SE g q (.mk 0 z []):=⟨fun _=>Z87 hz,by simpa [Z1.sz,XC] using hq⟩
theorem SE.node {g:Wc} {op num:Int} {ys:List Z1} {q k:Nat} (ho:op=6∨op=10) (hn:0<=num/\num<=2000) (hy:∀e∈ys,SE g 1 e) (hl:ys.length<=k) (hk:k<=3) (hq:1+k<=q):SE g q (.mk op num ys):=by
 refine ⟨fun m=>Cj om (fun h=>by omega) om om fun e he=>(hy e he).1 m,?_⟩
 have:=G5 (xs:=ys) (m:=1) fun e he=>(hy e he).2
 rw [Z1.sz];omega
def Bu (ds:List Zf) (t c:Int):Prop:=(0<=c/\c<=9)/\(ZX ds c).length<=3*rk t/\∀u∈ZX ds c,Jz u
instance (ds:List Zf) (t c:Int):Decidable (Bu ds t c):=inferInstanceAs (Decidable (_/\_/\_))
theorem Z0s {ds:List Zf} (h:GD ds):∀t∈[(1:Int),2,3,4],∀c∈ZW ds t,(t∈ZX ds c->∀c0,(ZW ds t)[0]? = some c0->Bu ds t c0)/\(¬t∈ZX ds c->Bu ds t c):=by
 intro t ht c hc
 have k1:=(by decide:∀ds∈B1,∀t∈[(1:Int),2,3,4],∀c∈ZW ds t,(t∈ZX ds c->Bu ds t (gI (ZW ds t) 0))/\(¬t∈ZX ds c->Bu ds t c)) ds h t ht c hc
 refine ⟨fun q c0 h0=>?_,k1.2⟩
 have:=k1.1 q
 rwa [WS (i:=0) h0] at this
theorem On {ds:List Zf} (h:GD ds) {t c:Int} (hc:c∈ZW ds t):t∈[(1:Int),2,3,4]:=by
 obtain ⟨_,h2,_⟩:=h.cons_cases hc
 rcases h2 with rfl|rfl|rfl<;>simp
theorem Zhb {ds:List Zf} (h:GD ds) {t c c0:Int} (hc:c∈ZW ds t) (ht:t∈ZX ds c) (h0:(ZW ds t)[0]? = some c0):Bu ds t c0:=(Z0s h t (On h hc) c hc).1 ht c0 h0
theorem Zha {ds:List Zf} (h:GD ds) {t c:Int} (hc:c∈ZW ds t) (ht:¬t∈ZX ds c):Bu ds t c:=(Z0s h t (On h hc) c hc).2 ht
theorem Zge {ds:List Zf} (h:GD ds) {t:Int} (h0:(ZW ds t).length=0) (ht:0<t):rk t=1:=by
 rw [rk,Z7]
 rintro (q|q|q)
 ·omega
 ·rw [q,h.low.2.1] at h0;cases h0
 ·rw [q,h.low.2.2.2.1] at h0;cases h0
def AH (g:Wc) (t i:Int):Prop:=0<=i/\∃f,g.funcs[i.toNat]? = some f/\0<f.params.length/\Ut g.decls (gI f.params ((f.params.length:Int)-1)) f.result=t
theorem AH.lt {g:Wc} {t i:Int} (h:AH g t i):0<=i/\i<g.funcs.length:=by
 obtain ⟨h1,f,h2,_⟩:=h
 have:=(Xq.1 h2).1
 omega
theorem AH.mk {g:Wc} {t x2:Int} {k:Nat} {f:Func} (hf:g.funcs[k]? = some f) (hl:0<f.params.length) (hx:f.params[f.params.length-1]? = some x2) (ha:Ut g.decls x2 f.result=t):AH g t (k:Int):=by
 refine ⟨by omega,f,by simpa using hf,hl,?_⟩
 rw [WS (i:=(f.params.length:Int)-1) (by rw [show ((f.params.length:Int)-1).toNat=f.params.length-1 by omega];exact hx)]
 exact ha
theorem AH.low {g:Wc} {t i u:Int} {f:Func} {j:Nat} (hg:GP g) (h:AH g t i) (ht:0<t) (hf:g.funcs[i.toNat]? = some f) (hj:j+1<f.params.length) (hu:f.params[j]? = some u):rk u=0:=by
 obtain ⟨_,f',h2,_,h4⟩:=h
 have e:f'=f:=UP (h2.symm.trans hf)
 subst e
 have h5:=(hg.sigs f' (Y0 hf)).clo hg.decls (by rw [h4];exact ht)
 refine Z00 (h5 u ?_)
 rw [List.dropLast_eq_take]
 exact Y0 (i:=j) (by rw [List.getElem?_take_of_lt om];exact hu)
end Go.Abs
section
namespace Go.Abs
theorem Al (b:Nat):bS b=max 4 (10*b-10):=rfl
theorem Ak (b:Nat):bC b=max 40 (100*b-100):=rfl
theorem EL {L q b:Nat} (hL:L<=3) (hb:3<=b) (hq:L*q<=b-1):1+L*bS q<=bS b:=by
 rw [Al,Al]
 have:L=0∨L=1∨L=2∨L=3:=by omega
 rcases this with rfl|rfl|rfl|rfl<;>omega
theorem Zem {L q b:Nat} (hL:L<=3) (hb:3<=b) (hq:L*q<=b-2):5+L*bS q<=bS b:=by
 rw [Al,Al]
 have:L=0∨L=1∨L=2∨L=3:=by omega
 rcases this with rfl|rfl|rfl|rfl<;>omega
theorem Zeb {b:Nat} (hb:3<=b):1+(bS (b / 2)+bS (b / 2))<=bS b:=by rw [Al,Al];omega
theorem Z43 {b:Nat} (hb:3<=b):5+bS (b-2)<=bS b:=by rw [Al,Al];omega
theorem Bc {L q b:Nat} (hL:L<=3) (hb:3<=b) (hq:L*q<=b-1):10+L*bC q<=bC b:=by
 rw [Ak,Ak]
 have:L=0∨L=1∨L=2∨L=3:=by omega
 rcases this with rfl|rfl|rfl|rfl<;>omega
theorem Zel {L q b:Nat} (hL:L<=3) (hb:3<=b) (hq:L*q<=b-2):40+L*bC q<=bC b:=by
 rw [Ak,Ak]
 have:L=0∨L=1∨L=2∨L=3:=by omega
 rcases this with rfl|rfl|rfl|rfl<;>omega
theorem Zea {b:Nat} (hb:3<=b):10+(bC (b / 2)+bC (b / 2))<=bC b:=by rw [Ak,Ak];omega
theorem Z42 {b:Nat} (hb:3<=b):40+bC (b-2)<=bC b:=by rw [Ak,Ak];omega
theorem NK (b:Nat):4<=bS b:=by rw [Al];omega
theorem NJ (b:Nat):40<=bC b:=by rw [Ak];omega
theorem QF (L b:Nat):L*(b / L)<=b:=Nat.mul_div_le b L
theorem S4 {k L C:Nat} (h:k<L):(k+1)*C=k*C+C/\(k+1)*C<=L*C:=⟨by rw [K3,Nat.one_mul],Kh C h⟩
theorem DG {ds:List Zf} {d x:Int} {m k:Nat} (h:(ZW ds d)[k]? = some x):QA ds 8 d m (1+k)=m+(ZX ds x).length:=by
 rw [QA,Z7 om,Ze rfl,Z7 om,WS (i:=((1+k:Nat):Int)-1) (by rw [show (((1+k:Nat):Int)-1).toNat=k by omega];exact h)]
section
variable {g:Wc} {m:Nat}
theorem GE.var {z:Int} {q:Nat} (hz:0<=z/\z<m) (hm:m<=2000) (hq:1<=q):GE g m q (.mk 12 z []):=⟨Z88 hz hm,by simpa [Z1.sz,XC] using hq⟩
theorem GE.list {ys:List Z1} {L s:Nat} (h:∀e∈ys,GE g m s e) (hl:ys.length=L):XC ys<=L*s:=by rw [<-hl];exact G5 fun e he=>(h e he).2
theorem GE.node {op num:Int} {ys:List Z1} {L s q:Nat} (ho:0<=op/\op<=11/\op≠7/\op≠8) (hc:op=9->0<=num/\num<g.funcs.length) (hn:-2000<=num/\num<=2000) (h:∀e∈ys,GE g m s e) (hl:ys.length=L) (hL:L<=3) (hq:1+L*s<=q):GE g m q (.mk op num ys):=by
 have:=GE.list h hl
 exact ⟨Cj ho hc hn om fun e he=>(h e he).1,by rw [Z1.sz];omega⟩
theorem GE.if_ {num:Int} {ys:List Z1} {s q:Nat} (hn:-2000<=num/\num<=2000) (h:∀e∈ys,GE g m s e) (hl:ys.length=3) (hq:1+3*s<=q):GE g m q (.mk 7 num ys):=by
 have:=GE.list h hl
 exact ⟨OR hn hl fun e he=>(h e he).1,by rw [Z1.sz];omega⟩
theorem GE.let_ {a b:Z1} {s q:Nat} (ha:GE g m s a) (hb:GE g (m+1) s b) (hq:1+(s+s)<=q):GE g m q (.mk 13 0 [a,b]):=by
 refine ⟨OS om ha.1 hb.1,?_⟩
 have h1:=ha.2
 have h2:=hb.2
 simp only [Z1.sz,XC];omega
theorem GE.two {op num:Int} {a b:Z1} {s1 s2 q:Nat} (ho:0<=op/\op<=11/\op≠7/\op≠8/\op≠9) (hn:-2000<=num/\num<=2000) (ha:GE g m s1 a) (hb:GE g m s2 b) (hq:1+(s1+s2)<=q):GE g m q (.mk op num [a,b]):=by
 refine ⟨Cj om (fun h=>by omega) hn (by simp) fun e he=>?_,?_⟩
 ·rcases YH.1 he with rfl|he
  ·exact ha.1
  ·rw [XK.1 he];exact hb.1
 ·have h1:=ha.2
  have h2:=hb.2
  simp only [Z1.sz,XC];omega
theorem GE.match_ {d:Int} {e:Z1} {ys:List Z1} {L s q:Nat} (hd:-2000<=d/\d<=2000) (he:GE g m 4 e) (hw:Kr g.decls g.funcs.length (QA g.decls 8 d m) 1 ys) (hs:∀e∈ys,e.sz<=s) (hl:ys.length=L) (hL:L=(ZW g.decls d).length) (h3:L<=3) (hq:5+L*s<=q):GE g m q (.mk 8 d (e::ys)):=by
 refine ⟨IP hd om om he.1 hw,?_⟩
 have h1:=G5 hs
 rw [hl] at h1
 have h2:=he.2
 rw [Z1.sz,XC];omega
end
def NL (s:Nat) (left w:Int):Prop:=((s:Int)<=left/\w=left-s)∨(left<s/\w=-1)
end Go.Abs
namespace Go.Abs
theorem Cx {L b p pp M:Nat} (hL:L<=3) (hb:3<=b) (h:pp<=p+8) (hp:p+(bC b-1)<=M):pp+L*bC ((b-1) / L)<=M:=by
 have:=Bc hL hb (QF L (b-1))
 omega
end Go.Abs
end
namespace Go.Abs
theorem Z8k (a b:Z1):XC [a,b]=a.sz+b.sz:=by simp only [XC];omega
theorem G4 (a b c:Z1):XC [a,b,c]=a.sz+b.sz+c.sz:=by simp only [XC];omega
theorem E7:bS 3=20/\bS 4=30/\bS 12=110/\bS 16=150/\bS 18=170/\bC 3=200/\bC 4=300/\bC 16=1500:=by decide
theorem FC {b:Nat} (h:b<=20):bS b<=190/\bC b<=1900/\(b<=2->bS b<=10):=by rw [Al,Ak];omega
section
variable {g:Wc} {m:Nat}
theorem SE.ofs {op num:Int} {ys:List Z1} {q:Nat} (ho:0<=op/\op<=11/\op≠7/\op≠8/\op≠9) (hn:-2000<=num/\num<=2000) (hl:ys.length<=4) (hy:∀e∈ys,∃s,SE g s e) (hq:1+XC ys<=q):SE g q (.mk op num ys):=
 ⟨fun m=>Cj om (fun h=>by omega) hn hl fun e he=>let ⟨_,h⟩:=hy e he;h.1 m,by rw [Z1.sz];exact hq⟩
theorem SE.nil {op num:Int} {q:Nat} (ho:0<=op/\op<=11/\op≠7/\op≠8/\op≠9) (hn:-2000<=num/\num<=2000) (hq:1<=q):SE g q (.mk op num []):=
 SE.ofs ho hn (by simp) (fun e he=>by cases he) (by simpa [XC] using hq)
theorem SE.two {op num:Int} {a b:Z1} {s1 s2 q:Nat} (ho:0<=op/\op<=11/\op≠7/\op≠8/\op≠9) (hn:-2000<=num/\num<=2000) (ha:SE g s1 a) (hb:SE g s2 b) (hq:1+(s1+s2)<=q):SE g q (.mk op num [a,b]):=by
 refine SE.ofs ho hn (by simp) (fun e he=>?_) ?_
 ·rcases YH.1 he with rfl|he
  ·exact ⟨_,ha⟩
  ·rw [XK.1 he];exact ⟨_,hb⟩
 ·have h1:=ha.2
  have h2:=hb.2
  rw [Z8k];omega
theorem SE.three {op num:Int} {a b c:Z1} {s1 s2 s3 q:Nat} (ho:0<=op/\op<=11/\op≠7/\op≠8/\op≠9) (hn:-2000<=num/\num<=2000) (ha:SE g s1 a) (hb:SE g s2 b) (hc:SE g s3 c) (hq:1+(s1+s2+s3)<=q):SE g q (.mk op num [a,b,c]):=by
 refine SE.ofs ho hn (by simp) (fun e he=>?_) ?_
 ·rcases YH.1 he with rfl|he
  ·exact ⟨_,ha⟩
  ·rcases YH.1 he with rfl|he
   ·exact ⟨_,hb⟩
   ·rw [XK.1 he];exact ⟨_,hc⟩
 ·have h1:=ha.2
  have h2:=hb.2
  have h3:=hc.2
  rw [G4];omega
theorem GE.int {z:Int} {q:Nat} (hz:-2000<=z/\z<=2000) (hq:1<=q):GE g m q (.mk 0 z []):=(SE.int (g:=g) (q:=q) hz hq).ge (YU _)
theorem GE.three {op num:Int} {a b c:Z1} {s1 s2 s3 q:Nat} (ho:0<=op/\op<=11/\op≠8/\op≠9) (hn:-2000<=num/\num<=2000) (ha:GE g m s1 a) (hb:GE g m s2 b) (hc:GE g m s3 c) (hq:1+(s1+s2+s3)<=q):GE g m q (.mk op num [a,b,c]):=by
 have hk:∀e∈[a,b,c],eW g.decls g.funcs.length m e:=fun e he=>by
  rcases YH.1 he with rfl|he
  ·exact ha.1
  ·rcases YH.1 he with rfl|he
   ·exact hb.1
   ·rw [XK.1 he];exact hc.1
 refine ⟨?_,?_⟩
 ·by_cases h7:op=7
  ·subst h7;exact OR hn rfl hk
  ·exact Cj om (fun h=>by omega) hn (by simp) hk
 ·have h1:=ha.2
  have h2:=hb.2
  have h3:=hc.2
  rw [Z1.sz,G4];omega
theorem GE.one {op num:Int} {a:Z1} {s1 q:Nat} (ho:0<=op/\op<=11/\op≠7/\op≠8/\op≠9) (hn:-2000<=num/\num<=2000) (ha:GE g m s1 a) (hq:1+s1<=q):GE g m q (.mk op num [a]):=by
 refine ⟨Cj om (fun h=>by omega) hn (by simp) fun e he=>?_,?_⟩
 ·rw [XK.1 he];exact ha.1
 ·have h1:=ha.2
  simp only [Z1.sz,XC];omega
theorem GE.letS {a b:Z1} {s1 s2 q:Nat} (ha:GE g m s1 a) (hb:GE g (m+1) s2 b) (hq:1+(s1+s2)<=q):GE g m q (.mk 13 0 [a,b]):=by
 refine ⟨OS om ha.1 hb.1,?_⟩
 have h1:=ha.2
 have h2:=hb.2
 simp only [Z1.sz,XC];omega
theorem GE.matchL (hg:GP g) {e a b:Z1} {s1 s2 s3 q:Nat} (he:GE g m s1 e) (ha:GE g m s2 a) (hb:GE g (m+2) s3 b) (hq:1+(s1+s2+s3)<=q):GE g m q (.mk 8 1 [e,a,b]):=by
 have hl:=hg.decls.low
 refine ⟨IP om (by simp) (by rw [hl.2.1];rfl) he.1 ⟨?_,?_,True.intro⟩,?_⟩
 ·rw [DG (k:=0) (x:=0) (by rw [hl.2.1];rfl),hl.2.2.2.2.1];exact ha.1
 ·rw [DG (k:=1) (x:=1) (by rw [hl.2.1];rfl),hl.2.2.2.2.2.1];exact hb.1
 ·have h1:=he.2
  have h2:=ha.2
  have h3:=hb.2
  rw [Z1.sz,G4];omega
theorem GE.matchT (hg:GP g) {e a b:Z1} {s1 s2 s3 q:Nat} (he:GE g m s1 e) (ha:GE g m s2 a) (hb:GE g (m+3) s3 b) (hq:1+(s1+s2+s3)<=q):GE g m q (.mk 8 3 [e,a,b]):=by
 have hl:=hg.decls.low
 refine ⟨IP om (by simp) (by rw [hl.2.2.2.1];rfl) he.1 ⟨?_,?_,True.intro⟩,?_⟩
 ·rw [DG (k:=0) (x:=2) (by rw [hl.2.2.2.1];rfl),hl.2.2.2.2.2.2.1];exact ha.1
 ·rw [DG (k:=1) (x:=3) (by rw [hl.2.2.2.1];rfl),hl.2.2.2.2.2.2.2];exact hb.1
 ·have h1:=he.2
  have h2:=ha.2
  have h3:=hb.2
  rw [Z1.sz,G4];omega
theorem I1 {α:Type} {p:α->Prop} {a:α} (h:p a):∀x∈[a],p x:=fun x hx=>by rw [XK.1 hx];exact h
end
end Go.Abs
