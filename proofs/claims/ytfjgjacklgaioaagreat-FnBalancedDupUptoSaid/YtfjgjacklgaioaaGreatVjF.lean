/-
  A part of the proofs of several laws (see the last file): no condition.
-/
import Derived.Test.YtfjgjacklgaioaaGreatVjE
set_option linter.all false
set_option linter.unusedVariables false
set_option linter.unusedSimpArgs false
set_option linter.unusedSectionVars false
set_option maxRecDepth 10000
set_option maxHeartbeats 4000000
namespace Go.Abs
open Go.Proofs
structure Qj (b:Nat) (w w':World):Prop where
 os:w'.os=w.os
 tape:w'.tape=w.tape
 output:w'.output=w.output
 size:w'.heap.size=w.heap.size
 other:∀c,c≠b->w'.heap[c]? = w.heap[c]?
 row:∀cs e,w.heap[b]? = some (.cells cs e (0,0))->∃cs',w'.heap[b]? = some (.cells cs' e (0,0))/\cs'.size=cs.size
theorem Qj.refl (b:Nat) (w:World):Qj b w w:=⟨rfl,rfl,rfl,rfl,fun _ _=>rfl,fun cs _ h=>⟨cs,h,rfl⟩⟩
theorem Qj.drew {b:Nat} {w w':World} (h:Qj b w w'):Qj b w w'.drew:=⟨h.os,h.tape,h.output,h.size,h.other,h.row⟩
theorem Qj.cell {b:Nat} {w w':World} (h:Qj b w w') (j:Nat) (v:Value):Qj b w (w'.setCell ⟨b,j,none⟩ v):=
 ⟨h.os,h.tape,h.output,by simp [World.setCell];exact h.size,fun c hc=>(heap_setCell_other w' ⟨b,j,none⟩ c v hc).trans (h.other c hc),fun cs e hb=>by
  obtain ⟨cs',h1,h2⟩:=h.row cs e hb
  exact ⟨_,heap_setCell_same w' b j cs' e v h1,by simpa using h2⟩⟩
theorem Qj.cells {b:Nat} {w:World}:∀(vs:List Value) (o:Nat) (w':World),Qj b w w'->Qj b w (w'.setCells b o vs)
 | [],_,_,h=>h
 | v::r,o,w',h=>Qj.cells r (o+1) _ (h.cell o v)
theorem LS {w:World} {G:Ye}:∀ys:LI,YV w G (Z7 ys) (ys.map (fun z=>Value.int .i64 z))
 | []=>.nil
 | _::r=>.cons .val (LS r)
theorem Pt {w:World} {G:Ye}:∀{ys:LI} {vs:List Value},YV w G (Z7 ys) vs->vs=ys.map (fun z=>Value.int .i64 z)
 | [],_,.nil=>rfl
 | _::r,_,.cons h t=>by rw [UG,<-Pt (ys:=r) t,h.val_inv]
theorem Z0v {cs:Array Value} {ys:LI} (h:∀(j:Nat) z,ys[j]? = some z->cs[j]? = some (Value.int .i64 z)):cs.toList.take ys.length=ys.map (fun z=>Value.int .i64 z):=by
 apply List.ext_getElem?
 intro j
 rw [Q0]
 split
 ·rename_i hj
  have hx:=QU hj
  have:=h j _ hx
  rw [Dt,this,Tl,hx]
  rfl
 ·rename_i hj
  simp [MK (Nat.le_of_not_lt hj)]
theorem Si {w w':World} {G:Ye} {g len cap len':Nat} {ls:List AV} {ys:LI} {r:List Res} (hh:Yu w G (.row (.slice (some ⟨g,0,none⟩) len cap) 1 ls::r)) (hw:Qj g w w') (hlen:ys.length=len') (hle:len'<=cap)
  (hc:∀(j:Nat) z,ys[j]? = some z->w'.cell? ⟨g,j,none⟩=some (Value.int .i64 z)) :
  Yu w' G [.row (.slice (some ⟨g,0,none⟩) len' cap) 1 (Z7 ys)]/\YX w G (.row (.slice (some ⟨g,0,none⟩) len cap) 1 ls::r) w' G [.row (.slice (some ⟨g,0,none⟩) len' cap) 1 (Z7 ys)]:=by
 have hmem:Res.row (.slice (some ⟨g,0,none⟩) len cap) 1 ls∈Res.row (.slice (some ⟨g,0,none⟩) len cap) 1 ls::r:=Xs ..
 rcases hh.ok _ hmem with ⟨e,_⟩|⟨g',len2,cap2,cur,el,e,h1,h2,h3,h4,h5⟩
 ·cases e
 ·cases e
  obtain ⟨cs',k1,k2⟩:=hw.row cur el h1
  have hcell:∀j,w'.cell? ⟨g,j,none⟩=cs'[j]?:=fun j=>cell_of_row w' g j cs' el (0,0) k1
  refine ⟨⟨fun q hq=>?_,BJ _ _,fun q hq c j hf hg=>?_,fun c j hg=>?_⟩,
   ⟨hw.os,hw.tape,hw.output,by rw [hw.size];exact X7 _,fun _ _ h=>h,fun c _=>?_,fun _ _ _ h=>.inl h,fun c j _ ⟨q,hq,hf⟩=>?_⟩⟩
  ·rw [XI.1 hq]
   refine .inr ⟨g,len',cap,cs',el,rfl,k1,hle,k2.trans h3,by simp [hlen],?_⟩
   rw [QW,<-hlen,Z0v fun j z hz=>by rw [<-hcell];exact hc j z hz]
   exact LS ys
  ·rw [XI.1 hq] at hf
   exact hh.prot _ hmem c j hf hg
  ·rw [hw.size];exact hh.lt c j hg
  ·by_cases hcg:c=g
   ·subst hcg
    exact .inr ⟨cur,cs',el,(0,0),h1,k1,k2,fun o hn=>absurd ⟨_,hmem,rfl⟩ hn⟩
   ·exact .inl (hw.other c hcg)
  ·rw [XI.1 hq] at hf
   exact ⟨_,hmem,hf⟩
theorem Sh {w w':World} {G:Ye} {cap len':Nat} {h:List Res} {ys:LI} {cs':Array Value} {el:TypeId} (hh:Yu w G h) (os:w'.os=w.os) (tape:w'.tape=w.tape) (output:w'.output=w.output)
  (Xr:w'.heap.size=w.heap.size+1) (hoth:∀c,c<w.heap.size->w'.heap[c]? = w.heap[c]?) (hb:w'.heap[w.heap.size]? = some (.cells cs' el (0,0))) (hcap:cs'.size=cap) (hlen:ys.length=len') (hle:len'<=cap)
  (hc:∀(j:Nat) z,ys[j]? = some z->w'.cell? ⟨w.heap.size,j,none⟩=some (Value.int .i64 z)) :
  Yu w' G [.row (.slice (some ⟨w.heap.size,0,none⟩) len' cap) 1 (Z7 ys)]/\YX w G h w' G [.row (.slice (some ⟨w.heap.size,0,none⟩) len' cap) 1 (Z7 ys)]:=by
 have hcell:∀j,w'.cell? ⟨w.heap.size,j,none⟩=cs'[j]?:=fun j=>cell_of_row w' _ j cs' el (0,0) hb
 refine ⟨⟨fun q hq=>?_,BJ _ _,fun q hq c j hf hg=>?_,fun c j hg=>?_⟩,
  ⟨os,tape,output,by omega,fun _ _ h=>h,fun c hcl=>.inl (hoth c hcl),fun _ _ _ h=>.inl h,fun c j hcl ⟨q,hq,hf⟩=>?_⟩⟩
 ·rw [XI.1 hq]
  refine .inr ⟨_,len',cap,cs',el,rfl,hb,hle,by rw [hcap,QW],by simp [hlen],?_⟩
  rw [QW,<-hlen,Z0v fun j z hz=>by rw [<-hcell];exact hc j z hz]
  exact LS ys
 ·rw [XI.1 hq] at hf
  have:c=w.heap.size:=hf
  have:=hh.lt c j hg
  omega
 ·have:=hh.lt c j hg;omega
 ·rw [XI.1 hq] at hf
  have:c=w.heap.size:=hf
  omega
def TH (xs:LI) (p:Nat) (v:Int):LI:=xs.take p++v::xs.drop p
theorem D0 (xs:LI) (p:Nat) (v:Int) (hp:p<=xs.length):(TH xs p v).length=xs.length+1:=by simp [TH];omega
theorem Zac {xs:LI} {p j:Nat} {v:Int} (h:j<p) (hp:p<=xs.length):(TH xs p v)[j]? = xs[j]?:=by
 rw [TH,Cr (by simp;omega),Q0,Zd h]
theorem Zaa {xs:LI} {p:Nat} {v:Int} (hp:p<=xs.length):(TH xs p v)[p]? = some v:=by
 rw [TH,Dw (by simp;omega),WB,VV hp,Nat.sub_self];rfl
theorem Zab {xs:LI} {p j:Nat} {v:Int} (hp:p<=xs.length):(TH xs p v)[p+1+j]? = xs[p+j]?:=by
 rw [TH,Dw (by simp;omega),WB,VV hp,show p+1+j-p=j+1 by omega,List.getElem?_cons_succ,BF]
theorem L4 {xs:LI} {p j:Nat} {v z:Int} (hp:p<=xs.length) (h:(TH xs p v)[j]? = some z):(j<p/\xs[j]? = some z)∨(j=p/\z=v)∨∃i,j=p+1+i/\xs[p+i]? = some z:=by
 rcases Nat.lt_trichotomy j p with hj|hj|hj
 ·rw [Zac hj hp] at h;exact .inl ⟨hj,h⟩
 ·subst hj;rw [Zaa hp] at h;exact .inr (.inl ⟨rfl,(Qh h).symm⟩)
 ·obtain ⟨i,rfl⟩:∃i,j=p+1+i:=⟨j-(p+1),by omega⟩
  rw [Zab hp] at h;exact .inr (.inr ⟨i,rfl,h⟩)
theorem Zhq {xs:LI} {j:Nat} {u:Value} (h:(xs.map (fun z=>Value.int .i64 z))[j]? = some u):∃z,xs[j]? = some z/\u=.int .i64 z:=by
 rw [Tl] at h
 cases hx:xs[j]? with
 | none=>rw [hx] at h;cases h
 | some z=>rw [hx] at h;exact ⟨z,rfl,(Qh h).symm⟩
theorem Iw:∀xs:LI,Zp (Z7 xs)=Z7 xs
 | []=>rfl
 | x::r=>Yp (AV.i x::·) (Iw r)
theorem Ga {w w':World} {G:Ye} {h:List Res} {u:Value} {ys:LI} (h1:Yu w' G [.row u 1 (Z7 ys)]) (h2:YX w G h w' G [.row u 1 (Z7 ys)]) :
  ∃G',RV w' G' (ZQ ys u) u/\Yu w' G' [.tail u 1]/\YX w G h w' G' [.tail u 1]:=by
 have hf:Zp (Z7 ys)=Z7 ys:=Iw ys
 rw [<-hf] at h1 h2
 obtain ⟨G',a,b,c⟩:=Ch h1 (YC ys) om
 exact ⟨G',c,a,h2.trans b⟩
theorem Z2b (w:World) (o:Obj):(w.drew.alloc o).heap.size=w.heap.size+1:=Array.size_push ..
theorem Pq {w:World} {G:Ye} {h:List Res} {ys:LI} {len' K:Nat} (hh:Yu w G h) (cs':Array Value) (Xr:cs'.size=K) (hlen:ys.length=len') (hle:len'<=K)
  (hc:∀(j:Nat) z,ys[j]? = some z->cs'[j]? = some (Value.int .i64 z)) :
  ∃G',RV (w.drew.alloc (.cells cs' 3)) G' (ZQ ys (.slice (some ⟨w.heap.size,0,none⟩) len' K)) (.slice (some ⟨w.heap.size,0,none⟩) len' K)/\Yu (w.drew.alloc (.cells cs' 3)) G' [.tail (.slice (some ⟨w.heap.size,0,none⟩) len' K) 1] /\
   YX w G h (w.drew.alloc (.cells cs' 3)) G' [.tail (.slice (some ⟨w.heap.size,0,none⟩) len' K) 1]:=by
 have hN:(w.drew.alloc (.cells cs' 3)).heap[w.heap.size]? = some (.cells cs' 3 (0,0)):=CW w.drew _
 obtain ⟨k1,k2⟩:=Sh (w':=w.drew.alloc (.cells cs' 3)) hh rfl rfl rfl (Z2b w _) (fun c hc=>JY w.drew _ hc) hN Xr hlen hle (fun j z hz=>by
  rw [cell_of_row _ _ j _ 3 (0,0) hN];exact hc j z hz)
 exact Ga k1 k2
theorem Zal (g hv:Hd) (xs:LI) (p:Nat) (v:Int) (hp:p<=xs.length) (hl:xs.length<=1000000000):WR Tryz.prog 131 [.h g,.i p,ZQ [v] hv.v] [.row g.v 1 (Z7 xs),.tail hv.v 1] (fun r h=>∃u:Value,r=ZQ (TH xs p v) u/\h=[.tail u 1]):=by
 intro w G vs ha hh
 obtain ⟨gv,rfl,pv,rfl,sv,rfl,ra⟩:∃gv,gv=g.v/\∃pv,pv=Value.int .i64 p/\∃sv,sv=hv.v/\vs=[gv,pv,sv]/\RV w G (ZQ [v] hv.v) sv:=by
  cases ha with
  | cons h1 t=>cases t with
   | cons h2 t=>cases t with
    | cons h3 t=>
     cases t
     exact ⟨_,h1.val_inv,_,h2.val_inv,_,h3.header,rfl,h3⟩
 obtain ⟨rfl,hsl⟩:=ra
 have hpw:=WZ.1 hh.apart
 have hmr:Res.row g.v 1 (Z7 xs)∈[Res.row g.v 1 (Z7 xs),.tail hv.v 1]:=Xs ..
 have hmt:Res.tail hv.v 1∈[Res.row g.v 1 (Z7 xs),.tail hv.v 1]:=XL _ (XI.2 rfl)
 obtain ⟨hxa,hlx,hcx⟩:=hv
 obtain ⟨vb,vcur,vel,e1,hv1,hv2,hvd⟩:∃vb vcur vel,Hd.v ⟨hxa,hlx,hcx⟩=.slice (some ⟨vb,0,none⟩) 1 hcx/\w.heap[vb]? = some (.cells vcur vel (0,0))/\vcur[0]? = some (Value.int .i64 v)/\∀gb len cap,g.v=.slice (some ⟨gb,0,none⟩) len cap->vb≠gb:=by
  cases hsl with
  | sl hq hc hm=>
   rename_i b o k
   rcases hh.ok _ hmt with e|⟨g2,len,cap,cur,el,e,t1,t2,t3⟩
   ·cases e
   ·cases e
    refine ⟨b,cur,el,rfl,t1,?_,fun gb len cap he hb=>?_⟩
    ·cases hm with
     | cons hlk hm2 _=>cases hm2 with
      | cons hcell _ hrv _=>
       have:=hrv.val_inv
       subst this
       rw [<-cell_of_row w b 0 cur el (0,0) t1]
       exact hcell
    ·refine hpw.1 _ (XI.2 rfl) b 1 ?_ ⟨rfl,by simp⟩
     rw [he]
     exact hb
 have hvs:∀(j:Nat) u,[Value.int .i64 v][j]? = some u->w.cell? ⟨vb,0+j,none⟩=some u:=by
  intro j u hj
  cases j with
  | zero=>simp only [List.getElem?_cons_zero] at hj;rw [cell_of_row w vb _ vcur vel (0,0) hv1];exact hv2.trans hj
  | succ j=>simp at hj
 have h1v:∀u∈[Value.int .i64 v],u.oneCell'=true:=fun u hu=>by rw [XI.1 hu];rfl
 have hgc:∀w2 j,grownCap w2 (xs.length+1) j 3>=xs.length+1:=fun w2 j=>grownCap_ge w2 _ _ _
 have hh2:=hh
 rw [e1] at hh2 ⊢
 rcases hh.ok _ hmr with ⟨e,h0⟩|⟨gb,len,cap,cur,el,e,h1,h2,h3,h4,h5⟩
 ·
  have hx0:xs=[]:=by cases xs with|nil=>rfl|cons _ _=>simp [Z7] at h0
  subst hx0
  have hp0:p=0:=by simpa using hp
  subst hp0
  rw [e]
  have hg:∀w2 j,grownCap w2 (0+1) j 3>=0+1:=fun w2 j=>grownCap_ge w2 _ _ _
  refine (Pp none 0 0 vb 0 1 hcx [] [.int .i64 v] w om om om om rfl rfl (fun _=>rfl) (fun a ha=>by cases ha) hvs h1v).mono ?_
  rintro e w' ⟨rfl,rfl⟩
  have hg0:=hg w 0
  revert hg0
  generalize grownCap w (0+1) 0 3=K
  intro hg0
  rw [e] at hh2
  obtain ⟨G',r1,r2,r3⟩:=Pq (ys:=[v]) hh2 (([]++[Value.int .i64 v]).toArray++Builtin.zeroCells (Value.int .i64 0).cells (K-(0+1))) (by simp [Builtin.zeroCells,Value.cells];omega) rfl hg0 (fun j z hz=>by
    cases j with
    | zero=>simp only [List.getElem?_cons_zero] at hz;cases hz;rw [Hl (by simp)];rfl
    | succ j=>simp at hz)
  exact ⟨_,_,_,G',rfl,⟨_,rfl,rfl⟩,r1,r2,r3⟩
 ·have hlx2:len=xs.length:=by rw [Yf] at h4;omega
  subst hlx2
  rw [QW] at h3 h5
  have hcur:cur.toList.take xs.length=xs.map (fun z=>Value.int .i64 z):=Pt h5
  have hcell:∀j z,xs[j]? = some z->w.cell? ⟨gb,j,none⟩=some (Value.int .i64 z):=by
   intro j z hz
   rw [cell_of_row w gb j cur el (0,0) h1]
   have hj:j<xs.length:=(Xq.1 hz).1
   have h6:(cur.toList.take xs.length)[j]? = some (Value.int .i64 z):=by rw [hcur,Tl,hz];rfl
   rw [Q0,Zd hj,Dt] at h6
   exact h6
  have hcs:∀(j:Nat) u,(xs.map (fun z=>Value.int .i64 z))[j]? = some u->w.cell? ⟨gb,0+j,none⟩=some u:=by
   intro j u hj
   obtain ⟨z,hz,rfl⟩:=Zhq hj
   rw [Vu]
   exact hcell j z hz
  have h1c:∀u∈xs.map (fun z=>Value.int .i64 z),u.oneCell'=true:=fun u hu=>by obtain ⟨z,_,rfl⟩:=Wf.1 hu;rfl
  have hne:=hvd gb xs.length cap e
  have hsome:∀j,j<cap->(w.cell? ⟨gb,j,none⟩).isSome=true:=fun j hj=>by rw [cell_of_row w gb j cur el (0,0) h1,Array.getElem?_eq_getElem om];rfl
  have hfz:∀j,w.frozen? ⟨gb,j,none⟩=false:=fun j=>frozen_of_row w gb j cur el h1
  rw [e] at hh2 ⊢
  by_cases hroom:xs.length+1<=cap
  ·have FX:xs.length+1<=9223372036854775807:=by omega
   by_cases hpn:p=xs.length
   ·subst hpn
    refine (Zaj gb 0 xs.length cap vb 0 1 hcx [.int .i64 v] w om hroom FX rfl (fun j hj=>hsome _ om) (fun j _=>hfz _) hvs h1v).mono ?_
    rintro e w' ⟨rfl,rfl⟩
    have hin:=World.cell?_setCells_in gb [.int .i64 v] (0+xs.length) w (fun j hj=>hsome _ (by simp at hj;omega))
    obtain ⟨k1,k2⟩:=Si (ys:=TH xs xs.length v) hh2 ((Qj.refl gb w).cells _ _ _) (D0 xs _ v (X7 _)) hroom (fun j z hz=>by
     rcases L4 (X7 _) hz with ⟨h,h'⟩|⟨rfl,rfl⟩|⟨i,rfl,h'⟩
     ·rw [World.cell?_setCells_out gb _ _ _ _ fun _ _=>.inl (by show j<0+xs.length;omega)];exact hcell j z h'
     ·have:=hin 0 (by simp);simpa using this
     ·have:=(Xq.1 h').1;omega)
    obtain ⟨G',r1,r2,r3⟩:=Ga k1 k2
    exact ⟨_,_,_,G',rfl,⟨_,rfl,rfl⟩,r1,r2,r3⟩
   ·have hpl:p<xs.length:=by omega
    refine (Zan gb 0 xs.length cap p vb 0 1 hcx (xs.map (fun z=>Value.int .i64 z)) [.int .i64 v] w hpl om hroom FX hne (by simp) rfl hcs (fun j hj=>hsome _ om) (fun j _=>hfz _) hvs h1c h1v vel el vcur.size cur.size
     (by simp [World.shape?,hv1]) (by simp [World.shape?,h1]) om (frozen_of_row w vb _ vcur vel hv1) (frozen_of_row w vb _ vcur vel hv1)).mono ?_
    rintro e w' ⟨rfl,rfl⟩
    have hW:=(Qj.refl gb w).drew.cells ((xs.map (fun z=>Value.int .i64 z)).drop p) (0+(p+1)) _
    have hin1:=World.cell?_setCells_in gb ((xs.map (fun z=>Value.int .i64 z)).drop p) (0+(p+1)) w.drew (fun j hj=>by simp at hj;exact hsome _ om)
    have hs2:∀j,j<cap->((w.drew.setCells gb (0+(p+1)) ((xs.map (fun z=>Value.int .i64 z)).drop p)).cell? ⟨gb,j,none⟩).isSome=true:=fun j hj=>Gd gb _ _ _ (fun i hi=>by simp at hi;exact hsome _ om) j (hsome j hj)
    have hin2:=World.cell?_setCells_in gb [.int .i64 v] (0+p) _ (fun j hj=>hs2 _ (by simp at hj;omega))
    obtain ⟨k1,k2⟩:=Si (ys:=TH xs p v) hh2 (hW.cells [.int .i64 v] (0+p) _) (D0 xs _ v hp) hroom (fun j z hz=>by
     rcases L4 hp hz with ⟨h,h'⟩|⟨rfl,rfl⟩|⟨i,rfl,h'⟩
     ·rw [World.cell?_setCells_out gb _ _ _ _ fun _ _=>.inl (by show j<0+p;omega),World.cell?_setCells_out gb _ _ _ _ fun _ _=>.inl (by show j<0+(p+1);omega)];exact hcell j z h'
     ·have:=hin2 0 (by simp);simpa using this
     ·have hi:=(Xq.1 h').1
      rw [World.cell?_setCells_out gb _ _ _ _ fun _ _=>.inr (by show 0+p+1<=p+1+i;omega)]
      have h7:=hin1 i (by simp;omega)
      rw [show 0+(p+1)+i=p+1+i by omega] at h7
      rw [h7]
      have h8:((xs.map (fun z=>Value.int .i64 z)).drop p)[i]? = some (Value.int .i64 z):=by rw [BF,Tl,h'];rfl
      rw [<-h8]
      exact (QU _).symm)
    obtain ⟨G',r1,r2,r3⟩:=Ga k1 k2
    exact ⟨_,_,_,G',rfl,⟨_,rfl,rfl⟩,r1,r2,r3⟩
  ·by_cases hpn:p=xs.length
   ·subst hpn
    refine (Pp (some ⟨gb,0,none⟩) xs.length cap vb 0 1 hcx (xs.map (fun z=>Value.int .i64 z)) [.int .i64 v] w om h2 om om (by simp) rfl (fun h=>by cases h) (fun a ha j u hj=>by cases ha;rw [Addr.add_lit];exact hcs j u hj) hvs h1v).mono ?_
    rintro e w' ⟨rfl,rfl⟩
    have hg0:=hgc w cap
    revert hg0
    generalize grownCap w (xs.length+1) cap 3=K
    intro hg0
    obtain ⟨G',r1,r2,r3⟩:=Pq (ys:=TH xs xs.length v) hh2 ((xs.map (fun z=>Value.int .i64 z)++[Value.int .i64 v]).toArray++Builtin.zeroCells (Value.int .i64 0).cells (K-(xs.length+1))) (by simp [Builtin.zeroCells,Value.cells];omega) (D0 xs _ v (X7 _)) hg0 (fun j z hz=>by
      rw [Hl (by have:=(Xq.1 hz).1;rw [D0 xs _ v (X7 _)] at this;simp;omega)]
      have h9:TH xs xs.length v=xs++[v]:=by simp [TH]
      rw [h9] at hz
      rw [List.getElem?_toArray,show xs.map (fun z=>Value.int .i64 z)++[Value.int .i64 v]=(xs++[v]).map (fun z=>Value.int .i64 z) by simp,Tl,hz]
      rfl)
    exact ⟨_,_,_,G',rfl,⟨_,rfl,rfl⟩,r1,r2,r3⟩
   ·have hpl:p<xs.length:=by omega
    refine (Zak gb 0 xs.length cap p vb 0 1 hcx (xs.map (fun z=>Value.int .i64 z)) [.int .i64 v] w hpl om h2 om om (by simp) rfl hcs hvs h1c h1v).mono ?_
    rintro e w' ⟨rfl,rfl⟩
    have hg0:=hgc w cap
    revert hg0
    generalize grownCap w (xs.length+1) cap 3=K
    intro hg0
    generalize hA:((xs.map (fun z=>Value.int .i64 z)).take p).toArray++Builtin.zeroCells (Value.int .i64 0).cells (xs.length+1-p)++Builtin.zeroCells (Value.int .i64 0).cells (K-(xs.length+1))=A
    have hAs:A.size=K:=by subst hA;simp [Builtin.zeroCells,Value.cells];omega
    have hAg:∀(j:Nat) z,j<p->xs[j]? = some z->A[j]? = some (Value.int .i64 z):=by
     intro j z hj hz
     subst hA
     rw [Hl (by simp [Builtin.zeroCells,Value.cells];omega),Hl (by simp;omega),List.getElem?_toArray,Q0,Zd hj,Tl,hz]
     rfl
    have hN0:(w.alloc (.cells A 3)).heap[w.heap.size]? = some (.cells A 3 (0,0)):=CW w _
    have hc0:∀j,(w.alloc (.cells A 3)).cell? ⟨w.heap.size,j,none⟩=A[j]?:=fun j=>cell_of_row _ _ j A 3 (0,0) hN0
    have hsm:∀j,j<K->((w.alloc (.cells A 3)).cell? ⟨w.heap.size,j,none⟩).isSome=true:=fun j hj=>by rw [hc0,Array.getElem?_eq_getElem om];rfl
    have hW:=((Qj.refl w.heap.size (w.alloc (.cells A 3))).drew.cells [.int .i64 v] p _).drew.cells ((xs.map (fun z=>Value.int .i64 z)).drop p) (p+1) _
    have hin1:=World.cell?_setCells_in w.heap.size [.int .i64 v] p (w.alloc (.cells A 3)).drew (fun j hj=>hsm _ (by simp at hj;omega))
    have hs2:∀j,j<K->(((w.alloc (.cells A 3)).drew.setCells w.heap.size p [.int .i64 v]).drew.cell? ⟨w.heap.size,j,none⟩).isSome=true:=fun j hj=>Gd w.heap.size _ _ _ (fun i hi=>by simp at hi;exact hsm _ om) j (hsm j hj)
    have hin2:=World.cell?_setCells_in w.heap.size ((xs.map (fun z=>Value.int .i64 z)).drop p) (p+1) _ (fun j hj=>hs2 _ (by simp at hj;omega))
    obtain ⟨cs',q1,q2⟩:=hW.row A 3 hN0
    obtain ⟨k1,k2⟩:=Sh (cap:=K) (len':=xs.length+1) (ys:=TH xs p v) hh2 hW.os hW.tape hW.output (hW.size.trans (Array.size_push ..)) (fun c hc=>(hW.other c om).trans (JY w _ hc)) q1 (q2.trans hAs) (D0 xs p v hp) hg0 (fun j z hz=>by
     rcases L4 hp hz with ⟨h,h'⟩|⟨rfl,rfl⟩|⟨i,rfl,h'⟩
     ·rw [World.cell?_setCells_out w.heap.size _ _ _ _ fun _ _=>.inl (by show j<p+1;omega)]
      show ((w.alloc (.cells A 3)).drew.setCells w.heap.size p [.int .i64 v]).cell? _=_
      rw [World.cell?_setCells_out w.heap.size _ _ _ _ fun _ _=>.inl (by show j<p;omega)]
      exact (hc0 j).trans (hAg j z h h')
     ·rw [World.cell?_setCells_out w.heap.size _ _ _ _ fun _ _=>.inl (by show j<j+1;omega)]
      have:=hin1 0 (by simp)
      simpa using this
     ·have hi:=(Xq.1 h').1
      have h7:=hin2 i (by simp;omega)
      rw [h7]
      have h8:((xs.map (fun z=>Value.int .i64 z)).drop p)[i]? = some (Value.int .i64 z):=by rw [BF,Tl,h'];rfl
      rw [<-h8]
      exact (QU _).symm)
    obtain ⟨G',r1,r2,r3⟩:=Ga k1 k2
    exact ⟨_,_,_,G',rfl,⟨_,rfl,rfl⟩,r1,r2,r3⟩
end Go.Abs
section
namespace Go.Abs
section
variable {P:Program} {n:Nat} {ops:Array Oper} {B:Fr->List Res->Prop} {k:Nat} {F:Fr} {h:List Res}
def Fk (P:Program) (ops:Array Oper) (F:Fr) (k:Nat):Option (IntKind × Int):=
 match (ZA ops k).op with
 | .convert s d x=>match P.underlying s,P.underlying d,F.ev x with
  | some (.int _),some (.int q),.val (.int _ z)=>some (q,z)
  | _,_,_=>none
 | _=>none
theorem PA (q:IntKind) (z z':Int) (e:q.wrap z=z') (hc:Fk P ops F k=some (q,z):=by kernel_rfl):XD P (ZA ops k) F h [] (.val (.int q z')):=by
 unfold Fk at hc
 generalize hoo:ZA ops k=o at hc
 obtain ⟨dst,op,type,pos,after,guard⟩:=o
 cases op<;>simp only at hc<;>try (cases hc)
 rename_i s d x
 split at hc
 ·rename_i q1 q2 q3 z2 h1 h2 h3
  cases hc
  intro n w G ac hF hh
  have v1:=hF.ev x
  rw [h3] at v1
  have v1:=v1.val_inv
  refine ⟨_,.val,fun w' _ _=>?_⟩
  simp only [execOp,v1]
  refine Vj ?_
  simp [convert,VD h1,VD h2,Conv.intToInt,e]
 ·cases hc
def SH (ops:Array Oper) (F:Fr) (k:Nat):Option Int:=
 match (ZA ops k).op with
 | .binOp .shr _ x y _=>match F.ev x,F.ev y with
  | .val (.int .u64 z),.val (.int _ 1)=>some z
  | _,_=>none
 | _=>none
theorem Zay (n:Nat) (hc:SH ops F k=some (n:Int):=by kernel_rfl):XD P (ZA ops k) F h [] (.val (.int .u64 ((n / 2:Nat):Int))):=by
 unfold SH at hc
 generalize hoo:ZA ops k=o at hc
 obtain ⟨dst,op,type,pos,after,guard⟩:=o
 cases op<;>simp only at hc<;>try (cases hc)
 rename_i bop t x y yt
 cases bop<;>simp only at hc<;>try (cases hc)
 split at hc
 ·rename_i z yk h1 h2
  cases hc
  intro n' w G ac hF hh
  have v1:=hF.ev x
  have v2:=hF.ev y
  rw [h1] at v1
  rw [h2] at v2
  have v1:=v1.val_inv
  have v2:=v2.val_inv
  refine ⟨_,.val,fun w' _ _=>?_⟩
  simp only [execOp,v1,v2]
  refine Vj ?_
  have e:(n:Int).fdiv 2=((n / 2:Nat):Int):=by rw [Int.fdiv_eq_ediv_of_nonneg _ om];omega
  simp [eqGuard,binOp,Op.shift,IntKind.bits,e]
 ·cases hc
theorem Zb0 (n:Nat) (hn:n<=9223372036854775807) (hc:Fk P ops F k=some (.u64,(n:Int)):=by kernel_rfl):XD P (ZA ops k) F h [] (.val (.int .u64 (n:Int))):=
 PA .u64 _ _ (by simp [IntKind.wrap,IntKind.signed,IntKind.bits];omega) hc
theorem Zaz (n:Nat) (hn:n<=9223372036854775807) (hc:Fk P ops F k=some (.i64,(n:Int)):=by kernel_rfl):XD P (ZA ops k) F h [] (.i n):=
 PA .i64 _ _ (IntWalk.i64_in _ om) hc
end
open Go.Proofs in
theorem Zam (g:Hd) (u:Value) (xs:LI) (p:Nat) (v:Int) (hp:p<=xs.length) (hl:xs.length<=1000000000):WR Tryz.prog 131 [.h g,.i p,ZQ [v] u] [.row g.v 1 (Zp (Z7 xs)),.tail u 1] (fun r h=>∃w:Value,r=ZQ (TH xs p v) w/\h=[.tail w 1]):=by
 intro w G vs ha hh
 rw [Iw] at hh ⊢
 have hu:∃hv:Hd,u=hv.v:=by
  rcases hh.ok (.tail u 1) (by simp) with rfl|⟨g,len,cap,cur,e,rfl,_⟩
  ·exact ⟨⟨none,0,0⟩,rfl⟩
  ·exact ⟨⟨_,len,cap⟩,rfl⟩
 obtain ⟨hv,rfl⟩:=hu
 exact Zal g hv xs p v hp hl w G vs ha hh
theorem Zad {xs:LI} {p:Nat} {v:Int}:∀x,x∈TH xs p v↔x∈xs∨x=v:=by
 intro x
 have h:=UH p xs
 constructor
 ·intro hx
  rcases Xd.1 hx with hx|hx
  ·exact .inl (Q1 hx)
  ·rcases YD.1 hx with rfl|hx
   ·exact .inr rfl
   ·exact .inl (List.mem_of_mem_drop hx)
 ·rintro (hx|rfl)
  ·rw [<-h] at hx
   rcases Xd.1 hx with hx|hx
   ·exact Xd.2 (.inl hx)
   ·exact Xd.2 (.inr (XL _ hx))
  ·exact Xd.2 (.inr (Xs ..))
end Go.Abs
end
namespace Go.Abs
open Go.Proofs
theorem Z42 (x:Int) :Zk 229 [.i x] [] (Ys (.b false)):=by
 exact ZF 6 Tryz.func229 (ZE (ar (Zr (Y4 (.b (x != x)) (lb (by simp))))))
theorem Zf3 (x:Int) :Zk 185 [.i x] [] (Ys (.b false)):=by
 exact ZF 6 Tryz.func185 (ZE (ar (Zr (Y4 (.b (x != x)) (lb (by simp))))))
theorem Z41 (x:Int) (y:Int) :Zk 184 [.i x,.i y] [] (Ys (.b (decide (x<y)))):=by
 exact ZF 17 Tryz.func184 (ZE (Ya 1 (Zz [] (Z42 x) (Zr (Dr)))))
theorem Z3h (xs:LI) (v:Int) (hl:xs.length<=1000000000:=by exact ob):Zk 130 [Z5 xs,.i v] [] (fun r h=>∃(q:Nat) (f:Bool),r=.tup [.i q,.b f]/\h=[]/\(q<=xs.length/\(f=true->v∈xs))):=by
 refine ZF 54 Tryz.func130 (ZE (Ya 1 (iw (Yf xs) (Z0 (ZE (aq (ab 0 (Y6 (fun fz gz m F h=>∃(lo:Nat) (hi:Nat),(lo<=hi)/\(hi<=xs.length)/\F=sF [0,1,6] fz [(7,.i lo),(8,.i hi)]/\h=gz/\m=hi-lo) _ _ _ ⟨0,xs.length,ob,ob,rfl,rfl,rfl⟩ (wk [] (Yd fl)) ?_))))))))
 rintro m F h ⟨lo,hi,Yj,Zl,rfl,rfl,rfl⟩
 refine X9 (Y5 ((lo:Int)<(hi:Int)) (fun Za=>?_) (fun Za=>?_))
 ·refine ak (ab 1 (Ya 2 (ia (((lo+hi:Nat):Int)) (((lo:Int))+((hi:Int))) (Zo (Zb0 (lo+hi) om) (Zo (Zay (lo+hi)) (Zo (Zaz ((lo+hi) / 2) om) (Z0 (Ya 2 ?_))))))))
  obtain ⟨x1,Z3⟩:=Zs xs ((lo+hi) / 2) om
  refine Zo (Zj none (((lo+hi) / 2:Nat):Int) 1 (Y3 Z3)) (Z2 2 (Zz [] (Z41 x1 v) (ie (W9 (x1<v) (fun Zg=>?_) (fun Zg=>?_)))))
  ·exact az (Z2 1 (ia ((((lo+hi) / 2+1:Nat):Int)) (((((lo+hi) / 2:Nat):Int))+(1)) (Z0 (ZK ⟨(lo+hi) / 2+1,hi,ob,ob,rfl,rfl,rfl⟩ (wk [] (fc (x:=.i (((lo+hi) / 2+1:Nat):Int)) li fl))))))
  exact Td (ZK ⟨lo,(lo+hi) / 2,ob,ob,rfl,rfl,rfl⟩ (wk [] (fr (fc (x:=.i (((lo+hi) / 2:Nat):Int)) li fl))))
 refine ax 0 (Ya 5 (ib (b:=(decide ((lo:Int)<(xs.length:Int)))) 35 (fun Zb=>?_) (fun Zb=>?_)))
 ·have ZX:(lo:Int)<(xs.length:Int):=(dq).1 Zb
  refine Z2 2 ?_
  obtain ⟨x2,Zx⟩:=Zs xs lo om
  refine Zo (Zj none (lo:Int) 1 (Y3 Zx)) (Z2 4 (ib (b:=(x2==v)) 42 (fun ZB=>?_) (fun ZB=>?_)))
  ·have Yk:x2=v:=(Zq).1 ZB
   exact Zr (r2 [] [.i lo,.b true] ⟨lo,true,rfl,rfl,⟨by omega,fun _=>Yk▸ZW Zx⟩⟩ (lr _))
  have YG:¬(x2=v):=Yh Zq ZB
  exact Z2 2 (Zo (Zj none (lo:Int) 1 (Y3 Zx)) (Z2 1 (Zz [] (Zf3 x2) (Zr (r2 [] [.i lo,.b false] ⟨lo,false,rfl,rfl,⟨by omega,fun q=>by cases q⟩⟩ (lr _))))))
 have YR:¬((lo:Int)<(xs.length:Int)):=Yh dq Zb
 exact Zr (r2 [] [.i lo,.b false] ⟨lo,false,rfl,rfl,⟨by omega,fun q=>by cases q⟩⟩ (lr _))
theorem Z3z (xs:LI) (hl_xs:xs.length<=4294967296:=by exact ob):Zk 132 [Z5 xs] [] (fun r h=>∃(g:Hd),r=.h g/\h=[rK g 1 (Zp (Z7 xs))]):=by
 refine ZF 8 Tryz.func132 (ZE (YO 1 (iN (Z7 xs) (fun hz1=>?_) ?_)))
 ·have hz1:=Il hz1
  refine ie (Wc (ZE (EU (Z10 (k:=1)) ?_)))
  subst hz1
  exact ZD (r2 [0] [nl] ⟨hN,rfl,rfl⟩ (Ze.hd (v:=hN)) (eq:=(rr (ls:=[]) rfl rz)))
 exact ie (Wr (ak (ar (CY 1 fun g1=>Z2 1 (IX 0 g1 1 (Z7 xs) none (YC _) (by simp<;>omega) fun v1=>Zr (r1 [0] ⟨v1,rfl,rfl⟩))))))
theorem Zhr (u:Value) (xs:LI) (v:Int) (hl:xs.length<=1000000000:=by exact ob):Zk 71 [ZQ xs u,.i v] [.tail u 1] (fun r h=>∃(wu:Value) (ys:LI),r=ZQ ys wu/\h=[.tail wu 1]/\(ys.length<=xs.length+1/\∀x,x∈ys↔x∈xs∨x=v)):=by
 refine ZF 21 Tryz.func71 (ZE (ar (ZU 2 [(8,Z5 xs)] (ic [] (Z3h xs v) ?_))))
 rintro _ _ ⟨q1,f1,rfl,rfl,ZX⟩
 have hb:=ZX
 refine Z0 (X9 (YH f1 Iff.rfl (fun Za=>?_) (fun Za=>?_)))
 ·exact ar (Zr (r1 [0] ⟨u,xs,rfl,rfl,⟨by omega,fun x=>⟨.inl,fun q=>q.elim id fun e=>e▸hb.2 Za⟩⟩⟩))
 refine ak (ar (ZU 1 [(15,Z5 xs)] (ic [] (Z3z xs) ?_)))
 rintro _ _ ⟨g1,rfl,rfl⟩
 refine Z2 2 (iL (Z7 [v]) 1 1 fun v1=>ic [1,0] (Zam g1 v1 xs q1 v ob ob) ?_)
 rintro _ _ ⟨w1,rfl,rfl⟩
 exact Zr (r1 [0] ⟨w1,(TH xs q1 v),rfl,rfl,⟨by rw [D0 _ _ _ hb.1];exact X7 _,Zad⟩⟩)
theorem Za7 (n:Zi) (us:LI) (s:Z4) (hn:X6 n:=by exact ob) (ha:∀a∈s.args,0<=a/\a<us.length) (hnum:s.op=9->0<=s.num/\s.num<n.routines.length:=by exact ob) (hal:s.args.length<=1000000000:=by exact ob) (hlt:∀(i:Nat) (a:Int),s.args[i]? = some a->WH n s.op s.num i=true->gI us a≠0):Zk 266 [.agg [ZT n.decls,YW n],Z5 us,YI s] [] (fun r h=>∃(vp:Value) (vl:Value) (ls:LI),r=.tup [ZQ (Va n us s.op s.num s.args 0) vp,ZQ ls vl]/\h=[.tail vp 1,.tail vl 1]/\(ls.length<=s.args.length/\∀x,x∈ls↔∃i,s.args[i]? = some x/\WH n s.op s.num i=true)):=by
 have hsl:=Zew hn s.num
 have hLA:=fun k=>Zbq (n:=n) (op:=s.op) (num:=s.num) (k:=k)
 refine ZF 53 Tryz.func266 (ar (iA [ZT n.decls,YW n] fun b1=>iA (XG s) fun b2=>Z0 (Yl 2 [0] (Zz [] (Pg s.op) (YH (!T6 s.op) (p:=¬(T6 s.op=true)) (YA Iff.rfl) (fun Za=>?_) (fun Za=>?_))))))
 ·exact ZE (KX 1 (KX 1 (ZD (r2 [0,0] [nl,nl] ⟨(.slice none 0 0),(.slice none 0 0),[],rfl,rfl,⟨by simp,fun x=>by simp only [List.not_mem_nil,false_iff];rintro ⟨i,_,q⟩;exact Rc Za i q⟩⟩ (Ze.tup (.cons (Ze.slh _ (by rw [LN Za];rfl)) (.cons (Ze.slh _ (by first|rfl|(subst_vars;rfl))) .nil)))))))
 refine ak (Yl 2 [0] (iw (Yf s.args) (Z0 (ab 0 (KX 1 (KX 1 (Y6 (fun fz gz m F h=>∃(k:Nat) (ps:LI) (v:Value) (u:Value) (ls:LI),(k<=s.args.length)/\(ps.length<=k)/\(ps++Va n us s.op s.num (s.args.drop k) k=Va n us s.op s.num s.args 0)/\(ls.length<=k)/\(AU n s.op s.num s.args k ls)/\F=sF [1,3,5,15,16] fz [(6,ZQ ps v),(7,ZQ ls u),(17,.i k)]/\h=[Zc gz 2,Zc gz 3,.tail u 1,.tail v 1]/\m=s.args.length-k) _ _ _ ⟨0,[],(.slice none 0 0),(.slice none 0 0),[],ob,ob,rfl,ob,Zbt,rfl,rfl,rfl⟩ (wk [2,2,0,0] (fc (x:=nl) (Ze.slh _ (by first|rfl|(subst_vars;rfl))) (fc (x:=nl) (Ze.slh _ (by first|rfl|(subst_vars;rfl))) (Yd fl)))) ?_)))))))
 rintro m F h ⟨k,ps,v,u,ls,Yj,Zl,Zy,Yv,XY,rfl,rfl,rfl⟩
 refine ZE (aq (W9 ((k:Int)<(s.args.length:Int)) (fun Zg=>?_) (fun Zg=>?_)))
 ·refine ak (aq (ab 1 (Ya 1 ?_)))
  obtain ⟨x1,Z3⟩:=Zs s.args k om
  have hxa:=ha x1 (ZW Z3)
  refine Zo (Zj none (k:Int) 1 (Y3 Z3)) (Z0 (ab 2 (Ya 2 ?_)))
  obtain ⟨x2,Zx⟩:=Zs us x1.toNat om
  have hgx:=VH Zx
  refine Zo (Zj none x1 1 (Y3 Zx)) (Z0 (Jv (fun fz gz F h=>∃(w:Value) (ps2:LI) (w3:Value) (ls2:LI),(ps2.length<=k+1)/\(ps2++Va n us s.op s.num (s.args.drop (k+1)) (k+1)=Va n us s.op s.num s.args 0)/\(ls2.length<=k+1)/\(AU n s.op s.num s.args (k+1) ls2)/\F=sF [1,3,5,15,16,17] fz [(6,ZQ ps2 w),(7,ZQ ls2 w3)]/\h=[Zc gz 0,Zc gz 1,.tail w 1,.tail w3 1]) (fun _ _=>rfl) ?_ ?_))
  ·refine ac (x2==0) Zq (fun ZC=>?_) (fun ZC=>?_)
   ·exact ak (ZP ⟨v,ps,u,ls,ob,(RR Z3 (by rw [UI,hgx,ZC];simp) Zy),ob,(Ra XY (fun q=>hlt k x1 Z3 q (by rw [hgx];exact ZC))),rfl,rfl⟩ (wk [0,0,1,0] fl))
   refine ar (XU 14 [1,3,5,6,7,8,9,15,16,17] [(46,.b ((s.op==9)&&(decide ((k:Int)∈((UC n s.num).lnt)))))] (fun gz=>gz) ?_ (fun hj1=>?_))
   ·refine YH ((s.op==9)&&(decide ((k:Int)∈((UC n s.num).lnt)))) (p:=(s.op=9)/\((k:Int)∈((UC n s.num).lnt))) (YL Zq dq) (fun Yg=>?_) (fun Yg=>?_)
    ·refine az (Z2 2 (ic [2] (Zhr u ls x1) ?_))
     rintro _ _ ⟨wu1,ys1,rfl,rfl,ZX⟩
     have hy:=ZX
     exact Z0 (ZP ⟨v,ps,wu1,ys1,ob,(RR Z3 (by rw [UI,(hLA k).2 Yg];simp) Zy),(by have:=hy.1;omega),(Zbr Z3 XY ((hLA k).2 Yg) hy.2),rfl,rfl⟩ (wk [1,1,1,0] fl))
    exact az (Z2 2 (iL (Z7 [(k:Int)]) 1 1 fun v1=>ZU 0 [(24,Z5 [(k:Int)])] (ip 4 (Z7 (ps++[(k:Int)])) (Z7 ps) (Z7 [(k:Int)]) v none 1 (YC _) (YC _) (We _) (by simp<;>omega) (by simp [Wd,Z7]) fun v2=>Z0 (ZP ⟨v2,(ps++[(k:Int)]),u,ls,ob,(Zd6 Z3 (by have h1:T6 s.op=true:=Vy.1 Za;have h2:WH n s.op s.num k=false:=Jo.2 (fun q=>Yg ((hLA k).1 q));rw [UI,hgx,h1,h2];simp [ZC]) Zy),ob,(Ra XY (fun q=>Yg ((hLA k).1 q))),rfl,rfl⟩ (wk [2,2,0,1] fl)))))
   refine ZO 4 [0] (ib (b:=(s.op==9)) 36 (fun Zb=>?_) (fun Zb=>?_))
   ·have Yk:s.op=9:=(Zq).1 Zb
    exact ZO 4 [1,0] (Zo (AI (es:=Ts (n.routines.map W5)) (hv:=none) (j:=s.num) (sz:=3) (y:=ES (UC n s.num)) kr (by have:=hnum (by assumption);omega) (BY (SG (by have:=hnum (by assumption);rw [AP];omega))) rfl) (Z2 3 (Zz [] (Mi ((UC n s.num).lnt) (k:Int)) (Z2 1 (YB (ZG 4 (Zt (decide ((k:Int)∈((UC n s.num).lnt))) Zb fl)) hj1)))))
   have YG:¬(s.op=9):=Yh Zq Zb
   exact Z2 10 (YB (ZG 4 (Zt false Zb fl)) hj1)
  rintro F h ⟨w,ps2,w3,ls2,D5,D6,Pw,Ziq,rfl,rfl⟩
  exact az (ZJ k (Z0 (ZK ⟨k+1,ps2,w,w3,ls2,ob,ob,ob,ob,ob,rfl,rfl,rfl⟩ (wk [0,0,1,0] (fw (ZM k fl))))))
 exact ax 0 (ar (Zr (r2 [3,2] [ZQ ps v,ZQ ls u] ⟨v,u,_,rfl,rfl,⟨by omega,Zbs XY om⟩⟩ (Ze.tup (.cons (Ze.slh _ (Yp Z7 (Zd5 om Zy))) (.cons (Ze.slh _ (Yp Z7 ob)) .nil))))))
theorem Z36 (b:Nat) (ga:Hd) (gb:Hd) (gc:Hd) (n:Zi) (L:Ve) (ln:LI) (am:List Xj) (s:Z4) (q:Int) (hn:X6 n:=by exact ob) (hk:Xb n.decls L q:=by exact ob) (har:V0 n.decls L am:=by exact ob) (hln:ln.length<=4294967296:=by exact ob) (hal:am.length<=1000000000:=by exact ob) (hlb:L.vars.length<=1000000000:=by exact ob) (hf:Af n L.vars s:=by exact ob) (hlt:∀(i:Nat) (a:Int),s.args[i]? = some a->WH n s.op s.num i=true->gI L.vars a≠0) (hsl:s.args.length<=1000000000:=by exact ob) (hq:0<=q/\q<=999999980:=by exact ob):Zk 223 [.p b 0,YI s] [.obj b [ZT n.decls,YW n,Z5 ln,Xi am,.h ga,.h gb,.h gc],rV ga L.vars,rV gb L.own,rV gc L.tok] (fun r h=>(∃(L':Ve),r=.b true/\h=[.obj b [ZT n.decls,YW n,Z5 ln,Xi am,.h ga,.h gb,.h gc],rV ga L'.vars,rV gb L'.own,rV gc L'.tok]/\U9 n ln L s.op s.num s.into s.args=some L')∨(r=.b false/\h=[]/\U9 n ln L s.op s.num s.into s.args=none)):=by
 have hlk:=hk.len
 obtain ⟨e1,e2,e3,e4,e5⟩:=hk.len
 have hpl:=RQ (n:=n) (us:=L.vars) (op:=s.op) (num:=s.num) s.args 0
 refine ZF 74 Tryz.func223 (ar (iA (XG s) fun b1=>Z0 (aD 15 (ZH 6 15 [0,1,2,3,4,5,6,7,8] [1,1,0] (Z9 9 (T7 9 [2] [] [] [rV ga L.vars] (Za7 n L.vars s (ha:=hf.args) (hnum:=hf.num) (hlt:=hlt)) clS (gS (gL (v:=ga) 0 (gS gN))) (Ut Tg) ?_))))))
 rintro _ _ ⟨vp1,vl1,ls1,rfl,rfl,ZX⟩
 have hls:=ZX
 refine Zm 0 5 [10,11,12,13,14] (de (YO 1 (io (.i (((Va n L.vars s.op s.num s.args 0).length:Nat):Int)) (.i (((Z7 (Va n L.vars s.op s.num s.args 0)).length:Nat):Int)) (li (by rw [Yf])) (Z0 (ab 0 (Y6 (fun fz gz m F h=>∃(k:Nat) (L2:Ve),(k<=(Va n L.vars s.op s.num s.args 0).length)/\(Xb n.decls L2 q)/\(L2.vars=L.vars)/\(L2.par=L.par/\L2.con=L.con/\L2.fst=L.fst)/\(Kq s.args ((Va n L.vars s.op s.num s.args 0).drop k) L2=Kq s.args (Va n L.vars s.op s.num s.args 0) L)/\F=sF [0,3,6,24,25] fz [(26,.i k)]/\h=[rV ga L2.vars,Zc gz 3,Zc gz 4,rV gb L2.own,rV gc L2.tok,Zc gz 1,Zc gz 0]/\m=(Va n L.vars s.op s.num s.args 0).length-k) _ _ _ ⟨0,L,ob,hk,rfl,⟨rfl,rfl,rfl⟩,rfl,rfl,rfl,rfl⟩ (wk [2,2,2,2,2,1,0] (Yd fl)) ?_))))))
 rintro m F h ⟨k,L2,Yj,Zl,Zy,Yv,XY,rfl,rfl,rfl⟩
 refine ZE (aq (W9 ((k:Int)<(((Va n L.vars s.op s.num s.args 0).length:Nat):Int)) (fun Za=>?_) (fun Za=>?_)))
 ·refine ak (aq (ab 1 (ar ?_)))
  obtain ⟨x1,Z3⟩:=Zs (Va n L.vars s.op s.num s.args 0) k om
  have hpm:=LM (ZW Z3)
  refine Zo (Zj (some vp1) (k:Int) 1 (Y3 Z3)) (Z0 (Zw 4 [1] ?_))
  obtain ⟨x2,Zx⟩:=Zs s.args x1.toNat om
  have hgx:=VH Zx
  have hxa:=hf.args x2 (ZW Zx)
  refine Zo (Zj none x1 1 (Y3 Zx)) (Z2 1 (Zz [2,0,1,1] (F8 b ga gb gc n L2 ln am x2 (hlk:=Zl.len) (hi:=(by rw [Zy];exact hxa)) (hq:=(fun y hy=>by have h1:=Zl.nn y hy;have h2:=Zl.bd y hy;omega))) (YH (!decide (1<=gI L2.own x2)) (p:=¬(decide (1<=gI L2.own x2)=true)) (YA Iff.rfl) (fun Zg=>?_) (fun Zg=>?_))))
  ·exact ar (Zr (r1 [] (.inr ⟨rfl,rfl,(Z8y (Zh8 Z3 hgx (fun z=>Zg (decide_eq_true z)) XY))⟩)))
  have ht:=of_decide_eq_true (Vy.1 Zg)
  exact ak (az (ZJ k (Z0 (ZK ⟨k+1,(XP L2 x2),ob,(Zl.take (by rw [AK,Zd ht])),Zy,Yv,(Zh7 Z3 hgx ht XY),rfl,rfl,rfl⟩ (wk [1,3,0,0,0,0,0] (ZM k fl))))))
 have hT:=Zh6 om XY
 have har2:=har.same (M:=L2) (by rw [Zy]) Yv.1 Yv.2.1 Yv.2.2
 have hvl:L2.vars.length=L.vars.length:=by rw [Zy]
 obtain ⟨f1,f2,f3,f4,f5⟩:=Zl.len
 refine ax 0 (YO 1 (iw (Yf ls1) (Z0 (ab 2 (Y6 (fun fz gz m F h=>∃(j:Nat),(j<=ls1.length)/\(∀x∈ls1.take j,XM L2 ln x=true)/\F=sF [0,3,39,40] fz [(41,.i j)]/\h=[Zc gz 0,Zc gz 1,Zc gz 2,Zc gz 3,Zc gz 4,Zc gz 5]/\m=ls1.length-j) _ _ _ ⟨0,ob,(by simp),rfl,rfl,rfl⟩ (ZG 6 (Yd fl)) ?_)))))
 rintro m F h ⟨j,Up,Wa,rfl,rfl,rfl⟩
 refine ZE (aq (W9 ((j:Int)<(ls1.length:Int)) (fun ZC=>?_) (fun ZC=>?_)))
 ·refine ak (aq (ab 3 (ar ?_)))
  obtain ⟨x3,YS⟩:=Zs ls1 j om
  have hxm:=ZW YS
  obtain ⟨i0,hi0,_⟩:=(hls.2 _).1 hxm
  have hxl:=hf.args _ (ZW hi0)
  refine Zo (Zj (some vl1) (j:Int) 1 (Y3 YS)) (Z0 (Ya 2 (Zz [2,0,1,1] (F7 b ga gb gc _ L2 ln am x3 Zl.len har2 ob ob ob Zl.down (by rw [Zy];exact hxl)) (YH (!XM L2 ln x3) (p:=¬(XM L2 ln x3=true)) (YA Iff.rfl) (fun Yg=>?_) (fun Yg=>?_)))))
  ·exact ar (Zr (r1 [] (.inr ⟨rfl,rfl,((P3 hT hls.2).2 ⟨x3,hxm,Yg⟩)⟩)))
  exact ak (az (ZJ j (Z0 (ZK ⟨j+1,ob,(by rw [Vl YS];exact fun x hx=>(Xd.1 hx).elim (Wa x) (fun hx=>by rw [XI.1 hx];exact Vy.1 Yg)),rfl,rfl,rfl⟩ (wk [1,3,0,0,0,0] (ZM j fl))))))
 have hH:=(P3 (into:=s.into) hT hls.2).1 (fun x hx=>Wa x (by rw [Vt om];exact hx))
 have hin:=hf.into
 refine ax 2 (X9 (VT [1] (ac (s.into != 0) Ym (fun Xf=>?_) (fun Xf=>?_))))
 ·refine aq (aD 13 (ZH 7 13 [0,1,2,3,4,5] [2,1] (da 6 ((s.into-1)) ((s.into)-(1)) (dx 7 (Wo 4 gc L2.tok (s.into-1) ((s.into-1).toNat) (hq:=rfl)) ?_))))
  obtain ⟨x4,VI⟩:=Zs L2.tok ((s.into-1).toNat) om
  have hgt:=VH VI
  refine Uq 8 (VU 4 gc L2.tok ((s.into-1).toNat) x4 VI) (ZH 2 4 [9,10] [1] (dw 11 (Yf s.args) (Zm 0 1 [12] (de (ac (x4 != (s.args.length:Int)) Ym (fun Xo=>?_) (fun Xo=>?_))))))
  ·exact ar (Zr (r1 [] (.inr ⟨rfl,rfl,(by rw [hH,QE,Zd om,hgt,Zd Xo])⟩)))
  exact ak (aE 9 (ZH 3 9 [0,1,2,3,4,5] [2,1] (da 6 ((s.into-1)) ((s.into)-(1)) (dx 7 (Wo 4 gc L2.tok (s.into-1) ((s.into-1).toNat) (hq:=rfl)) (Z9 8 (JT 8 4 [] [] gc L2.tok ((s.into-1).toNat) (-1) (de (ar (Zr (r1 [3,1,2,0] (.inl ⟨(Zh.mk L2.vars L2.own L2.par L2.con L2.fst (L2.tok.set (s.into-1).toNat (-1))),rfl,rfl,(by rw [hH,QE,Zd om,hgt,Z8 Xo])⟩) (eq:=(rc (rv (xs:=L2.vars) ob (rv (xs:=L2.own) ob (rv (xs:=(L2.tok.set ((s.into-1).toNat) (-1))) ob rz)))))))))))))))
 exact ak (ar (Zr (r1 [2,0,1,1] (.inl ⟨L2,rfl,rfl,(by rw [hH,QE,Z8 om])⟩))))
theorem Z3c (b:Nat) (ga:Hd) (gb:Hd) (gc:Hd) (n:Zi) (L:Ve) (ln:LI) (am:List Xj) (xs:List Z4) (q:Int) (vs:LI) (hn:X6 n:=by exact ob) (hk:Xb n.decls L q:=by exact ob) (har:V0 n.decls L am:=by exact ob) (ht:XC n xs L.vars=some vs:=by exact ob) (hnn:∀t∈L.vars,0<=t) (hb:L.vars.length+am.length+4*Yb xs<=900000000:=by exact ob) (hq:0<=q/\q+4*Yb xs<=999999980:=by exact ob) (hr:UQ xs:=by exact ob) (ih:∀(s2:Z4) (c:Nat) (ra:Hd) (rb:Hd) (rc:Hd) (M:Ve) (a2:List Xj) (p:Int),(s2.sz<=Yb xs)->(Xb n.decls M p)->(V0 n.decls M a2)->(0<=Yc n M.vars s2)->(∀t∈M.vars,0<=t)->(M.vars.length+a2.length+4*s2.sz<=900000000)->(0<=p/\p+4*s2.sz<=999999980)->(s2.rng)->Zk 177 [.p c 0,YI s2] [.obj c [ZT n.decls,YW n,Z5 ln,Xi a2,.h ra,.h rb,.h rc],rV ra M.vars,rV rb M.own,rV rc M.tok] (fun r h=>(∃(wa:Hd) (wb:Hd) (wc:Hd) (M':Ve),r=.b true/\h=[.obj c [ZT n.decls,YW n,Z5 ln,Xi a2,.h wa,.h wb,.h wc],rV wa M'.vars,rV wb M'.own,rV wc M'.tok]/\Vb n ln M s2=some M')∨(r=.b false/\h=[]/\Vb n ln M s2=none))):Zk 124 [.p b 0,Wz xs] [.obj b [ZT n.decls,YW n,Z5 ln,Xi am,.h ga,.h gb,.h gc],rV ga L.vars,rV gb L.own,rV gc L.tok] (fun r h=>(∃(wa:Hd) (wb:Hd) (wc:Hd) (L':Ve),r=.b true/\h=[.obj b [ZT n.decls,YW n,Z5 ln,Xi am,.h wa,.h wb,.h wc],rV wa L'.vars,rV wb L'.own,rV wc L'.tok]/\XK n ln L xs=some L')∨(r=.b false/\h=[]/\XK n ln L xs=none)):=by
 have hxl:=Jg xs
 refine ZF 18 Tryz.func124 (ZE (YO 1 (iw (VO xs) (Z0 (ab 0 (Y6 (fun fz gz m F h=>∃(k:Nat) (q2:Int) (L2:Ve) (ka:Hd) (kb:Hd) (kc:Hd),(k<=xs.length)/\(Xb n.decls L2 q2)/\(0<=q2/\q2+4*Yb (xs.drop k)<=999999980)/\(L2.vars.length+am.length+4*Yb (xs.drop k)<=900000000)/\(XC n (xs.drop k) L2.vars=some vs)/\(XK n ln L2 (xs.drop k)=XK n ln L xs)/\(V0 n.decls L2 am)/\(∀t∈L2.vars,0<=t)/\F=sF [0,7,8] fz [(9,.i k)]/\h=[.obj b [ZT n.decls,YW n,Z5 ln,Xi am,.h ka,.h kb,.h kc],rV ka L2.vars,rV kb L2.own,rV kc L2.tok]/\m=xs.length-k) _ _ _ ⟨0,q,L,ga,gb,gc,ob,hk,(by rw [TZ];omega),(by rw [TZ];omega),ht,rfl,har,hnn,rfl,rfl,rfl⟩ (ZG 4 (Yd fl)) ?_))))))
 rintro m F h ⟨k,q2,L2,ka,kb,kc,Yj,Zl,Zy,Yv,XY,K3,HQ,NB,rfl,rfl,rfl⟩
 refine ZE (aq (W9 ((k:Int)<(xs.length:Int)) (fun Za=>?_) (fun Za=>?_)))
 ·obtain ⟨s1,hs1⟩:=Zs xs k om
  have hdr:=Y9 hs1
  have hz:Yb (xs.drop k)=s1.sz+Yb (xs.drop (k+1)):=by rw [hdr,Yb]
  have Xr:=Z08 hs1
  have hsr:=Mo hr hs1
  rw [hdr] at XY K3
  obtain ⟨g1,g2⟩:=EG XY
  refine ak (aq (ab 1 (ar (Zo (Zj none (k:Int) 5 (V2 hs1)) (Z2 1 (iA [.i 0,.i 0,.i 0,nl,nl] fun b1=>ZI 0 b1 (XG s1) (ie (Zw 2 [0] (ic [1,1,1,1] (ih s1 b ka kb kc L2 am q2 ob Zl HQ g1 NB om om hsr) ?_)))))))))
  rintro _ _ (⟨wa1,wb1,wc1,M'1,rfl,rfl,ZX⟩|⟨rfl,rfl,Yk⟩)
  ·have hP:=ZX
   have kx:=EE hn Zl Zy.1 g1 hP
   exact Z0 (Wr (ak (az (ZJ k (Z0 (ZK ⟨k+1,(q2+4*s1.sz),M'1,wa1,wb1,wc1,ob,kx.1,om,(by rw [kx.2];have:=GT n L2.vars s1;omega),(by rw [kx.2];exact g2),(by rw [<-K3,XK,hP];rfl),(Z0j hn Zl Zy.1 g1 hP HQ),(by rw [kx.2];exact Zeq NB g1),rfl,rfl,rfl⟩ (ZG 4 (ZM k fl))))))))
  have hP:=Yk
  exact Z0 (Wc (ar (Zr (r1 [] (.inr ⟨rfl,rfl,(by rw [<-K3,XK,hP];rfl)⟩)))))
 exact ax 0 (ar (Zr (r1 [0,0,0,0] (.inl ⟨ka,kb,kc,L2,rfl,rfl,(by rw [<-K3,Xn om];rfl)⟩))))
theorem NH (am:List Xj) (hl:am.length<=1000000000:=by exact ob):Zk 165 [Xi am] [] (fun r h=>∃(v:Value),r=LA am v/\h=[.tail v 4]):=by
 refine ZF 8 Tryz.func165 (ZE (YO 1 (iN (WV am) (fun hz1=>?_) ?_)))
 ·have hz1:=Z5y hz1
  exact ie (Wc (ZE (KX 4 (ZD (r2 [0] [nl] ⟨(.slice none 0 0),rfl,rfl⟩ (Ze.slh _ (by first|rfl|(subst_vars;rfl))))))))
 exact ie (Wr (ak (ar (iL (WV []) 0 4 fun v1=>Z2 1 (ip 0 (WV am) (WV []) (WV am) v1 none 4 (CD _) (CD _) (I9 _) (by simp<;>omega) (by simp [WV]) fun v2=>Zr (r1 [0] ⟨v2,rfl,rfl⟩))))))
theorem Nc (am:List Xj) (a:Xj) (hl:am.length<=900000000:=by exact ob):Zk 99 [Xi am,.agg [.i a.mat,.i a.fst,Z5 a.fds,.b a.chg]] [] (Ys (Xi (am++[a]))):=by
 refine ZF 10 Tryz.func99 (ar (iA [.i a.mat,.i a.fst,Z5 a.fds,.b a.chg] fun b1=>?_))
 refine Z0 (aD 6 (ZH 4 6 [0,2] [0] (J2 (fun fz gz F h=>∃(v3:Value),F=sF [] fz [(4,LA (am++[a]) v3)]/\h=gz) ?_ ?_)))
 ·refine VN 1 3 ?_ ?_
  ·refine dc 1 [] [0] [b1] (NH am) ?_
   rintro _ _ ⟨v1,rfl,rfl⟩
   exact Z9 3 (dL 3 [] [] (WV [a]) 1 4 fun v2=>Yw 2 2 [] [(8,Xi [a])] (Z9 4 (dp 4 1 [] [] (WV (am++[a])) (WV am) (WV [a]) v1 none 4 (CD _) (CD _) (I9 _) (by simp<;>omega) (by simp [O8,WV]) fun v3=>Zm 0 1 [5] (de (ZP ⟨v3,rfl,rfl⟩ (wk [2] fl))))))
  refine dL 3 [] [] (WV [a]) 1 4 fun v4=>Z9 1 (dc 1 [] [] [] (NH am) ?_)
  rintro _ _ ⟨v5,rfl,rfl⟩
  exact Yw 2 2 [] [(8,Xi [a])] (Z9 4 (dp 4 0 [] [] (WV (am++[a])) (WV am) (WV [a]) v5 none 4 (CD _) (CD _) (I9 _) (by simp<;>omega) (by simp [O8,WV]) fun v6=>Zm 0 1 [5] (de (ZP ⟨v6,rfl,rfl⟩ (wk [2] fl)))))
 rintro F h ⟨v3,rfl,rfl⟩
 exact ZD (Y4 (LA (am++[a]) v3) (Ze.forget _ _))
theorem Z34 (b:Nat) (ga:Hd) (gb:Hd) (gc:Hd) (n:Zi) (L:Ve) (ln:LI) (am:List Xj) (s:Z4) (q:Int) (hn:X6 n:=by exact ob) (hty:Kv n:=by exact ob) (hlt:BQ n:=by exact ob) (hk:Xb n.decls L q:=by exact ob) (har:V0 n.decls L am:=by exact ob) (hln:ln.length<=4294967296:=by exact ob) (hf:Af n L.vars s:=by exact ob) (hop:s.op=7∨s.op=8:=by exact ob) (hnn:∀t∈L.vars,0<=t) (hb:L.vars.length+am.length+4*s.sz<=900000000:=by exact ob) (hq:0<=q/\q+4*s.sz<=999999980:=by exact ob) (hr:s.rng:=by exact ob) (ih:∀(ys:List Z4) (c:Nat) (ra:Hd) (rb:Hd) (rc:Hd) (M:Ve) (a2:List Xj) (p:Int) (vs:LI),(Yb ys<s.sz)->(Xb n.decls M p)->(V0 n.decls M a2)->(XC n ys M.vars=some vs)->(∀t∈M.vars,0<=t)->(M.vars.length+a2.length+4*Yb ys<=900000000)->(0<=p/\p+4*Yb ys<=999999980)->(UQ ys)->Zk 124 [.p c 0,Wz ys] [.obj c [ZT n.decls,YW n,Z5 ln,Xi a2,.h ra,.h rb,.h rc],rV ra M.vars,rV rb M.own,rV rc M.tok] (fun r h=>(∃(wa:Hd) (wb:Hd) (wc:Hd) (M':Ve),r=.b true/\h=[.obj c [ZT n.decls,YW n,Z5 ln,Xi a2,.h wa,.h wb,.h wc],rV wa M'.vars,rV wb M'.own,rV wc M'.tok]/\XK n ln M ys=some M')∨(r=.b false/\h=[]/\XK n ln M ys=none))):Zk 222 [.p b 0,YI s] [.obj b [ZT n.decls,YW n,Z5 ln,Xi am,.h ga,.h gb,.h gc],rV ga L.vars,rV gb L.own,rV gc L.tok] (fun r h=>(∃(wa:Hd) (wb:Hd) (wc:Hd) (L':Ve),r=.b true/\h=[.obj b [ZT n.decls,YW n,Z5 ln,Xi am,.h wa,.h wb,.h wc],rV wa L'.vars,rV wb L'.own,rV wc L'.tok]/\Js n ln L s=some L')∨(r=.b false/\h=[]/\Js n ln L s=none)):=by
 have hlk:=hk.len
 obtain ⟨e1,e2,e3,e4,e5⟩:=hk.len
 have XB:=hn.decls
 have hkz:=TK s
 have haz:=QA s
 obtain ⟨hk1,hk2,hk3⟩:=hf.kids hop
 obtain ⟨kd,hkd⟩:=Zs s.kids 0 om
 obtain ⟨x,hxa⟩:=hf.one om
 have ha:s.args[0]? = some x:=by rw [hxa];rfl
 have hx:=hf.args x (by rw [hxa];simp)
 have hgx:=JB ha
 have hal0:=(Xq.1 ha).1
 have hr2:=hr
 rw [s.rng_eq] at hr2
 refine ZF 156 Tryz.func222 (ar (iA (XG s) fun b1=>Z0 (X9 (Xv [0,3] [(24,.b ((s.op==8)&&(!XM L ln x)))] (fun gz=>[Zc gz 1,Zc gz 2,Zc gz 3,Zc gz 4,Zc gz 0]) ?_ ?_))))
 ·refine ZO 4 [0] (ib (b:=(s.op==8)) 16 (fun Zb=>?_) (fun Zb=>?_))
  ·have ZX:s.op=8:=(Zq).1 Zb
   exact ZO 3 [0] (Zo (Zj none 0 1 (Y3 ha)) (Z2 1 (Zz [1,1,1,1] (F7 b ga gb gc n L ln am x ob ob ob ob ob hk.down ob) (Z0 (ZG 5 (Zt (!XM L ln x) Zb fl))))))
  have Yk:¬(s.op=8):=Yh Zq Zb
  exact Z0 (wk [1,1,1,1,0] (Zt false Zb fl))
 refine ac ((s.op==8)&&(!XM L ln x)) (p:=(s.op=8)/\(¬(XM L ln x=true))) (YL Zq (YA Iff.rfl)) (fun Za=>?_) (fun Za=>?_)
 ·exact ar (Zr (r1 [] (.inr ⟨rfl,rfl,(Z3x Za.1 (by rw [hgx];exact Za.2))⟩)))
 have hgo:=NG (n:=n) (ln:=ln) (L:=L) (s:=s) (by rw [hgx];exact Za) hkd
 refine ak (Zw 2 [4] (iw (Uy s.kids) (iMN s.kids.length s.kids.length fun v1=>?_)))
 refine Z0 (X9 (VT [5] (XW (fun fz gz F h=>F=sF [0,3] fz [(5,Kf (Xu n.decls s.op s.num))]/\h=[Zc gz 1,Zc gz 2,Zc gz 3,Zc gz 4,Zc gz 5]) ?_ ?_)))
 ·refine ac (s.op==8) Zq (fun Zg=>?_) (fun Zg=>?_)
  ·exact aE 8 (ZH 2 8 [0,1,2,3,4,5] [1,5] (Z9 6 (Yo 6 [] [] [] (Pi _ s.num) (Zm 0 1 [7] (de (ZP ⟨rfl,rfl⟩ (wk [1,1,1,1,1] (fc (x:=Kf ((ZY n.decls s.num).map (ZV n.decls))) (Ze.sl _ (Yp Wu (by rw [Xu,Z8 om]))) fl))))))))
  exact ak (ZP ⟨rfl,rfl⟩ (wk [1,1,1,1,1] (fc (x:=Bn (List.replicate s.kids.length []) v1) (Ze.sl _ (Yp Wu (by rw [show s.kids.length=2 by rw [hk1,Xu,Zd om];rfl,Xu,Zd om];rfl))) fl)))
 rintro F h ⟨rfl,rfl⟩
 refine Zw 4 [0] (Zo (KQ 1 ga L.vars) (Z0 (ZE (Yl 2 [4] (iw (Uy s.kids) (Z0 (ab 0 (Y6 (fun fz gz m F h=>(∃(k:Nat),(k=0)/\F=sF [0,3,5,6,7,45,46] fz [(47,.i k)]/\h=gz/\m=s.kids.length-k)∨(∃(k:Nat) (c0:Nat) (ua:Hd) (ub:Hd) (uc:Hd) (O:Ve) (aO:List Xj),(1<=k/\k<=s.kids.length)/\(Wk n ln (WX n.decls L s.op s.num s.args 0) L.vars.length kd=some (O.take L.vars.length))/\(L.vars.length<=O.own.length/\O.own.length<=1000000000/\L.vars.length<=O.tok.length/\O.tok.length<=1000000000)/\(TI n ln L s.op s.num s.args (O.take L.vars.length) (s.kids.drop k) k=TI n ln L s.op s.num s.args (O.take L.vars.length) (s.kids.drop 1) 1)/\F=sF [0,3,5,6,45,46] fz [(7,.p c0 0),(47,.i k)]/\h=[.obj c0 [ZT n.decls,YW n,Z5 ln,Xi aO,.h ua,.h ub,.h uc],rV ua O.vars,rV ub O.own,rV uc O.tok,Zc gz 0,Zc gz 1,Zc gz 2,Zc gz 3,Zc gz 4]/\m=s.kids.length-k)) _ _ _ (.inl ⟨0,rfl,rfl,rfl,rfl⟩) (ZG 5 (Yd fl)) ?_))))))))
 rintro m F h (⟨k,Yj,rfl,rfl,rfl⟩|⟨k,c0,ua,ub,uc,O,aO,d0_0,d0_1,d0_2,d0_3,rfl,rfl,rfl⟩)
 ·refine ZE (aq (W9 ((k:Int)<(s.kids.length:Int)) (fun ZC=>?_) (fun ZC=>?_)))
  ·obtain ⟨ke,hke⟩:=Zs s.kids k om
   obtain ⟨mk,hmk⟩:=Zs (Xu n.decls s.op s.num) k om
   have hK:=D8 hk hq.1 hf hop hmk
   have hmk3:=F4 XB hmk
   have hks:=Tx hke
   have hbt:=hk3 k ke mk hke hmk
   obtain ⟨vs,rt,hvs,hres,hrt⟩:=DK hbt
   have hri:=J1 hres
   have hsrr:UQ ke.steps:=by
    have h:=Fa hr2.2 hke
    rwa [Z6.rng_eq] at h
   have hbz:=ke.sz_eq
   have hak:=N9 hn har hlk hop (by rw [hgx];exact hx) hmk
   have hsl:=EH hvs
   rw [Yt] at hsl
   have hkl:=N8 (L:=L) (am:=am) (s:=s) (m:=mk)
   refine ak (aq (ab 1 (Ya 1 (Zo (Zj none (k:Int) 2 (T9 hke)) (Z2 1 (iA [nl,.i 0] fun b2=>Z2 1 (ZI 0 b2 (Xm ke) (ie (Ya 1 (ic [1,1,1,1] (Nn b ga gb gc n L ln am) ?_))))))))))
   rintro _ _ ⟨c1,wa1,wb1,wc1,rfl,rfl⟩
   refine Z0 (X9 (VT [9] (XW (fun fz gz F h=>F=sF [0,3,5,6,7,8,9,10,45,46,47] fz []/\h=[.obj c1 [ZT n.decls,YW n,Z5 ln,Xi (TF L am s mk),.h wa1,.h wb1,.h wc1],Zc gz 1,Zc gz 2,Zc gz 3,Zc gz 4,Zc gz 5,Zc gz 6,Zc gz 7,Zc gz 8,Zc gz 9]) ?_ ?_)))
   ·refine ac (s.op==8) Zq (fun Yg=>?_) (fun Yg=>?_)
    ·exact aE 19 (ZH 12 19 [0,1,2,3,4,5,6] [4,9] (dx 7 (Zj none 0 1 (Y3 ha)) (Zm 7 11 [8,9,10,11] (dx 12 (Zj none (k:Int) 1 (B7 hmk)) (Zm 4 6 [13,14] (Z9 15 (Yo 15 [] [] [] (Nc am (Xj.mk x (L.vars.length:Int) mk false)) (Zm 1 3 [16,17] (Z9 18 (YK 18 0 [] [] c1 [ZT n.decls,YW n,Z5 ln,Xi (am++[(Xj.mk x (L.vars.length:Int) mk false)]),.h wa1,.h wb1,.h wc1] (de (ZP ⟨rfl,rfl⟩ (ZG 10 fl (e:=(ro (ls:=[ZT n.decls,YW n,Z5 ln,Xi (am++[(Xj.mk x (L.vars.length:Int) mk false)]),.h wa1,.h wb1,.h wc1]) (by rw [TF,Zd ‹s.op=8›,hgx]) (rc (rc (rc (rc (rc (rc (rc (rc (rc rz))))))))))))))))))))))))
    exact ak (ZP ⟨rfl,rfl⟩ (ZG 10 fl (e:=(ro (ls:=[ZT n.decls,YW n,Z5 ln,Xi am,.h wa1,.h wb1,.h wc1]) (by rw [TF,Z8 ‹¬s.op=8›]) (rc (rc (rc (rc (rc (rc (rc (rc (rc rz)))))))))))))
   rintro F h ⟨rfl,rfl⟩
   refine YO 2 (Zo (Zj none (k:Int) 1 (B7 hmk)) (Z2 1 (iw (Yf mk) (Z0 (ab 2 (Y6 (fun fz gz m F h=>∃(j:Nat) (L3:Ve) (ka:Hd) (kb:Hd) (kc:Hd),(j<=mk.length)/\(Wq L3)/\(L3.vars.length=L.vars.length+j)/\(Q7 L3 (gI s.args 0) (mk.drop j)=WX n.decls L s.op s.num s.args k)/\F=sF [0,3,5,6,7,9,10,45,46,47,78,79] fz [(80,.i j)]/\h=[.obj c1 [ZT n.decls,YW n,Z5 ln,Xi (TF L am s mk),.h ka,.h kb,.h kc],Zc gz 4,Zc gz 5,Zc gz 6,Zc gz 7,Zc gz 8,Zc gz 9,rV ka L3.vars,rV kb L3.own,rV kc L3.tok]/\m=mk.length-j) _ _ _ ⟨0,(Jh n L s k),wa1,wb1,wc1,ob,(Z0h hlk),(by rw [BB];rfl),(by rw [TZ];exact Z0g hop hmk),rfl,rfl,rfl⟩ (wk [0,3,3,3,3,3,3,0,0,0] (Yd fl) (e:=(rc (rc (rc (rc (rc (rc (rc (rv (xs:=L.vars) (by first|rw [BB]|rw [Dp]|rw [Dq]) (rv (xs:=L.own) (by first|rw [BB]|rw [Dp]|rw [Dq]) (rv (xs:=L.tok) (by first|rw [BB]|rw [Dp]|rw [Dq]) rz)))))))))))) ?_))))))
   rintro m F h ⟨j,L3,ka,kb,kc,Up,Wa,XZ,Jr,rfl,rfl,rfl⟩
   refine ZE (aq (W9 ((j:Int)<(mk.length:Int)) (fun Xf=>?_) (fun Xf=>?_)))
   ·obtain ⟨xm,hxm⟩:=Zs mk j om
    refine ak (aq (ab 3 (ar (Zo (Zj none (j:Int) 1 (Y3 hxm)) (Z0 (az (Z2 2 (ic [0,6,6,6] (Cu c1 ka kb kc n L3 ln (TF L am s mk) xm 0 (hlk:=Wa)) ?_))))))))
    rintro _ _ ⟨wa2,wb2,wc2,rfl⟩
    exact ie (az (ZJ j (Z0 (ZK ⟨j+1,(L3.grow xm 0 (gI s.args 0)),wa2,wb2,wc2,ob,(Wq.grow Wa),(by simp [Zh.grow];omega),(by rw [Y9 hxm,Q7] at Jr;exact Jr),rfl,rfl,rfl⟩ (wk [0,3,3,3,3,3,3,0,0,0] (ZM j fl) (e:=(rc (rc (rc (rc (rc (rc (rc (rv (xs:=(L3.grow xm 0 (-1)).vars) ob (rv (xs:=(L3.grow xm 0 (-1)).own) ob (rv (xs:=(L3.grow xm 0 (-1)).tok) ob rz))))))))))))))))
   have hE:L3=WX n.decls L s.op s.num s.args k:=by rw [<-Jr,Xn om];rfl
   have hL3v:L3.vars=L.vars++mk:=by rw [hE];exact hK.2
   have hL3l:L3.vars.length=L.vars.length+mk.length:=by rw [hL3v,Yt]
   refine ax 2 (Yl 3 [5] (ic [0,6,6,6] (ih ke.steps c1 ka kb kc L3 (TF L am s mk) q vs ob (by rw [hE];exact hK.1) (by rw [hE];exact hak) (by rw [hL3v];exact hvs) (by rw [hL3v];exact Ei hnn (Na hty hmk)) om om hsrr) ?_))
   rintro _ _ (⟨wa3,wb3,wc3,M'1,rfl,rfl,YG⟩|⟨rfl,rfl,YR⟩)
   ·have hP:=YG
    have kx:=EI hn (by rw [hE];exact hK.1) hq.1 (by rw [hE];exact hak) (by rw [hL3v];exact hvs) hP
    have kl:=kx.1.len
    have hm1:(Wi M'1 ke.result).own.length=vs.length:=by rw [Fz.1,kl.own,kx.2.1]
    have hm2:(Wi M'1 ke.result).tok.length=vs.length:=by rw [Fz.2.1,kl.tok,kx.2.1]
    refine ZO 5 [8] (ic [0,0,0,0] (HK c1 wa3 wb3 wc3 n M'1 ln (TF L am s mk) ke L.vars.length (hlk:=kl) (hlb:=(by rw [kx.2.1];omega)) (hm:=(by rw [kx.2.1];omega)) (hr:=(by rw [kx.2.1];omega)) (hq:=(fun y hy=>by have h1:=kx.1.nn y hy;have h2:=kx.1.bd y hy;omega))) ?_)
    rintro _ _ (⟨rfl,rfl,Xl⟩|⟨rfl,rfl,W2⟩)
    ·have hB:=Xl
     rw [<-H5 (f:=U0 L.vars.length ke.result) hP,hE,<-QB] at hB
     exact Z0 (Wr (ak (ab 4 (Ya 1 (iQ true (Z0 (Wc (Td (az (ZJ k (Z0 (ZK (.inr ⟨k+1,c1,wa3,wb3,wc3,(Wi M'1 ke.result),(TF L am s mk),om,(by subst Yj;have e:=Qh (hkd.symm.trans hke);subst e;exact hB),om,(by subst Yj;rfl),rfl,rfl,rfl⟩) (wk [0,0,0,0,0,0,0,0,1] (fr (ZM k fl)))))))))))))))
    have hB:=W2
    rw [<-H5 (f:=U0 L.vars.length ke.result) hP,hE,<-QB] at hB
    exact Z0 (Wc (ar (Zr (r1 [] (.inr ⟨rfl,rfl,(by subst Yj;have e:=Qh (hkd.symm.trans hke);subst e;rw [hgo,hB];rfl)⟩)))))
   have hB:Wk n ln (WX n.decls L s.op s.num s.args k) L.vars.length ke=none:=by rw [QB,<-hE,YR];rfl
   exact Z0 (Wc (ar (Zr (r1 [] (.inr ⟨rfl,rfl,(by subst Yj;have e:=Qh (hkd.symm.trans hke);subst e;rw [hgo,hB];rfl)⟩)))))
  exact absurd hk2 om
 refine ZE (aq (W9 ((k:Int)<(s.kids.length:Int)) (fun Xo=>?_) (fun Xo=>?_)))
 ·obtain ⟨ke,hke⟩:=Zs s.kids k om
  obtain ⟨mk,hmk⟩:=Zs (Xu n.decls s.op s.num) k om
  have hK:=D8 hk hq.1 hf hop hmk
  have hmk3:=F4 XB hmk
  have hks:=Tx hke
  have hbt:=hk3 k ke mk hke hmk
  obtain ⟨vs,rt,hvs,hres,hrt⟩:=DK hbt
  have hri:=J1 hres
  have hsrr:UQ ke.steps:=by
   have h:=Fa hr2.2 hke
   rwa [Z6.rng_eq] at h
  have hbz:=ke.sz_eq
  have hak:=N9 hn har hlk hop (by rw [hgx];exact hx) hmk
  have hsl:=EH hvs
  rw [Yt] at hsl
  have hkl:=N8 (L:=L) (am:=am) (s:=s) (m:=mk)
  refine ak (aq (ab 1 (Ya 1 (Zo (Zj none (k:Int) 2 (T9 hke)) (Z2 1 (iA [nl,.i 0] fun b3=>Z2 1 (ZI 0 b3 (Xm ke) (ie (Ya 1 (ic [5,5,5,5] (Nn b ga gb gc n L ln am) ?_))))))))))
  rintro _ _ ⟨c2,wa4,wb4,wc4,rfl,rfl⟩
  refine Z0 (X9 (VT [13] (XW (fun fz gz F h=>F=sF [0,3,5,6,7,8,9,10,45,46,47] fz []/\h=[.obj c2 [ZT n.decls,YW n,Z5 ln,Xi (TF L am s mk),.h wa4,.h wb4,.h wc4],Zc gz 1,Zc gz 2,Zc gz 3,Zc gz 4,Zc gz 5,Zc gz 6,Zc gz 7,Zc gz 8,Zc gz 9,Zc gz 10,Zc gz 11,Zc gz 12,Zc gz 13]) ?_ ?_)))
  ·refine ac (s.op==8) Zq (fun U2=>?_) (fun U2=>?_)
   ·exact aE 19 (ZH 12 19 [0,1,2,3,4,5,6] [4,13] (dx 7 (Zj none 0 1 (Y3 ha)) (Zm 7 11 [8,9,10,11] (dx 12 (Zj none (k:Int) 1 (B7 hmk)) (Zm 4 6 [13,14] (Z9 15 (Yo 15 [] [] [] (Nc am (Xj.mk x (L.vars.length:Int) mk false)) (Zm 1 3 [16,17] (Z9 18 (YK 18 0 [] [] c2 [ZT n.decls,YW n,Z5 ln,Xi (am++[(Xj.mk x (L.vars.length:Int) mk false)]),.h wa4,.h wb4,.h wc4] (de (ZP ⟨rfl,rfl⟩ (ZG 14 fl (e:=(ro (ls:=[ZT n.decls,YW n,Z5 ln,Xi (am++[(Xj.mk x (L.vars.length:Int) mk false)]),.h wa4,.h wb4,.h wc4]) (by rw [TF,Zd ‹s.op=8›,hgx]) (rc (rc (rc (rc (rc (rc (rc (rc (rc (rc (rc (rc (rc rz))))))))))))))))))))))))))))
   exact ak (ZP ⟨rfl,rfl⟩ (ZG 14 fl (e:=(ro (ls:=[ZT n.decls,YW n,Z5 ln,Xi am,.h wa4,.h wb4,.h wc4]) (by rw [TF,Z8 ‹¬s.op=8›]) (rc (rc (rc (rc (rc (rc (rc (rc (rc (rc (rc (rc (rc rz)))))))))))))))))
  rintro F h ⟨rfl,rfl⟩
  refine YO 2 (Zo (Zj none (k:Int) 1 (B7 hmk)) (Z2 1 (iw (Yf mk) (Z0 (ab 2 (Y6 (fun fz gz m F h=>∃(j:Nat) (L3:Ve) (ka:Hd) (kb:Hd) (kc:Hd),(j<=mk.length)/\(Wq L3)/\(L3.vars.length=L.vars.length+j)/\(Q7 L3 (gI s.args 0) (mk.drop j)=WX n.decls L s.op s.num s.args k)/\F=sF [0,3,5,6,7,9,10,45,46,47,78,79] fz [(80,.i j)]/\h=[.obj c2 [ZT n.decls,YW n,Z5 ln,Xi (TF L am s mk),.h ka,.h kb,.h kc],Zc gz 4,Zc gz 5,Zc gz 6,Zc gz 7,Zc gz 8,Zc gz 9,Zc gz 10,Zc gz 11,Zc gz 12,Zc gz 13,rV ka L3.vars,rV kb L3.own,rV kc L3.tok]/\m=mk.length-j) _ _ _ ⟨0,(Jh n L s k),wa4,wb4,wc4,ob,(Z0h hlk),(by rw [BB];rfl),(by rw [TZ];exact Z0g hop hmk),rfl,rfl,rfl⟩ (wk [0,3,3,3,3,3,3,3,3,3,3,0,0,0] (Yd fl) (e:=(rc (rc (rc (rc (rc (rc (rc (rc (rc (rc (rc (rv (xs:=L.vars) (by first|rw [BB]|rw [Dp]|rw [Dq]) (rv (xs:=L.own) (by first|rw [BB]|rw [Dp]|rw [Dq]) (rv (xs:=L.tok) (by first|rw [BB]|rw [Dp]|rw [Dq]) rz)))))))))))))))) ?_))))))
  rintro m F h ⟨j,L3,ka,kb,kc,Up,Wa,XZ,Jr,rfl,rfl,rfl⟩
  refine ZE (aq (W9 ((j:Int)<(mk.length:Int)) (fun VR=>?_) (fun VR=>?_)))
  ·obtain ⟨xm,hxm⟩:=Zs mk j om
   refine ak (aq (ab 3 (ar (Zo (Zj none (j:Int) 1 (Y3 hxm)) (Z0 (az (Z2 2 (ic [0,10,10,10] (Cu c2 ka kb kc n L3 ln (TF L am s mk) xm 0 (hlk:=Wa)) ?_))))))))
   rintro _ _ ⟨wa5,wb5,wc5,rfl⟩
   exact ie (az (ZJ j (Z0 (ZK ⟨j+1,(L3.grow xm 0 (gI s.args 0)),wa5,wb5,wc5,ob,(Wq.grow Wa),(by simp [Zh.grow];omega),(by rw [Y9 hxm,Q7] at Jr;exact Jr),rfl,rfl,rfl⟩ (wk [0,3,3,3,3,3,3,3,3,3,3,0,0,0] (ZM j fl) (e:=(rc (rc (rc (rc (rc (rc (rc (rc (rc (rc (rc (rv (xs:=(L3.grow xm 0 (-1)).vars) ob (rv (xs:=(L3.grow xm 0 (-1)).own) ob (rv (xs:=(L3.grow xm 0 (-1)).tok) ob rz))))))))))))))))))))
  have hE:L3=WX n.decls L s.op s.num s.args k:=by rw [<-Jr,Xn om];rfl
  have hL3v:L3.vars=L.vars++mk:=by rw [hE];exact hK.2
  have hL3l:L3.vars.length=L.vars.length+mk.length:=by rw [hL3v,Yt]
  refine ax 2 (Yl 3 [5] (ic [0,10,10,10] (ih ke.steps c2 ka kb kc L3 (TF L am s mk) q vs ob (by rw [hE];exact hK.1) (by rw [hE];exact hak) (by rw [hL3v];exact hvs) (by rw [hL3v];exact Ei hnn (Na hty hmk)) om om hsrr) ?_))
  rintro _ _ (⟨wa6,wb6,wc6,M'2,rfl,rfl,WG⟩|⟨rfl,rfl,V3⟩)
  ·have hP:=WG
   have kx:=EI hn (by rw [hE];exact hK.1) hq.1 (by rw [hE];exact hak) (by rw [hL3v];exact hvs) hP
   have kl:=kx.1.len
   have hm1:(Wi M'2 ke.result).own.length=vs.length:=by rw [Fz.1,kl.own,kx.2.1]
   have hm2:(Wi M'2 ke.result).tok.length=vs.length:=by rw [Fz.2.1,kl.tok,kx.2.1]
   refine ZO 5 [8] (ic [0,0,0,0] (HK c2 wa6 wb6 wc6 n M'2 ln (TF L am s mk) ke L.vars.length (hlk:=kl) (hlb:=(by rw [kx.2.1];omega)) (hm:=(by rw [kx.2.1];omega)) (hr:=(by rw [kx.2.1];omega)) (hq:=(fun y hy=>by have h1:=kx.1.nn y hy;have h2:=kx.1.bd y hy;omega))) ?_)
   rintro _ _ (⟨rfl,rfl,Vr⟩|⟨rfl,rfl,UK⟩)
   ·have hB:=Vr
    rw [<-H5 (f:=U0 L.vars.length ke.result) hP,hE,<-QB] at hB
    refine Z0 (Wr (ak (ab 4 (Ya 1 (iQ false (Z0 (Wr (aD 31 (ZH 26 31 [0,1,2,3,4] [0] (dx 5 (Kr 2 wb6 ((Wi M'2 ke.result).own) L.vars.length) (ZH 20 25 [6,7,8,9,10] [9] (dx 11 (Kr 11 ub O.own L.vars.length) (Z9 12 (T7 12 [2,10] [] [] [rV wb6 ((Wi M'2 ke.result).own),rV ub O.own] (Ci (((Wi M'2 ke.result).own).take L.vars.length) (O.own.take L.vars.length)) Cx (gC (v:=wb6) (ys:=(Wi M'2 ke.result).own) 0 L.vars.length (gC (v:=ub) (ys:=O.own) 1 L.vars.length gN)) (Ut (Ut Tg)) ?_))))))))))))))
    rintro _ _ ⟨rfl,rfl⟩
    refine Ak [0,3,5,6,7,45,46,47] [(104,.b ((!(decide ((((Wi M'2 ke.result).own).take L.vars.length)=(O.own.take L.vars.length))))||(!(decide ((((Wi M'2 ke.result).tok).take L.vars.length)=(O.tok.take L.vars.length))))))] (fun gz=>gz) ?_ ?_
    ·refine Zm 16 18 [13,14] (db (b:=(!(decide ((((Wi M'2 ke.result).own).take L.vars.length)=(O.own.take L.vars.length))))) 119 (fun ZB=>?_) (fun ZB=>?_))
     ·have Te:¬((((Wi M'2 ke.result).own).take L.vars.length)=(O.own.take L.vars.length)):=((YA dq)).1 ZB
      exact Zm 0 16 [15,16,17,18,19,20,21,22,23,24,25,26,27,28,29,30] (de (ZG 14 (Zt true ZB fl)))
     have Tf:¬(¬((((Wi M'2 ke.result).own).take L.vars.length)=(O.own.take L.vars.length))):=Yh (YA dq) ZB
     refine ZH 11 16 [15,16,17,18,19] [2] (dx 20 (Kr 4 wc6 ((Wi M'2 ke.result).tok) L.vars.length) (ZH 5 10 [21,22,23,24,25] [10] (dx 26 (Kr 12 uc O.tok L.vars.length) (Z9 27 (T7 27 [4,11] [] [] [rV wc6 ((Wi M'2 ke.result).tok),rV uc O.tok] (Ci (((Wi M'2 ke.result).tok).take L.vars.length) (O.tok.take L.vars.length)) Cx (gC (v:=wc6) (ys:=(Wi M'2 ke.result).tok) 0 L.vars.length (gC (v:=uc) (ys:=O.tok) 1 L.vars.length gN)) (Ut (Ut Tg)) ?_)))))
     rintro _ _ ⟨rfl,rfl⟩
     exact Zm 0 3 [28,29,30] (de (wk [2,2,2,2,0,1,1,1,1,1,1,1,0,0] (Zt (!(decide ((((Wi M'2 ke.result).tok).take L.vars.length)=(O.tok.take L.vars.length)))) ZB fl)))
    refine ac ((!(decide ((((Wi M'2 ke.result).own).take L.vars.length)=(O.own.take L.vars.length))))||(!(decide ((((Wi M'2 ke.result).tok).take L.vars.length)=(O.tok.take L.vars.length))))) (p:=(¬((((Wi M'2 ke.result).own).take L.vars.length)=(O.own.take L.vars.length)))∨(¬((((Wi M'2 ke.result).tok).take L.vars.length)=(O.tok.take L.vars.length)))) (Yr (YA dq) (YA dq)) (fun VS=>?_) (fun VS=>?_)
    ·exact ar (Zr (r1 [] (.inr ⟨rfl,rfl,(by rw [hgo,d0_1];exact Eh (by rw [<-d0_3,Ec hke,hB];exact St (VS.imp (fun h g=>h g.symm) (fun h g=>h g.symm))))⟩)))
    exact ak (az (ZJ k (Z0 (ZK (.inr ⟨k+1,c0,ua,ub,uc,O,aO,om,d0_1,d0_2,(by rw [Ec hke,hB,Su (fun z=>VS (z.imp (fun h g=>h g.symm) (fun h g=>h g.symm)))] at d0_3;exact d0_3),rfl,rfl,rfl⟩) (wk [10,10,1,9,4,4,4,4,5] (fr (ZM k fl)))))))
   have hB:=UK
   rw [<-H5 (f:=U0 L.vars.length ke.result) hP,hE,<-QB] at hB
   exact Z0 (Wc (ar (Zr (r1 [] (.inr ⟨rfl,rfl,(by rw [hgo,d0_1];exact Eh (by rw [<-d0_3,Ec hke,hB];rfl))⟩)))))
  have hB:Wk n ln (WX n.decls L s.op s.num s.args k) L.vars.length ke=none:=by rw [QB,<-hE,V3];rfl
  exact Z0 (Wc (ar (Zr (r1 [] (.inr ⟨rfl,rfl,(by rw [hgo,d0_1];exact Eh (by rw [<-d0_3,Ec hke,hB];rfl))⟩)))))
 refine ax 0 (aD 22 (ZH 15 22 [0,1,2,3,4,5,6] [0] (dx 7 (Kr 2 ub O.own L.vars.length) (ZH 9 14 [9,10,11,12,13] [0] (dx 14 (Kr 3 uc O.tok L.vars.length) (Z9 8 (T7 8 [2] [0] [c0] [rV ub O.own] (DN (O.own.take L.vars.length)) Jt (gC (v:=ub) (ys:=O.own) 0 L.vars.length gN) (Ut Tg) ?_)))))))
 rintro _ _ ⟨v2,rfl,rfl⟩
 refine Z9 15 (T7 15 [4] [] [] [rV uc O.tok] (DN (O.tok.take L.vars.length)) Jt (gC (v:=uc) (ys:=O.tok) 0 L.vars.length gN) (Ut Tg) ?_)
 rintro _ _ ⟨v3,rfl,rfl⟩
 exact Zm 4 6 [16,17] (Z9 18 (YK 18 6 [] [] b [ZT n.decls,YW n,Z5 ln,Xi am,.h ga,.h v2,.h gc] (Zm 1 3 [19,20] (Z9 21 (YK 21 0 [] [] b [ZT n.decls,YW n,Z5 ln,Xi am,.h ga,.h v2,.h v3] (de (ar (Zr (r1 [0,6,2,0] (.inl ⟨ga,v2,v3,(Zh.mk L.vars (O.own.take L.vars.length) L.par L.con L.fst (O.tok.take L.vars.length)),rfl,rfl,(by rw [hgo,d0_1];exact Rg (by rw [<-d0_3,Xn om];rfl))⟩) (eq:=(rc (rv (xs:=L.vars) ob (rv (xs:=(O.own.take L.vars.length)) ob (rv (xs:=(O.tok.take L.vars.length)) ob rz))))))))))))))
theorem IZ (n:Zi) (us:LI) (s:Z4) (hn:X6 n) (hty:Kv n) (hnn:∀t∈us,0<=t) (hb:us.length+4*s.sz<=1000000000) (hr:s.rng):Zk 127 [.agg [ZT n.decls,YW n],Z5 us,YI s] [] (fun r h=>∃(t:Int),r=.tup [.i t,.b (decide (0<=Yc n us s))]/\h=[]/\(¬YF s.op=true->0<=Yc n us s->t=Yc n us s)):=
 Pl n us s hn hty hnn hb hr fun b us2 _ h2 h3 h4=>Pe n us2 b hn hty h4 h2 h3
theorem Z3b (b:Nat) (ga:Hd) (gb:Hd) (gc:Hd) (n:Zi) (L:Ve) (ln:LI) (am:List Xj) (s:Z4) (q:Int) (hn:X6 n:=by exact ob) (hty:Kv n:=by exact ob) (hlt:BQ n:=by exact ob) (hk:Xb n.decls L q:=by exact ob) (har:V0 n.decls L am:=by exact ob) (hln:ln.length<=4294967296:=by exact ob) (ht:0<=Yc n L.vars s:=by exact ob) (hnn:∀t∈L.vars,0<=t) (hb:L.vars.length+am.length+4*s.sz<=900000000:=by exact ob) (hq:0<=q/\q+4*s.sz<=999999980:=by exact ob) (hr:s.rng:=by exact ob) (ih:∀(ys:List Z4) (c:Nat) (ra:Hd) (rb:Hd) (rc:Hd) (M:Ve) (a2:List Xj) (p:Int) (vs:LI),(Yb ys<s.sz)->(Xb n.decls M p)->(V0 n.decls M a2)->(XC n ys M.vars=some vs)->(∀t∈M.vars,0<=t)->(M.vars.length+a2.length+4*Yb ys<=900000000)->(0<=p/\p+4*Yb ys<=999999980)->(UQ ys)->Zk 124 [.p c 0,Wz ys] [.obj c [ZT n.decls,YW n,Z5 ln,Xi a2,.h ra,.h rb,.h rc],rV ra M.vars,rV rb M.own,rV rc M.tok] (fun r h=>(∃(wa:Hd) (wb:Hd) (wc:Hd) (M':Ve),r=.b true/\h=[.obj c [ZT n.decls,YW n,Z5 ln,Xi a2,.h wa,.h wb,.h wc],rV wa M'.vars,rV wb M'.own,rV wc M'.tok]/\XK n ln M ys=some M')∨(r=.b false/\h=[]/\XK n ln M ys=none))):Zk 177 [.p b 0,YI s] [.obj b [ZT n.decls,YW n,Z5 ln,Xi am,.h ga,.h gb,.h gc],rV ga L.vars,rV gb L.own,rV gc L.tok] (fun r h=>(∃(wa:Hd) (wb:Hd) (wc:Hd) (L':Ve),r=.b true/\h=[.obj b [ZT n.decls,YW n,Z5 ln,Xi am,.h wa,.h wb,.h wc],rV wa L'.vars,rV wb L'.own,rV wc L'.tok]/\Vb n ln L s=some L')∨(r=.b false/\h=[]/\Vb n ln L s=none)):=by
 have hlk:=hk.len
 obtain ⟨e1,e2,e3,e4,e5⟩:=hk.len
 have hf:=EF ht
 have hkz:=TK s
 have haz:=QA s
 have hlh:=Zbu hlt ht
 refine ZF 58 Tryz.func177 (ar (iA (XG s) fun b1=>Z0 (aq (ab 0 (Zw 2 [0] (Zz [] (IY s.op) (YH (YF s.op) Iff.rfl (fun Za=>?_) (fun Za=>?_))))))))
 ·obtain ⟨x,hxa⟩:=hf.one (.inr (.inr (by simpa [YF] using Za)))
  have ha:s.args[0]? = some x:=by rw [hxa];rfl
  have hx:=hf.args x (by rw [hxa];simp)
  have hgx:=JB ha
  have hal:=(Xq.1 ha).1
  refine aD 9 (ZH 4 9 [0,1,2,3,4] [0,0] (dx 5 (Zj none 0 1 (Y3 ha)) (Zm 2 3 [6] (Z9 7 (dc 7 [1,1,1,1] [] [] (Z37 b ga gb gc n L ln am s.op x q) ?_)))))
  rintro _ _ (⟨L'1,rfl,rfl,ZX⟩|⟨rfl,rfl,Yk⟩)
  ·exact Zm 0 1 [8] (de (ZD (r1 [0,0,0,0] (.inl ⟨ga,gb,gc,L'1,rfl,rfl,(by rw [Z0l Za hgx];exact ZX)⟩))))
  exact Zm 0 1 [8] (de (ZD (r1 [] (.inr ⟨rfl,rfl,(by rw [Z0l Za hgx];exact Yk)⟩))))
 refine ar (XU 8 [0,3] [(27,.b ((s.op==7)||(s.op==8)))] (fun gz=>gz) ?_ (fun hj1=>?_))
 ·refine YH ((s.op==7)||(s.op==8)) (p:=(s.op=7)∨(s.op=8)) (Yr Zq Zq) (fun Zg=>?_) (fun Zg=>?_)
  ·refine Zw 2 [0] (ic [1,1,1,1] (Z34 b ga gb gc n L ln am s q (hnn:=ob) (ih:=ih)) ?_)
   rintro _ _ (⟨wa1,wb1,wc1,L'2,rfl,rfl,YG⟩|⟨rfl,rfl,YR⟩)
   ·have hP:=(GC (n:=n) (ln:=ln) (L:=L) Zg).trans YG
    obtain ⟨kx,hxv⟩:=Br hn hk hq.1 hf hP
    refine Z0 (Wr (ak (aD 15 (ZH 6 15 [0,1,2,3,4,5,6,7,8] [0,0,4] (Z9 9 (T7 9 [1] [] [] [rV wa1 L'2.vars] (IZ n L'2.vars s ob ob (by rw [hxv];exact hnn) (by rw [hxv];omega) ob) HT (gS (gL (v:=wa1) 0 (gS gN))) (Ut Tg) ?_))))))
    rintro _ _ ⟨t1,rfl,rfl,Xl⟩
    rw [hxv] at Xl
    have hte:=Xl Za ht
    refine Zm 0 5 [10,11,12,13,14] (de (Ya 3 (iI t1 1 (ic [1,0,0,0] (Cu b wa1 wb1 wc1 n L'2 ln am t1 (min t1 1) (hlb:=(by rw [hxv];omega)) (hlk:=kx.len)) ?_))))
    rintro _ _ ⟨wa2,wb2,wc2,rfl⟩
    exact ie (ar (Zr (r1 [0,0,0,0] (.inl ⟨wa2,wb2,wc2,(L'2.grow t1 (min t1 1) (-1)),rfl,rfl,(Ms hP ht Za hte)⟩))))
   have hP:=(GC (n:=n) (ln:=ln) (L:=L) Zg).trans YR
   exact Z0 (Wc (ar (Zr (r1 [] (.inr ⟨rfl,rfl,(Z0m hP)⟩)))))
  refine Zw 2 [0] (Zz [] (Pg s.op) (YH (T6 s.op) Iff.rfl (fun ZC=>?_) (fun ZC=>?_)))
  ·refine Zw 2 [0] (ic [1,1,1,1] (Z36 b ga gb gc n L ln am s q (hlt:=hlh)) ?_)
   rintro _ _ (⟨L'3,rfl,rfl,W2⟩|⟨rfl,rfl,WG⟩)
   ·have hP:=(LL (n:=n) (ln:=ln) (L:=L) Za Zg).trans W2
    obtain ⟨kx,hxv⟩:=Br hn hk hq.1 hf hP
    refine Z0 (Wr (ak (aD 15 (ZH 6 15 [0,1,2,3,4,5,6,7,8] [0,0,4] (Z9 9 (T7 9 [1] [] [] [rV ga L'3.vars] (IZ n L'3.vars s ob ob (by rw [hxv];exact hnn) (by rw [hxv];omega) ob) HT (gS (gL (v:=ga) 0 (gS gN))) (Ut Tg) ?_))))))
    rintro _ _ ⟨t2,rfl,rfl,V3⟩
    rw [hxv] at V3
    have hte:=V3 Za ht
    refine Zm 0 5 [10,11,12,13,14] (de (Ya 3 (iI t2 1 (ic [1,0,0,0] (Cu b ga gb gc n L'3 ln am t2 (min t2 1) (hlb:=(by rw [hxv];omega)) (hlk:=kx.len)) ?_))))
    rintro _ _ ⟨wa3,wb3,wc3,rfl⟩
    exact ie (ar (Zr (r1 [0,0,0,0] (.inl ⟨wa3,wb3,wc3,(L'3.grow t2 (min t2 1) (-1)),rfl,rfl,(Ms hP ht Za hte)⟩))))
   have hP:=(LL (n:=n) (ln:=ln) (L:=L) Za Zg).trans WG
   exact Z0 (Wc (ar (Zr (r1 [] (.inr ⟨rfl,rfl,(Z0m hP)⟩)))))
  have hP:=Zd2 (ln:=ln) Za Zg ZC ht
  have hxv:L.vars=L.vars:=rfl
  have kx:=hk
  refine ak (aD 15 (ZH 6 15 [0,1,2,3,4,5,6,7,8] [1,1,0] (Z9 9 (T7 9 [2] [] [] [rV ga L.vars] (IZ n L.vars s ob ob (by rw [hxv];exact hnn) (by rw [hxv];omega) ob) HT (gS (gL (v:=ga) 0 (gS gN))) (Ut Tg) ?_))))
  rintro _ _ ⟨t3,rfl,rfl,Vr⟩
  rw [hxv] at Vr
  have hte:=Vr Za ht
  refine Zm 0 5 [10,11,12,13,14] (de (Ya 3 (iI t3 1 (ic [2,0,1,1] (Cu b ga gb gc n L ln am t3 (min t3 1) (hlb:=(by rw [hxv];omega)) (hlk:=kx.len)) ?_))))
  rintro _ _ ⟨wa4,wb4,wc4,rfl⟩
  exact ie (ar (Zr (r1 [0,0,0,0] (.inl ⟨wa4,wb4,wc4,(L.grow t3 (min t3 1) (-1)),rfl,rfl,(Ms hP ht Za hte)⟩))))
 refine ZO 4 [0] (ib (b:=(s.op==7)) 23 (fun Zb=>?_) (fun Zb=>?_))
 ·have UK:s.op=7:=(Zq).1 Zb
  exact Z2 4 (YB (ZG 5 (Zt true Zb fl)) hj1)
 have Te:¬(s.op=7):=Yh Zq Zb
 exact ZO 4 [0] (YB (ZG 5 (Zt (s.op==8) Zb fl)) hj1)
theorem Z3d (n:Zi) (ln:LI) (hn:X6 n) (hty:Kv n) (hlt:BQ n) (hln:ln.length<=4294967296) (m:Nat):∀(ys:List Z4) (c:Nat) (ra:Hd) (rb:Hd) (rc:Hd) (M:Ve) (a2:List Xj) (p:Int) (vs:LI),(Yb ys<m)->(Xb n.decls M p)->(V0 n.decls M a2)->(XC n ys M.vars=some vs)->(∀t∈M.vars,0<=t)->(M.vars.length+a2.length+4*Yb ys<=900000000)->(0<=p/\p+4*Yb ys<=999999980)->(UQ ys)->Zk 124 [.p c 0,Wz ys] [.obj c [ZT n.decls,YW n,Z5 ln,Xi a2,.h ra,.h rb,.h rc],rV ra M.vars,rV rb M.own,rV rc M.tok] (fun r h=>(∃(wa:Hd) (wb:Hd) (wc:Hd) (M':Ve),r=.b true/\h=[.obj c [ZT n.decls,YW n,Z5 ln,Xi a2,.h wa,.h wb,.h wc],rV wa M'.vars,rV wb M'.own,rV wc M'.tok]/\XK n ln M ys=some M')∨(r=.b false/\h=[]/\XK n ln M ys=none)):=by
 induction m with
 | zero=>intro ys c ra rb rc M a2 p vs h;omega
 | succ m ih=>
  intro ys c ra rb rc M a2 p vs h hk har ht hnn hb hp hr
  exact Z3c c ra rb rc n M ln a2 ys p vs hn hk har ht hnn hb hp hr fun s2 c ra rb rc M a2 p h1 hk har ht hnn hb hp hr=>Z3b c ra rb rc n M ln a2 s2 p hn hty hlt hk har hln ht hnn hb hp hr
   fun ys c ra rb rc M a2 p vs h2 hk har ht hnn hb hp hr=>ih ys c ra rb rc M a2 p vs om hk har ht hnn hb hp hr
theorem Ns (c:Nat) (ra:Hd) (rb:Hd) (rc:Hd) (n:Zi) (M:Ve) (ln:LI) (a2:List Xj) (ys:List Z4) (p:Int) (vs:LI) (hn:X6 n) (hty:Kv n) (hlt:BQ n) (hln:ln.length<=4294967296) (hk:Xb n.decls M p) (har:V0 n.decls M a2) (ht:XC n ys M.vars=some vs) (hnn:∀t∈M.vars,0<=t) (hb:M.vars.length+a2.length+4*Yb ys<=900000000) (hp:0<=p/\p+4*Yb ys<=999999980) (hr:UQ ys):Zk 124 [.p c 0,Wz ys] [.obj c [ZT n.decls,YW n,Z5 ln,Xi a2,.h ra,.h rb,.h rc],rV ra M.vars,rV rb M.own,rV rc M.tok] (fun r h=>(∃(wa:Hd) (wb:Hd) (wc:Hd) (M':Ve),r=.b true/\h=[.obj c [ZT n.decls,YW n,Z5 ln,Xi a2,.h wa,.h wb,.h wc],rV wa M'.vars,rV wb M'.own,rV wc M'.tok]/\XK n ln M ys=some M')∨(r=.b false/\h=[]/\XK n ln M ys=none)):=
 Z3d n ln hn hty hlt hln (Yb ys+1) ys c ra rb rc M a2 p vs om hk har ht hnn hb hp hr
theorem Za5 (n:Zi) (hz:Un n) (hs:U3 n=true):Zk 43 [Yq n] [] (Ys (.tup [.agg [ZT n.decls,YW n],.b (U3 n)])):=by
 refine (Ph n hz).mono fun r h q=>?_
 rcases q with ⟨h1,h2,_⟩|⟨_,_,h3⟩
 ·exact ⟨h1,h2⟩
 ·rw [hs] at h3;cases h3
theorem Nq (n:Zi) (f:Nat) (rt:Y8) (hn:X6 n:=by exact ob) (hz:Un n:=by exact ob) (hs:U3 n=true:=by exact ob) (hr:n.routines[f]? = some rt:=by exact ob):Zk 123 [Yq n,.i f] [] (fun r h=>∃(c:Nat) (wa:Hd) (wb:Hd) (wc:Hd),r=.p c 0/\h=[.obj c [ZT n.decls,YW n,Z5 rt.lent,Xi [],.h wa,.h wb,.h wc],rV wa ((WO rt).vars),rV wb ((WO rt).own),rV wc ((WO rt).tok)]):=by
 have hfl:=(Xq.1 hr).1
 have hpl:=hn.params_at hr
 have hll:=hn.lent_at hr
 refine ZF 58 Tryz.func123 (ar (iA (YU n) fun b1=>Z0 (Zw 1 [0] (Zz [] (Za5 n ob ob) (Z2 3 (iA [nl,nl] fun b2=>ZI 0 b2 [ZT n.decls,YW n] (Z0 (aD 10 (ZH 6 10 [0,1,2,3] [0,1] (dx 4 (Zj none (f:Int) 5 (Wv hr)) (Zm 2 5 [5,6,7] (Z9 8 (dA 8 [] [] [ZT n.decls,YW n,Z5 rt.lent,nl,nl,nl,nl] fun b3=>?_)))))))))))))
 refine BV (Z0z 0 b3 [ZT n.decls,YW n,Z5 rt.lent,nl,nl,nl,nl] [ZT n.decls,YW n,Z5 rt.lent,Xi [],.h hN,.h hN,.h hN] (.cons (lr _) (.cons (lr _) (.cons (lr _) (.cons (Ze.sl _ rfl) (.cons (Ze.hd (v:=hN)) (.cons (Ze.hd (v:=hN)) (.cons (Ze.hd (v:=hN)) .nil)))))))) (BV (JG) (BV (JG) (BV (JG) (Zm 0 1 [9] (de (Yl 3 [5] (Zo (Zj none (f:Int) 5 (Wv hr)) (Z2 2 (iw (Yf rt.params) (Z0 (ab 0 (Y6 (fun fz gz m F h=>∃(k:Nat) (L2:Ve) (ka:Hd) (kb:Hd) (kc:Hd),(k<=rt.params.length)/\(Wq L2)/\(L2.vars.length=k)/\(Kj rt.lent (rt.params.drop k) k L2=WO rt)/\F=sF [7,29,30] fz [(31,.i k)]/\h=[.obj b3 [ZT n.decls,YW n,Z5 rt.lent,Xi [],.h ka,.h kb,.h kc],rV ka L2.vars,rV kb L2.own,rV kc L2.tok]/\m=rt.params.length-k) _ _ _ ⟨0,(Zh.mk [] [] [] [] [] []),hN,hN,hN,ob,⟨rfl,rfl,rfl,rfl,rfl⟩,rfl,rfl,rfl,rfl,rfl⟩ (wk [3,0,0,0] (Yd fl) (e:=(rc (rv (xs:=[]) ob (rv (xs:=[]) ob (rv (xs:=[]) ob rz)))))) ?_))))))))))))
 rintro m F h ⟨k,L2,ka,kb,kc,Yj,Zl,Zy,Yv,rfl,rfl,rfl⟩
 refine ZE (aq (W9 ((k:Int)<(rt.params.length:Int)) (fun Za=>?_) (fun Za=>?_)))
 ·refine ak (aq (ab 1 (Ya 1 ?_)))
  obtain ⟨x1,Z3⟩:=Zs rt.params k om
  have hgl:(L2.grow x1 0 (-1)).own.length=k+1:=by simp [Zh.grow,Zl.own,Zy]
  refine Zo (Zj none (k:Int) 1 (Y3 Z3)) (Z0 (Ya 2 (ic [0,0,0,0] (Cu b3 ka kb kc n L2 rt.lent [] x1 0) ?_)))
  rintro _ _ ⟨wa1,wb1,wc1,rfl⟩
  refine ie (ar (Xv [7,8,29,30,31] [(49,.b ((x1 != 0)&&(!(decide ((k:Int)∈rt.lent)))))] (fun gz=>gz) ?_ ?_))
  ·refine Z2 3 (ib (b:=(x1 != 0)) 41 (fun Zb=>?_) (fun Zb=>?_))
   ·have ZX:x1≠0:=(Ym).1 Zb
    exact ZO 5 [0] (Zz [] (Mi rt.lent (k:Int)) (Z0 (ZG 4 (Zt (!(decide ((k:Int)∈rt.lent))) Zb fl))))
   have Yk:¬(x1≠0):=Yh Ym Zb
   exact Z0 (ZG 4 (Zt false Zb fl))
  refine ac ((x1 != 0)&&(!(decide ((k:Int)∈rt.lent)))) (p:=(x1≠0)/\(¬((k:Int)∈rt.lent))) (YL Ym (YA dq)) (fun Zg=>?_) (fun Zg=>?_)
  ·exact az (ZO 5 [0] (Zo (Wo 2 wb1 ((L2.grow x1 0 (-1)).own) (k:Int) k) (CZ 2 wb1 ((L2.grow x1 0 (-1)).own) k 1 (ie (az (ZJ k (Z0 (ZK ⟨k+1,(L2.grow x1 1 (-1)),wa1,wb1,wc1,ob,(Wq.grow Zl),(by simp [Zh.grow];omega),(by rw [Y9 Z3,Kj] at Yv;first|(rw [Zd (by assumption)] at Yv;exact Yv)|(rw [Z8 (by assumption)] at Yv;exact Yv)),rfl,rfl,rfl⟩ (wk [1,1,0,0] (ZM k fl) (e:=(rc (rv (xs:=(L2.grow x1 0 (-1)).vars) (by first|rfl|exact Mb (by rw [Zl.own,Zy])) (rv (xs:=(((L2.grow x1 0 (-1)).own).set k 1)) (by first|rfl|exact Mb (by rw [Zl.own,Zy])) (rv (xs:=(L2.grow x1 0 (-1)).tok) (by first|rfl|exact Mb (by rw [Zl.own,Zy])) rz))))))))))))))
  exact ak (az (ZJ k (Z0 (ZK ⟨k+1,(L2.grow x1 0 (-1)),wa1,wb1,wc1,ob,(Wq.grow Zl),(by simp [Zh.grow];omega),(by rw [Y9 Z3,Kj] at Yv;first|(rw [Zd (by assumption)] at Yv;exact Yv)|(rw [Z8 (by assumption)] at Yv;exact Yv)),rfl,rfl,rfl⟩ (ZG 4 (ZM k fl))))))
 refine ax 0 (ZE ?_)
 have hNl:L2=WO rt:=by rw [<-Yv,Xn om];rfl
 exact ZD (r1 [0,0,0,0] ⟨b3,ka,kb,kc,rfl,rfl⟩ (eq:=(rc (rv (xs:=L2.vars) (by rw [hNl]) (rv (xs:=L2.own) (by rw [hNl]) (rv (xs:=L2.tok) (by rw [hNl]) rz))))))
theorem Z9x (n:Zi) (f:Nat) (rt:Y8) (hn:X6 n:=by exact ob) (hty:Kv n:=by exact ob) (hlt:BQ n:=by exact ob) (hz:Un n:=by exact ob) (hs:U3 n=true:=by exact ob) (hr:n.routines[f]? = some rt:=by exact ob) (ht:0<=Xh n rt.params rt.body:=by exact ob) (hrr:rt.body.rng:=by exact ob):Zk 65 [Yq n,.i f] [] (Ys (.b (U8 n rt))):=by
 have hfl:=(Xq.1 hr).1
 have hpl:=hn.params_at hr
 have hll:=hn.lent_at hr
 have hrm:=ZW hr
 have hbd:=hz.body rt hrm
 have hbz:=rt.body.sz_eq
 obtain ⟨hk,hkv⟩:=Ca n.decls rt
 obtain ⟨vs,t0,hvs,hres,hrt⟩:=DK ht
 have hri:=J1 hres
 have hsl:=EH hvs
 rw [rt.body.rng_eq] at hrr
 refine ZF 25 Tryz.func65 (ar (iA (YU n) fun b1=>Z0 (Zw 2 [0] (ic [] (Nq n f rt) ?_))))
 rintro _ _ ⟨c1,wa1,wb1,wc1,rfl,rfl⟩
 refine Z0 (Zw 3 [4] (Zo (Zj none (f:Int) 5 (Wv hr)) (Z2 2 (iA [nl,.i 0] fun b2=>ZI 0 b2 (Xm rt.body) (ie (Zw 3 [0] (ic [1,1,1,1] (Ns c1 wa1 wb1 wc1 n (WO rt) rt.lent [] rt.body.steps 1 vs ob ob ob ob hk (Gq rt) (by rw [hkv];exact hvs) (by rw [hkv];exact hty.params rt hrm) (by rw [hkv,XA];omega) ob ob) ?_)))))))
 rintro _ _ (⟨wa2,wb2,wc2,M'1,rfl,rfl,ZX⟩|⟨rfl,rfl,Yk⟩)
 ·have hP:=ZX
  have kx:=EI hn hk om (Gq rt) (by rw [hkv];exact hvs) hP
  have kl:=kx.1.len
  refine ZO 3 [4] (ic [0,0,0,0] (HK c1 wa2 wb2 wc2 n M'1 rt.lent [] rt.body 0 (hlk:=kl) (hlb:=(by rw [kx.2.1];omega)) (hr:=(by rw [kx.2.1];omega)) (hq:=(fun y hy=>by have h1:=kx.1.nn y hy;have h2:=kx.1.bd y hy;omega))) ?_)
  rintro _ _ (⟨rfl,rfl,YG⟩|⟨rfl,rfl,YR⟩)
  ·have hB:=YG
   exact Zr (Y4 (.b true) (lb (by rw [Sd hP (by rw [kl.own,kl.tok]),hB];rfl)))
  have hB:=YR
  exact Zr (Y4 (.b false) (lb (by rw [Sd hP (by rw [kl.own,kl.tok]),hB];rfl)))
 have hP:=Yk
 exact Zr (Y4 (.b false) (lb (by rw [Zdt hP])))
theorem G3 (n:Zi) (hz:Un n:=by exact ob) (hr:∀r∈n.routines,r.body.rng):Zk 23 [Yq n] [] (Ys (.b (Xt n))):=by
 have hzl:=hz.len
 refine ZF 18 Tryz.func23 (ar (iA (YU n) fun b1=>Z0 (Yl 1 [0] (Zz [] (G4 n (hr:=hr)) (YH (!XV n) (p:=¬(XV n=true)) (YA Iff.rfl) (fun Za=>?_) (fun Za=>?_))))))
 ·exact ar (Zr (Y4 (.b false) (lb (by first|rfl|omega|grind [Xt]))))
 have hV:XV n=true:=Vy.1 Za
 obtain ⟨hok,hall⟩:=Co hz hV
 have hsg:U3 n=true:=by rw [XV,W6] at hV;exact hV.1
 have hty:=Ly hsg
 have hlt:=Rn hsg
 refine ak (Yl 2 [0] (iw (Ur n.routines) (Z0 (ab 0 (Y6 (fun fz gz m F h=>∃(k:Nat),(k<=n.routines.length)/\(QZ n (n.routines.drop k)=QZ n n.routines)/\F=sF [1,9] fz [(10,.i k)]/\h=gz/\m=n.routines.length-k) _ _ _ ⟨0,ob,ob,rfl,rfl,rfl⟩ (wk [0] (Yd fl)) ?_)))))
 rintro m F h ⟨k,Yj,Zl,rfl,rfl,rfl⟩
 refine ZE (aq (W9 ((k:Int)<(n.routines.length:Int)) (fun Zg=>?_) (fun Zg=>?_)))
 ·obtain ⟨rt,hrt⟩:=Zs n.routines k om
  have hrm:=ZW hrt
  refine ak (aq (ab 1 (ZE (Zw 2 [0] (Zz [] (Z9x n k rt (hr:=hrt) (ht:=(hall rt hrm)) (hrr:=(hr rt hrm))) (YH (!U8 n rt) (p:=¬(U8 n rt=true)) (YA Iff.rfl) (fun ZC=>?_) (fun ZC=>?_)))))))
  ·refine ZE ?_
   rw [Y9 hrt] at Zl
   exact ZD (Y4 (.b false) (lb (by first|rfl|omega|grind [QZ,Xt])))
  refine ak (az (ZJ k (Z0 ?_)))
  have hdr:=Y9 hrt
  exact ZK ⟨k+1,ob,(by rw [hdr] at Zl;clear hdr ;grind [QZ]),rfl,rfl,rfl⟩ (wk [0] (ZM k fl))
 refine ax 0 (ZE ?_)
 try rw [Xn (xs:=n.routines) (k:=k) om] at Zl
 exact ZD (Y4 (.b true) (lb (by first|rfl|omega|grind [QZ,Xt])))
open Go.Proofs
open Go.Proofs
open Go.Proofs
open Go.Proofs
open Go.Proofs
open Go.Proofs
open Go.Proofs
theorem Zbb (n:Zi) (f0:Nat) (b:Z6) (rt:Y8) (hr:n.routines[f0]? = some rt) (hl:n.routines.length<=1000000) (hp:rt.params.length<=4294967296) (hl2:rt.lent.length<=4294967296):Zk 26 [Yq n,.i f0,ZZ b] [] (fun r h=>∃(g:Nat) (c:Nat),r=.agg [ZT n.decls,.ms g 0 n.routines.length c]/\h=[.row (.slice (some ⟨g,0,none⟩) n.routines.length c) 5 (Zp (YQ (n.routines.set f0 (Y8.mk rt.params rt.lent rt.result b))))]):=by
 have hfl:=(Xq.1 hr).1
 refine ZF 39 Tryz.func26 (ar (iA (YU n) fun b1=>iA (Xm b) fun b2=>iA [nl,nl] fun b3=>ie (ar (CY 5 fun g1=>ZO 2 [3] (IX 0 g1 5 (YQ n.routines) none (UV _) (by simp<;>omega) fun v1=>E8 0 n.routines.length (v:=v1) (CO _) om (fun g2 c1 he1=>?_))))))
 subst he1
 exact Z0 (aD 24 (ZH 19 24 [0,1,2,3,4] [3] (dx 5 (Zj none (f0:Int) 5 (Wv hr)) (ZH 13 18 [6,7,8,9,10] [3] (dx 11 (Zj none (f0:Int) 5 (Wv hr)) (ZH 7 12 [12,13,14,15,16] [3] (dx 17 (Zj none (f0:Int) 5 (Wv hr)) (ZH 2 6 [18,19,20,21] [2] (dx 22 (Ww g2 n.routines.length c1 f0 5 (f0:Int)) (Z9 23 (B5 23 0 [] [] g2 n.routines.length c1 5 (f0*5) [Z5 rt.params,Z5 rt.lent,.i rt.result,Wz b.steps,.i b.result] (Zp (YQ n.routines)) (Zp (YQ (n.routines.set f0 (Y8.mk rt.params rt.lent rt.result b)))) (by rw [CO];simp only [YT,XA];omega) (Ox (Y8.mk rt.params rt.lent rt.result b) hfl) (de (Zw 4 [3] (ZI 1 b3 [ZT n.decls,.ms g2 0 n.routines.length c1] (ie (ZD (r3 [1] [.agg [ZT n.decls,.ms g2 0 n.routines.length c1]] [0] [(b3,b3)] ⟨g2,c1,rfl,rfl⟩ (lr _))))))))))))))))))
theorem PX (n:Zi) (f0:Nat) (b:Z6) (rt:Y8) (hr:n.routines[f0]? = some rt:=by exact ob) (hl:n.routines.length<=1000000:=by exact ob) (hp:rt.params.length<=4294967296:=by exact ob) (hl2:rt.lent.length<=4294967296:=by exact ob):Zk 26 [Yq n,.i f0,ZZ b] [] (Ys (Yq (withR n f0 rt b))):=(WR.frzN (ds:=n.decls) (rs:=(n.routines.set f0 (Y8.mk rt.params rt.lent rt.result b))) (hs:=[]) ((Zbb n f0 b rt hr hl hp hl2).mono fun r h ⟨g,c,e1,e2⟩=>⟨g,c,by rw [e1];simp only [Vc],by rw [e2];simp only [Vc]⟩))
open Go.Proofs
theorem H0 (n:Zi) (hz:Un n:=by exact ob):Zk 25 [Yq n] [] (Ys (.b (Xt n))):=by
 exact ZF 5 Tryz.func25 (ar (iA (YU n) fun b1=>Z0 (Zw 1 [0] (Zz [] (Zfd n) (Zr (Dr))))))
theorem OH (code:LI) (hcl:code.length<=1048576:=by exact ob) (hcb:∀z∈code,0<=z/\z<=255):Zk 24 [Uh code] [] (fun r h=>∃(n2:Zi),r=Yq n2/\h=[]/\ZS n2 7330632 11):=by
 refine ZF 10 Tryz.func24 (ar (iA [nl,nl] fun b1=>ie (Ya 1 (ic [] (Z89 code (hc:=hcb)) ?_))))
 rintro _ _ ⟨rd1,bs1,rfl,rfl,ZX⟩
 have hnr:=ZX
 refine Z0 (Ya 2 (ic [0] (Z73 rd1 bs1 0 (ZL:=hnr)) ?_))
 rintro _ _ ⟨n1,p21,rfl,rfl,Yk⟩
 have hbf:=Yk.1.zs
 refine ic [0] (Z8s rd1 bs1 p21 n1 3 7330630 10 (ZL:=hnr) (hzn:=hbf)) ?_
 rintro _ _ ⟨n21,p22,rfl,rfl,YG⟩
 have hsf:=YG
 exact ZI 1 b1 (YU n21) (ie (ZD (r3 [] [Yq n21] [0] [(b1,b1)] ⟨n21,rfl,rfl,hsf.1⟩ (lr _))))
theorem PY (op:Int) (v:Int) :Zk 28 [.i op,.i v] [] (Ys (YI (Z4.mk op 0 0 [v] []))):=by
 exact ZF 9 Tryz.func28 (ar (iA [.i 0,.i 0,.i 0,nl,nl] fun b1=>ie (Ya 2 (iL (Z7 [v]) 1 1 fun v1=>Z2 1 (ZI 1 b1 [.i op,.i 0,.i 0,ZQ [v] v1,nl] (ie (ZD (r3 [] [.agg [.i op,.i 0,.i 0,ZQ [v] v1,nl]] [0] [(b1,b1)] ⟨rfl,rfl⟩ (Ze.agg (.cons li (.cons li (.cons li (.cons (Ze.sl _ (Yp Z7 ob)) (.cons (Ze.sl _ rfl) .nil))))))))))))))
theorem PZ (b:Z6) (q:Nat) (xs:List Z4) (hq:q<=b.steps.length:=by exact ob) (hbl:b.steps.length<=100000000:=by exact ob) (hxl:xs.length<=100000000:=by exact ob):Zk 27 [ZZ b,.i q,Wz xs] [] (Ys (ZZ (UF b q xs))):=by
 exact ZF 26 Tryz.func27 (ar (iA (Xm b) fun b1=>iA [nl,.i 0] fun b2=>ie (ar (iL (Zv []) 0 5 fun v1=>ZO 3 [2] (Zo (Ko (es:=Zv b.steps) (hv:=none) (l:=0) (m:=(q:Int)) (sz:=5) (es':=Zv (b.steps.take q)) kr om (by simp<;>omega) (by simp<;>omega) (Xe _) (by first|(simp only [Vm,V6,TR,TQ];done)|(simp only [Vm,V6,TR,TQ];rfl)|(simp [TR,TQ];done))) (ip 0 (Zv (b.steps.take q)) (Zv []) (Zv (b.steps.take q)) v1 none 5 (Xe _) (Xe _) (VP _) (by simp<;>omega) (by simp [Vx]) fun v2=>Z0 (Ya 2 (ip 0 (Zv ((b.steps.take q)++xs)) (Zv (b.steps.take q)) (Zv xs) v2 none 5 (Xe _) (Xe _) (VP _) (by simp<;>omega) (by simp [WW,Zv]) fun v3=>Z0 (aD 10 (ZH 6 10 [0,1,2,3] [2] (dx 4 (Ko (es:=Zv b.steps) (hv:=none) (l:=(q:Int)) (m:=(((Zv b.steps).length:Nat):Int)) (sz:=5) (es':=Zv (b.steps.drop q)) kr om (by simp<;>omega) (by simp<;>omega) (Xe _) (by first|(simp only [Vm,V6,TR,TQ];done)|(simp only [Vm,V6,TR,TQ];rfl)|(simp [TR,TQ];done))) (ZH 3 5 [6,7] [2] (Z9 5 (dp 5 0 [1] [b1] (Zv (((b.steps.take q)++xs)++(b.steps.drop q))) (Zv ((b.steps.take q)++xs)) (Zv (b.steps.drop q)) v3 none 5 (Xe _) (Xe _) (VP _) (by simp<;>omega) (by simp [WW,Zv]) fun v4=>Zm 1 2 [8] (Z9 9 (YK 9 1 [] [] b2 [X4 (((b.steps.take q)++xs)++(b.steps.drop q)) v4,.i b.result] (de (ZD (r3 [] [.agg [X4 (((b.steps.take q)++xs)++(b.steps.drop q)) v4,.i b.result]] [0] [(b2,b2)] ⟨rfl,rfl⟩ (Ze.agg (.cons (Ze.sl _ (Yp Zv ob)) (.cons li .nil))))))))))))))))))))))
theorem Z3a (n:Zi) (f:Int) (rt:Y8) (hz:Un n:=by exact ob) (hV:XV n=true:=by exact ob) (hf:0<=f:=by exact ob) (hr:n.routines[f.toNat]? = some rt:=by exact ob):Zk 123 [Yq n,.i f] [] (fun r h=>∃(c:Nat) (wa:Hd) (wb:Hd) (wc:Hd),r=.p c 0/\h=[.obj c [ZT n.decls,YW n,Z5 rt.lent,Xi [],.h wa,.h wb,.h wc],rV wa ((WO rt).vars),rV wb ((WO rt).own),rV wc ((WO rt).tok)]):=by
 obtain ⟨f0,rfl⟩:∃f0:Nat,f=(f0:Int):=⟨f.toNat,by omega⟩
 exact Nq n f0 rt (hn:=(Co hz hV).1) (hz:=hz) (hs:=by rw [XV,W6] at hV;exact hV.1) (hr:=by simpa using hr)
theorem Z3f (n:Zi) (f:Int) (k:Int) (hz:Un n:=by exact ob) (hr:∀r∈n.routines,r.body.rng):Zk 68 [Yq n,.i f,.i k] [] (fun r h=>(∃(c:Nat) (wa:Hd) (wb:Hd) (wc:Hd) (L:Ve) (ln:LI),r=.p c 0/\h=[.obj c [ZT n.decls,YW n,Z5 ln,Xi [],.h wa,.h wb,.h wc],rV wa L.vars,rV wb L.own,rV wc L.tok]/\TO n f k=some L/\ln=Da n f)∨(r=.val (.pointer none)/\h=[]/\TO n f k=none)):=by
 have hzl:=hz.len
 refine ZF 54 Tryz.func68 (ar (iA (YU n) fun b1=>Z0 (Yl 1 [0] (Zz [] (G4 n (hr:=hr)) (XU 7 [1,2,3] [(14,.b ((!XV n)||(decide (f<0))))] (fun gz=>gz) ?_ (fun hj1=>?_))))))
 ·refine XU 14 [1,2,3] [(21,.b (((!XV n)||(decide (f<0)))||(decide (f>=(n.routines.length:Int)))))] (fun gz=>gz) ?_ (fun hj2=>?_)
  ·refine XU 18 [1,2,3] [(25,.b ((((!XV n)||(decide (f<0)))||(decide (f>=(n.routines.length:Int))))||(decide (k<0))))] (fun gz=>gz) ?_ (fun hj3=>?_)
   ·refine Z2 1 (ib (b:=((((!XV n)||(decide (f<0)))||(decide (f>=(n.routines.length:Int))))||(decide (k<0)))) 26 (fun Zb=>?_) (fun Zb=>?_))
    ·have ZX:(((¬(XV n=true))∨(f<0))∨(f>=(n.routines.length:Int)))∨(k<0):=((Yr (Yr (Yr (YA Iff.rfl) dq) dq) dq)).1 Zb
     exact Z0 (Wc (ar (Zr (r1 [] (.inr ⟨rfl,rfl,(by first|exact EX ZX|exact EW hrx om|exact AZ hV hfr hrx om YR|exact ⟨AZ hV hfr hrx om YG,(Eg hrx).symm⟩)⟩)))))
    have Yk:¬((((¬(XV n=true))∨(f<0))∨(f>=(n.routines.length:Int)))∨(k<0)):=Yh (Yr (Yr (Yr (YA Iff.rfl) dq) dq) dq) Zb
    refine ZO 4 [0] ?_
    obtain ⟨x1,Z3⟩:=Zs n.routines f.toNat om
    have hV:XV n=true:=Dv fun z=>Yk (.inl (.inl (.inl z)))
    have hfr:0<=f:=by omega
    obtain ⟨hok,hall⟩:=Co hz hV
    have hrm:=ZW Z3
    have hbz:=hz.body _ hrm
    have hbe:=(x1).body.sz_eq
    have hpl:=hok.params_at Z3
    have hll:=hok.lent_at Z3
    have hrx:=Z3
    have hsg:U3 n=true:=by rw [XV,W6] at hV;exact hV.1
    have hty:=Ly hsg
    have hlt:=Rn hsg
    obtain ⟨hk,hkv⟩:=Ca n.decls x1
    obtain ⟨vs,hvs,_⟩:=MB (k:=k.toNat) (hall _ hrm)
    have hrr:UQ (x1).body.steps:=by have:=hr _ hrm;rw [(x1).body.rng_eq] at this;exact this
    have hst:=QO (x1).body.steps k.toNat
    refine Zo (Zj none f 5 (Wv Z3)) (Z2 3 (iw (VO x1.body.steps) (Y5 (k>(x1.body.steps.length:Int)) (fun Za=>?_) (fun Za=>?_))))
    ·exact ar (Zr (r1 [] (.inr ⟨rfl,rfl,(by first|exact EX ZX|exact EW hrx om|exact AZ hV hfr hrx om YR|exact ⟨AZ hV hfr hrx om YG,(Eg hrx).symm⟩)⟩)))
    refine ak (Zw 2 [0] (ic [] (Z3a n f x1 (hV:=hV) (hf:=hfr) (hr:=hrx)) ?_))
    rintro _ _ ⟨c1,wa1,wb1,wc1,rfl,rfl⟩
    refine Z0 (Yl 4 [4] (Zo (Zj none f 5 (Wv Z3)) (Z2 4 (Zo (Ko (es:=Zv x1.body.steps) (hv:=none) (l:=0) (m:=k) (sz:=5) (es':=Zv (x1.body.steps.take k.toNat)) kr om om (by simp<;>omega) (Xe _) (by first|(simp only [Vm,V6,TR,TQ];done)|(simp only [Vm,V6,TR,TQ];rfl)|(simp [TR,TQ];done))) (ic [0,0,0,0] (Ns c1 wa1 wb1 wc1 n (WO x1) x1.lent [] (x1.body.steps.take k.toNat) 1 vs hok hty hlt ob hk (Gq x1) (by rw [hkv];exact hvs) (by rw [hkv];exact hty.params x1 hrm) (by rw [hkv,XA];omega) om (Zg8 _ hrr)) ?_)))))
    rintro _ _ (⟨wa2,wb2,wc2,M'1,rfl,rfl,YG⟩|⟨rfl,rfl,YR⟩)
    ·exact Z0 (Wr (ak (ar (Zr (r1 [0,0,0,0] (.inl ⟨c1,wa2,wb2,wc2,M'1,x1.lent,rfl,rfl,(by first|exact EX ZX|exact EW hrx om|exact AZ hV hfr hrx om YR|exact ⟨AZ hV hfr hrx om YG,(Eg hrx).symm⟩)⟩))))))
    exact Z0 (Wc (ar (Zr (r1 [] (.inr ⟨rfl,rfl,(by first|exact EX ZX|exact EW hrx om|exact AZ hV hfr hrx om YR|exact ⟨AZ hV hfr hrx om YG,(Eg hrx).symm⟩)⟩)))))
   refine Z2 1 (ib (b:=(((!XV n)||(decide (f<0)))||(decide (f>=(n.routines.length:Int))))) 22 (fun ZB=>?_) (fun ZB=>?_))
   ·have Xl:((¬(XV n=true))∨(f<0))∨(f>=(n.routines.length:Int)):=((Yr (Yr (YA Iff.rfl) dq) dq)).1 ZB
    exact Z2 3 (YB (wk [0] (Zt true ZB fl)) hj3)
   have W2:¬(((¬(XV n=true))∨(f<0))∨(f>=(n.routines.length:Int))):=Yh (Yr (Yr (YA Iff.rfl) dq) dq) ZB
   exact Z2 3 (YB (wk [0] (Zt (decide (k<0)) ZB fl)) hj3)
  refine Z2 1 (ib (b:=((!XV n)||(decide (f<0)))) 15 (fun YE=>?_) (fun YE=>?_))
  ·have WG:(¬(XV n=true))∨(f<0):=((Yr (YA Iff.rfl) dq)).1 YE
   exact Z2 6 (YB (wk [0] (Zt true YE fl)) hj2)
  have V3:¬((¬(XV n=true))∨(f<0)):=Yh (Yr (YA Iff.rfl) dq) YE
  exact ZO 3 [0] (iw (Ur n.routines) (Z2 2 (YB (wk [0] (Zt (decide (f>=(n.routines.length:Int))) YE fl)) hj2)))
 refine Z2 2 (ib (b:=(!XV n)) 11 (fun Xw=>?_) (fun Xw=>?_))
 ·have Vr:¬(XV n=true):=((YA Iff.rfl)).1 Xw
  exact Z2 3 (YB (wk [0] (Zt true Xw fl)) hj1)
 have UK:¬(¬(XV n=true)):=Yh (YA Iff.rfl) Xw
 exact Z2 3 (YB (wk [0] (Zt (decide (f<0)) Xw fl)) hj1)
theorem Z9s (n:Zi) (f:Int) (k0:Int) (hz:Un n:=by exact ob) (hr:∀r∈n.routines,r.body.rng):Zk 30 [Yq n,.i f,.i k0] [] (fun r h=>∃(v:Value),r=ZQ (Qz n f k0) v/\h=[.tail v 1]):=by
 refine ZF 40 Tryz.func30 (ar (iA (YU n) fun b1=>Z0 (Zw 3 [0] (ic [] (Z3f n f k0 (hr:=hr)) ?_))))
 rintro _ _ (⟨c1,wa1,wb1,wc1,L1,ln1,rfl,rfl,ZX⟩|⟨rfl,rfl,Yk⟩)
 ·obtain ⟨ha,hln⟩:=ZX
  have hqx:=Z25 hz ha
  rw [<-hln] at hqx
  obtain ⟨harm,hdn,hlk,hlv,hll⟩:=hqx
  have hlk0:=hlk
  obtain ⟨e1,e2,e3,e4,e5⟩:=hlk0
  refine Z0 (YO 1 (iQ false (ie (Wr (ak (ZE (Yl 4 [0] (Zo (KQ 1 wa1 L1.vars) (Z0 (ab 0 (KX 1 (Y6 (fun fz gz m F h=>∃(k:Nat) (acc:LI) (u:Value),(k<=L1.vars.length)/\(acc.length<=k)/\(acc++Q3 L1 ln1 (L1.vars.drop k) k=Q3 L1 ln1 L1.vars 0)/\F=sF [7,20,21] fz [(8,ZQ acc u),(22,.i k)]/\h=[Zc gz 1,Zc gz 2,Zc gz 3,Zc gz 4,.tail u 1]/\m=L1.vars.length-k) _ _ _ ⟨0,[],(.slice none 0 0),ob,ob,rfl,rfl,rfl,rfl⟩ (wk [1,1,1,1,0] (fc (x:=nl) (Ze.slh _ (by first|rfl|(subst_vars;rfl))) (Yd fl))) ?_))))))))))))
  rintro m F h ⟨k,acc,u,Yj,Zl,Zy,rfl,rfl,rfl⟩
  refine ZE (aq (W9 ((k:Int)<(L1.vars.length:Int)) (fun Za=>?_) (fun Za=>?_)))
  ·refine ak (aq (ab 1 (Ya 1 (Zo (Wo 1 wa1 L1.vars (k:Int) k) ?_))))
   obtain ⟨x1,Z3⟩:=Zs L1.vars k om
   refine V8 (VU 1 wa1 L1.vars k x1 Z3) (Z0 (ar (Xv [7,8,9,20,21,22] [(33,.b ((x1 != 0)&&XM L1 ln1 (k:Int)))] (fun gz=>gz) ?_ ?_)))
   ·refine Z2 3 (ib (b:=(x1 != 0)) 29 (fun Zb=>?_) (fun Zb=>?_))
    ·have YG:x1≠0:=(Ym).1 Zb
     exact Z2 2 (Zz [0,0,0,0] (F7 c1 wa1 wb1 wc1 n L1 ln1 [] (k:Int) ob harm ob ob ob ob ob) (Z0 (ZG 5 (Zt (XM L1 ln1 (k:Int)) Zb fl))))
    have YR:¬(x1≠0):=Yh Ym Zb
    exact Z0 (ZG 5 (Zt false Zb fl))
   refine Jv (fun fz gz F h=>∃(w:Value),F=sF [7,20,21,22] fz [(8,ZQ (if x1≠0/\XM L1 ln1 (k:Int)=true then acc++[(k:Int)] else acc) w)]/\h=[Zc gz 0,Zc gz 1,Zc gz 2,Zc gz 3,.tail w 1]) (fun _ _=>rfl) ?_ ?_
   ·refine ac ((x1 != 0)&&XM L1 ln1 (k:Int)) (p:=(x1≠0)/\(XM L1 ln1 (k:Int)=true)) (YL Ym Iff.rfl) (fun Zg=>?_) (fun Zg=>?_)
    ·exact az (Z2 2 (iL (Z7 [(k:Int)]) 1 1 fun v1=>ZU 0 [(36,Z5 [(k:Int)])] (ip 5 (Z7 (acc++[(k:Int)])) (Z7 acc) (Z7 [(k:Int)]) u none 1 (YC _) (YC _) (We _) (by simp<;>omega) (by simp [Wd,Z7]) fun v2=>Z0 (ZP ⟨v2,rfl,rfl⟩ (wk [2,2,2,2,0] (fc (x:=ZQ (acc++[(k:Int)]) v2) (Ze.slh _ (Yp Z7 (by first|rfl|(rw [Zd Zg])|(rw [Z8 Zg])|(simp [Zg];done)|(rw [Xx];simp [Zg];done)|omega))) fl))))))
    exact ak (ZP ⟨u,rfl,rfl⟩ (ZG 5 (fc (x:=ZQ acc u) (Ze.slh _ (Yp Z7 (by first|rfl|(rw [Zd Zg])|(rw [Z8 Zg])|(simp [Zg];done)|(rw [Xx];simp [Zg];done)|omega))) fl)))
   rintro F h ⟨w,rfl,rfl⟩
   exact az (ZJ k (Z0 (ZK ⟨k+1,(if x1≠0/\XM L1 ln1 (k:Int)=true then acc++[(k:Int)] else acc),w,ob,(by split<;>(try simp)<;>omega),(Z2d Z3 Zy),rfl,rfl,rfl⟩ (ZG 5 (fr (ZM k fl))))))
  exact ax 0 (ar (Zr (r2 [4] [ZQ acc u] ⟨u,rfl,rfl⟩ (Ze.slh _ (Yp Z7 (by first|(rw [EZ ha,<-hln];exact N1 om Zy)|(rw [HF ha];rfl)))))))
 have ha:=Yk
 exact Z0 (YO 1 (iQ true (ie (Wc (ZE (KX 1 (ZD (r2 [0] [nl] ⟨(.slice none 0 0),rfl,rfl⟩ (Ze.slh _ (by first|(rw [EZ ha,<-hln];exact N1 om Zy)|(rw [HF ha];rfl)))))))))))
theorem Zbc (code:LI) (hcb:∀z∈code,0<=z/\z<=255):Zk 8 [Uh code] [] (Ys (.b true)):=by
 refine ZF 72 Tryz.func8 (ZE (YO 1 (iw (KF code) (Y5 ((code.length:Int)>1048576) (fun Za=>?_) (fun Za=>?_)))))
 ·exact ar (Zr (Dr))
 have hcl:code.length<=1048576:=by omega
 refine ak (Ya 1 (ic [] (OH code (hcl:=hcl) (hcb:=hcb)) ?_))
 rintro _ _ ⟨n21,rfl,rfl,ZX⟩
 have hzs:=ZX
 have hzn:=hzs.sz om om
 have hln:=hzs.len
 have hrg:∀r∈n21.routines,r.body.rng:=fun r hr=>(hzs.rt r hr).2.2.2
 refine iA [nl,nl] fun b1=>ZI 0 b1 (YU n21) (ie (Zw 1 [0] (Zz [] (G3 n21 (hz:=(by first|exact hzn|exact hwz.sz om om)) (hr:=(by first|exact hrg|exact fun r hr=>(hwz.rt r hr).2.2.2))) (Z0 (Yl 2 [0] (Zz [] (H0 n21) (Zo (Py (Xt n21) (Xt n21)) (Xv [3,4] [(21,.b (((Xt n21) != (Xt n21))||(!Xt n21)))] (fun gz=>gz) ?_ ?_))))))))
 ·refine Z2 1 (ib (b:=((Xt n21) != (Xt n21))) 18 (fun Zb=>?_) (fun Zb=>?_))
  ·have Yk:(Xt n21)≠(Xt n21):=(Ym).1 Zb
   exact Z0 (wk [0] (fc (x:=.b true) (lb (by rw [Zb];rfl)) fl))
  have YG:¬((Xt n21)≠(Xt n21)):=Yh Ym Zb
  exact Z0 (wk [0] (fc (x:=.b (!Xt n21)) (lb (by rw [Zb];rfl)) fl))
 refine ac (((Xt n21) != (Xt n21))||(!Xt n21)) (p:=((Xt n21)≠(Xt n21))∨(¬(Xt n21=true))) (Yr Ym (YA Iff.rfl)) (fun Zg=>?_) (fun Zg=>?_)
 ·exact Zw 2 [0] (Zz [] (H0 n21) (Zo (Px (Xt n21) (Xt n21)) (Zr (Y4 (.b ((Xt n21)==(Xt n21))) (lb (by first|(simp;done)|(rw [DI hB])|(exfalso;omega)|(simp_all;done)))))))
 have hB:Xt n21=true:=Dv fun z=>Zg (.inr z)
 refine ak (Yi (ab 0 (Y6 (fun fz gz m F h=>∃(k:Nat),(k<=n21.routines.length)/\F=sF [3] fz [(5,.i k)]/\h=gz/\m=n21.routines.length-k) _ _ _ ⟨0,ob,rfl,rfl,rfl⟩ (wk [0] (Yd fl)) ?_)))
 rintro m F h ⟨k,Yj,rfl,rfl,rfl⟩
 refine Yl 3 [0] (iw (Ur n21.routines) (Y5 ((k:Int)<(n21.routines.length:Int)) (fun ZC=>?_) (fun ZC=>?_)))
 ·obtain ⟨rq,hrq⟩:=Zs n21.routines k om
  have hrm:=ZW hrq
  obtain ⟨hr1,hr2,hr3,hr4⟩:=hzs.rt _ hrm
  have hbl:=R6 (rq).body
  refine ak (aq (ab 1 (ZE (ab 2 (Y6 (fun fz gz m F h=>∃(i:Nat),(i<=rq.params.length)/\F=sF [3,5] fz [(6,.i i)]/\h=gz/\m=rq.params.length-i) _ _ _ ⟨0,ob,rfl,rfl,rfl⟩ (wk [0] (Yd fl)) ?_)))))
  rintro m F h ⟨i,Up,rfl,rfl,rfl⟩
  refine Yl 4 [0] (Zo (Zj none (k:Int) 5 (Wv hrq)) (Z2 2 (iw (Yf rq.params) (Y5 ((i:Int)<(rq.params.length:Int)) (fun Yg=>?_) (fun Yg=>?_)))))
  ·refine ak (aq (ab 3 (aD 26 (ZH 23 26 [0,1,2] [0] (dx 3 (Zj none (k:Int) 5 (Wv hrq)) (Zm 19 22 [4,5,6] ?_))))))
   obtain ⟨x1,Z3⟩:=Zs rq.params i om
   have hwz:=Pr hzs hrq (q:=0) (op:=15) (v:=(i:Int))
   have hdl:=Z5s hB hrq (i:=i) om
   refine dx 7 (Zj none (i:Int) 1 (Y3 Z3)) (Zm 15 18 [8,9,10] (db (b:=(x1 != 0)) 54 (fun ZB=>?_) (fun ZB=>?_)))
   ·have YR:x1≠0:=(Ym).1 ZB
    refine ZH 10 15 [11,12,13,14,15] [0,0] (dx 16 (Zj none (k:Int) 5 (Wv hrq)) (Zm 6 9 [17,18,19] (Z9 20 (Yo 20 [] [0,0] [b1,b1] (PY 15 (i:Int)) (Z9 21 (WK 21 [0,0] [b1,b1] [YI (Z4.mk 15 0 0 [(i:Int)] [])] (Zv [(Z4.mk 15 0 0 [(i:Int)] [])]) (Vx [(Z4.mk 15 0 0 [(i:Int)] [])]).symm 1 5 fun v1=>Yw 4 4 [] [(65,Wz [(Z4.mk 15 0 0 [(i:Int)] [])])] (Z9 22 (Yo 22 [] [0] [b1] (PZ rq.body 0 [(Z4.mk 15 0 0 [(i:Int)] [])]) (Z9 23 (Yo 23 [] [] [] (PX n21 k (UF rq.body 0 [(Z4.mk 15 0 0 [(i:Int)] [])]) rq (hr:=hrq)) (Z9 24 (Yo 24 [] [] [] (G3 (withR n21 k rq (UF rq.body 0 [(Z4.mk 15 0 0 [(i:Int)] [])])) (hz:=(by first|exact hzn|exact hwz.sz om om)) (hr:=(by first|exact hrg|exact fun r hr=>(hwz.rt r hr).2.2.2))) (Zm 0 1 [25] (de (ac (Xt (withR n21 k rq (UF rq.body 0 [(Z4.mk 15 0 0 [(i:Int)] [])]))) Iff.rfl (fun Xf=>?_) (fun Xf=>?_))))))))))))))))
    ·exact absurd (hdl.symm.trans Xf) (by decide)
    exact ak (az (Z2 1 (ZJ i (Z0 (ZK ⟨i+1,ob,rfl,rfl,rfl⟩ (wk [1] (ZM i fl)))))))
   have Xl:¬(x1≠0):=Yh Ym ZB
   exact Zm 0 15 [11,12,13,14,15,16,17,18,19,20,21,22,23,24,25] (de (Wr (ak (az (Z2 1 (ZJ i (Z0 (ZK ⟨i+1,ob,rfl,rfl,rfl⟩ (wk [0] (ZM i fl))))))))))
  exact ax 2 (az (Z2 1 (ZJ k (Z0 (ZK ⟨k+1,ob,rfl,rfl,rfl⟩ (wk [0] (ZM k fl)))))))
 exact ax 0 (Zw 1 [0] (Zz [] (G4 n21 (hr:=hrg)) (Zr (Y4 (.b (XV n21)) (lb (by first|(simp;done)|(rw [DI hB])|(exfalso;omega)|(simp_all;done)))))))
theorem Zbd (code:LI) (hcb:∀z∈code,0<=z/\z<=255):Zk 9 [Uh code] [] (Ys (.b true)):=by
 refine ZF 70 Tryz.func9 (ZE (YO 1 (iw (KF code) (Y5 ((code.length:Int)>1048576) (fun Za=>?_) (fun Za=>?_)))))
 ·exact ar (Zr (Dr))
 have hcl:code.length<=1048576:=by omega
 refine ak (Ya 1 (ic [] (OH code (hcl:=hcl) (hcb:=hcb)) ?_))
 rintro _ _ ⟨n21,rfl,rfl,ZX⟩
 have hzs:=ZX
 have hzn:=hzs.sz om om
 have hln:=hzs.len
 have hrg:∀r∈n21.routines,r.body.rng:=fun r hr=>(hzs.rt r hr).2.2.2
 refine iA [nl,nl] fun b1=>ZI 0 b1 (YU n21) (ie (Zw 1 [0] (Zz [] (G3 n21 (hz:=(by first|exact hzn|exact hwz.sz om om)) (hr:=(by first|exact hrg|exact fun r hr=>(hwz.rt r hr).2.2.2))) (Z0 (Yl 2 [0] (Zz [] (H0 n21) (Zo (Py (Xt n21) (Xt n21)) (Xv [3,4] [(23,.b (((Xt n21) != (Xt n21))||(!Xt n21)))] (fun gz=>gz) ?_ ?_))))))))
 ·refine Z2 1 (ib (b:=((Xt n21) != (Xt n21))) 20 (fun Zb=>?_) (fun Zb=>?_))
  ·have Yk:(Xt n21)≠(Xt n21):=(Ym).1 Zb
   exact Z0 (wk [0] (fc (x:=.b true) (lb (by rw [Zb];rfl)) fl))
  have YG:¬((Xt n21)≠(Xt n21)):=Yh Ym Zb
  exact Z0 (wk [0] (fc (x:=.b (!Xt n21)) (lb (by rw [Zb];rfl)) fl))
 refine ac (((Xt n21) != (Xt n21))||(!Xt n21)) (p:=((Xt n21)≠(Xt n21))∨(¬(Xt n21=true))) (Yr Ym (YA Iff.rfl)) (fun Zg=>?_) (fun Zg=>?_)
 ·exact Zw 2 [0] (Zz [] (H0 n21) (Zo (Px (Xt n21) (Xt n21)) (Zr (Y4 (.b ((Xt n21)==(Xt n21))) (lb (by first|(simp;done)|(rw [DI hB])|(exfalso;omega)|(simp_all;done)))))))
 have hB:Xt n21=true:=Dv fun z=>Zg (.inr z)
 refine ak (Yi (ab 0 (Y6 (fun fz gz m F h=>∃(k:Nat),(k<=n21.routines.length)/\F=sF [3] fz [(5,.i k)]/\h=gz/\m=n21.routines.length-k) _ _ _ ⟨0,ob,rfl,rfl,rfl⟩ (wk [0] (Yd fl)) ?_)))
 rintro m F h ⟨k,Yj,rfl,rfl,rfl⟩
 refine Yl 3 [0] (iw (Ur n21.routines) (Y5 ((k:Int)<(n21.routines.length:Int)) (fun ZC=>?_) (fun ZC=>?_)))
 ·obtain ⟨rq,hrq⟩:=Zs n21.routines k om
  have hrm:=ZW hrq
  obtain ⟨hr1,hr2,hr3,hr4⟩:=hzs.rt _ hrm
  have hbl:=R6 (rq).body
  refine ak (aq (ab 1 (Zw 3 [0] (Zo (Zj none (k:Int) 5 (Wv hrq)) (Z2 2 (iA [nl,.i 0] fun b2=>ZI 0 b2 (Xm rq.body) (ie (Zw 4 [1,0] (iw (VO rq.body.steps) (ic [] (Z9s n21 (k:Int) (rq.body.steps.length:Int) (hz:=hzn) (hr:=hrg)) ?_))))))))))
  rintro _ _ ⟨v1,rfl,rfl⟩
  have hal:=Z2c hzn (k:Int) (rq.body.steps.length:Int)
  refine Z0 (ZE (ab 2 (Y6 (fun fz gz m F h=>∃(i:Nat),(i<=(Qz n21 k rq.body.steps.length).length)/\F=sF [3,5,6] fz [(7,Z5 (Qz n21 (k:Int) (rq.body.steps.length:Int))),(8,.i i)]/\h=[Zc gz 1,Zc gz 2]/\m=(Qz n21 k rq.body.steps.length).length-i) _ _ _ ⟨0,ob,rfl,rfl,rfl⟩ (wk [1,1] (fc (x:=ZQ (Qz n21 (k:Int) (rq.body.steps.length:Int)) v1) (Ze.forget _ _) (Yd fl))) ?_)))
  rintro m F h ⟨i,Up,rfl,rfl,rfl⟩
  refine YO 2 (io (.i (((Qz n21 (k:Int) (rq.body.steps.length:Int)).length:Nat):Int)) (.i (((Z7 (Qz n21 (k:Int) (rq.body.steps.length:Int))).length:Nat):Int)) (li (by rw [Yf])) (Y5 ((i:Int)<(((Qz n21 (k:Int) (rq.body.steps.length:Int)).length:Nat):Int)) (fun Yg=>?_) (fun Yg=>?_)))
  ·refine ak (aq (ab 3 (aD 15 (ZH 10 15 [0,1,2,3,4] [1,0,0] (dw 5 (VO rq.body.steps) (Zm 7 9 [6,7] ?_))))))
   obtain ⟨x1,Z3⟩:=Zs (Qz n21 (k:Int) (rq.body.steps.length:Int)) i om
   have hwz:=Pr hzs hrq (q:=rq.body.steps.length) (op:=14) (v:=x1)
   have hdl:=Z5t hzn hB hrq (ZW Z3)
   refine dx 8 (Zj none (i:Int) 1 (Y3 Z3)) (Zm 5 6 [9] (Z9 10 (Yo 10 [] [0,0,1] [b2,b2,b1] (PY 14 x1) (Z9 11 (WK 11 [0,0,1] [b2,b2,b1] [YI (Z4.mk 14 0 0 [x1] [])] (Zv [Z4.mk 14 0 0 [x1] []]) (Vx [Z4.mk 14 0 0 [x1] []]).symm 1 5 fun v2=>Yw 3 3 [] [(64,Wz [Z4.mk 14 0 0 [x1] []])] (Z9 12 (Yo 12 [] [1] [b1] (PZ rq.body rq.body.steps.length [Z4.mk 14 0 0 [x1] []]) (Z9 13 (Yo 13 [] [] [] (PX n21 k (UF rq.body rq.body.steps.length [Z4.mk 14 0 0 [x1] []]) rq (hr:=hrq)) (Z9 14 (Yo 14 [] [] [] (G3 (withR n21 k rq (UF rq.body rq.body.steps.length [Z4.mk 14 0 0 [x1] []])) (hz:=(by first|exact hzn|exact hwz.sz om om)) (hr:=(by first|exact hrg|exact fun r hr=>(hwz.rt r hr).2.2.2))) (de (ac (Xt (withR n21 k rq (UF rq.body rq.body.steps.length [Z4.mk 14 0 0 [x1] []]))) Iff.rfl (fun Xf=>?_) (fun Xf=>?_))))))))))))))
   ·exact absurd (hdl.symm.trans Xf) (by decide)
   exact ak (az (Z2 1 (ZJ i (Z0 (ZK ⟨i+1,ob,rfl,rfl,rfl⟩ (wk [1,1] (fr (ZM i fl))))))))
  exact ax 2 (az (Z2 1 (ZJ k (Z0 (ZK ⟨k+1,ob,rfl,rfl,rfl⟩ (wk [1] (ZM k fl)))))))
 exact ax 0 (Zw 1 [0] (Zz [] (G4 n21 (hr:=hrg)) (Zr (Y4 (.b (XV n21)) (lb (by first|(simp;done)|(rw [DI hB])|(exfalso;omega)|(simp_all;done)))))))
end Go.Abs
