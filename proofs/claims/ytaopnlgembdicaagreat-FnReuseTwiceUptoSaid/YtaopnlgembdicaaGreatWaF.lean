/-
  A part of the proofs of several laws (see the last file): no condition.
-/
import Derived.Test.YtaopnlgembdicaaGreatWaE
set_option linter.all false
set_option linter.unusedVariables false
set_option linter.unusedSimpArgs false
set_option linter.unusedSectionVars false
set_option maxRecDepth 10000
set_option maxHeartbeats 4000000
namespace Go.Abs
open Go.Proofs
structure QT (b:Nat) (w w':World):Prop where
 os:w'.os=w.os
 tape:w'.tape=w.tape
 output:w'.output=w.output
 size:w'.heap.size=w.heap.size
 other:∀c,c≠b->w'.heap[c]? = w.heap[c]?
 row:∀cs e,w.heap[b]? = some (.cells cs e (0,0))->∃cs',w'.heap[b]? = some (.cells cs' e (0,0))/\cs'.size=cs.size
def QT.refl (b:Nat) (w:World):QT b w w:=⟨rfl,rfl,rfl,rfl,fun _ _=>rfl,fun cs _ h=>⟨cs,h,rfl⟩⟩
def QT.drew {b:Nat} {w w':World} (h:QT b w w'):QT b w w'.drew:=⟨h.os,h.tape,h.output,h.size,h.other,h.row⟩
def QT.cell {b:Nat} {w w':World} (h:QT b w w') (j:Nat) (v:Value):QT b w (w'.setCell ⟨b,j,none⟩ v):=
 ⟨h.os,h.tape,h.output,by simp [World.setCell];exact h.size,fun c hc=>(heap_setCell_other w' ⟨b,j,none⟩ c v hc).trans<|h.other c hc,fun cs e hb=>by
  obtain ⟨cs',h1,h2⟩:=h.row cs e hb
  exact ⟨_,heap_setCell_same w' b j cs' e v h1,by simpa using h2⟩⟩
def QT.cells {b:Nat} {w:World}:∀(vs:List Value) (o:Nat) (w':World),QT b w w'->QT b w (w'.setCells b o vs)
 | [],_,_,h=>h
 | v::r,o,w',h=>QT.cells r (o+1) _ (h.cell o v)
def Ns {w:World} {G:Yl}:∀ys:LI,X1 w G (Z7 ys) (ys.map fun z=>Value.int .i64 z)
 | []=>.nil
 | _::r=>.cons .val (Ns r)
def SB {w:World} {G:Yl}:∀{ys:LI} {vs:List Value},X1 w G (Z7 ys) vs->vs=ys.map fun z=>Value.int .i64 z
 | [],_,.nil=>rfl
 | _::r,_,.cons h t=>by rw [Uh,<-SB (ys:=r) t,h.val_inv]
def Z56 {cs:Array Value} {ys:LI} (h:∀(j:Nat) z,ys[j]? = some z->cs[j]? = some (Value.int .i64 z)):cs.toList.take ys.length=ys.map (fun z=>Value.int .i64 z):=by
 apply List.ext_getElem?
 intro j;rw [Qp]
 split
 .rename_i hj;have hx:=J8 hj;have:=h j _ hx;rw [EG,this,Tx,hx];rfl
 .rename_i hj;simp [Dt (Nat.le_of_not_lt hj)]
def Z2y {w w':World} {G:Yl} {g len cap len':Nat} {ls:List AV} {ys:LI} {r:List Res} (hh:YA w G (.row (.slice (some ⟨g,0,none⟩) len cap) 1 ls::r)) (hw:QT g w w') (hlen:ys.length=len') (hle:len'<=cap)
  (hc:∀(j:Nat) z,ys[j]? = some z->w'.cell? ⟨g,j,none⟩=some (Value.int .i64 z)) :
  YA w' G [.row (.slice (some ⟨g,0,none⟩) len' cap) 1 (Z7 ys)]/\X4 w G (.row (.slice (some ⟨g,0,none⟩) len cap) 1 ls::r) w' G [.row (.slice (some ⟨g,0,none⟩) len' cap) 1 (Z7 ys)]:=by
 have hmem:Res.row (.slice (some ⟨g,0,none⟩) len cap) 1 ls∈Res.row (.slice (some ⟨g,0,none⟩) len cap) 1 ls::r:=Xn ..;rcases hh.ok _ hmem with ⟨e,_⟩|⟨g',len2,cap2,cur,el,e,h1,h2,h3,h4,h5⟩
 .cases e
 .cases e;obtain ⟨cs',k1,k2⟩:=hw.row cur el h1;have hcell:∀j,w'.cell? ⟨g,j,none⟩=cs'[j]?:=fun j=>cell_of_row w' g j cs' el (0,0) k1
  refine ⟨⟨fun q hq=>?_,CI _ _,fun q hq c j hf hg=>?_,fun c j hg=>?_⟩,
   ⟨hw.os,hw.tape,hw.output,by rw [hw.size];exact X8 _,fun _ _ h=>h,fun c _=>?_,fun _ _ _ h=>.inl h,fun c j _ ⟨q,hq,hf⟩=>?_⟩⟩
  .rw [XI.1 hq];refine .inr ⟨g,len',cap,cs',el,rfl,k1,hle,k2.trans h3,by simp [hlen],?_⟩;rw [Kg,<-hlen,Z56 fun j z hz=>by rw [<-hcell];exact hc j z hz];exact Ns ys
  .rw [XI.1 hq] at hf;exact hh.prot _ hmem c j hf hg
  .rw [hw.size];exact hh.lt c j hg
  .by_cases hcg:c=g
   .subst hcg;exact .inr ⟨cur,cs',el,(0,0),h1,k1,k2,fun o hn=>absurd ⟨_,hmem,U⟩ hn⟩
   .exact .inl<|hw.other c hcg
  .rw [XI.1 hq] at hf;exact ⟨_,hmem,hf⟩
def Z2x {w w':World} {G:Yl} {cap len':Nat} {h:List Res} {ys:LI} {cs':Array Value} {el:TypeId} (hh:YA w G h) (os:w'.os=w.os) (tape:w'.tape=w.tape) (output:w'.output=w.output)
  (Xg:w'.heap.size=w.heap.size+1) (hoth:∀c,c<w.heap.size->w'.heap[c]? = w.heap[c]?) (hb:w'.heap[w.heap.size]? = some (.cells cs' el (0,0))) (hcap:cs'.size=cap) (hlen:ys.length=len') (hle:len'<=cap)
  (hc:∀(j:Nat) z,ys[j]? = some z->w'.cell? ⟨w.heap.size,j,none⟩=some (Value.int .i64 z)) :
  YA w' G [.row (.slice (some ⟨w.heap.size,0,none⟩) len' cap) 1 (Z7 ys)]/\X4 w G h w' G [.row (.slice (some ⟨w.heap.size,0,none⟩) len' cap) 1 (Z7 ys)]:=by
 have hcell:∀j,w'.cell? ⟨w.heap.size,j,none⟩=cs'[j]?:=fun j=>cell_of_row w' _ j cs' el (0,0) hb
 refine ⟨⟨fun q hq=>?_,CI _ _,fun q hq c j hf hg=>?_,fun c j hg=>?_⟩,
  ⟨os,tape,output,by omega,fun _ _ h=>h,fun c hcl=>.inl<|hoth c hcl,fun _ _ _ h=>.inl h,fun c j hcl ⟨q,hq,hf⟩=>?_⟩⟩
 .rw [XI.1 hq];refine .inr ⟨_,len',cap,cs',el,rfl,hb,hle,by rw [hcap,Kg],by simp [hlen],?_⟩;rw [Kg,<-hlen,Z56 fun j z hz=>by rw [<-hcell];exact hc j z hz];exact Ns ys
 .rw [XI.1 hq] at hf;have:c=w.heap.size:=hf;have:=hh.lt c j hg;omega
 .have:=hh.lt c j hg;omega
 .rw [XI.1 hq] at hf;have:c=w.heap.size:=hf;omega
def Qd (xs:LI) (p:Nat) (v:Int):LI:=xs.take p++v::xs.drop p
def E7 (xs:LI) (p:Nat) (v:Int) (hp:p<=xs.length):(Qd xs p v).length=xs.length+1:=by simp [Qd];omega
def Zfa {xs:LI} {p j:Nat} {v:Int} (h:j<p) (hp:p<=xs.length):(Qd xs p v)[j]? = xs[j]?:=by
 rw [Qd,Dr (by simp;omega),Qp,Zg h]
def Zf8 {xs:LI} {p:Nat} {v:Int} (hp:p<=xs.length):(Qd xs p v)[p]? = some v:=by
 rw [Qd,Ds (by simp;omega),WK,Vz hp,Nat.sub_self];rfl
def Zf9 {xs:LI} {p j:Nat} {v:Int} (hp:p<=xs.length):(Qd xs p v)[p+1+j]? = xs[p+j]?:=by
 rw [Qd,Ds (by simp;omega),WK,Vz hp,show p+1+j-p=j+1 by omega,List.getElem?_cons_succ,CF]
def Mv {xs:LI} {p j:Nat} {v z:Int} (hp:p<=xs.length) (h:(Qd xs p v)[j]? = some z):(j<p/\xs[j]? = some z)∨(j=p/\z=v)∨∃i,j=p+1+i/\xs[p+i]? = some z:=by
 rcases Nat.lt_trichotomy j p with hj|hj|hj
 .rw [Zfa hj hp] at h;exact .inl ⟨hj,h⟩
 .subst hj;rw [Zf8 hp] at h;exact .inr<|.inl ⟨rfl,(Qs h).symm⟩
 .obtain ⟨i,rfl⟩:∃i,j=p+1+i:=⟨j-(p+1),by omega⟩;rw [Zf9 hp] at h;exact .inr (.inr ⟨i,rfl,h⟩)
def Znw {xs:LI} {j:Nat} {u:Value} (h:(xs.map fun z=>Value.int .i64 z)[j]? = some u):∃z,xs[j]? = some z/\u=.int .i64 z:=by
 rw [Tx] at h
 cases hx:xs[j]? with
 | none=>rw [hx] at h;cases h
 | some z=>rw [hx] at h;exact ⟨z,rfl,(Qs h).symm⟩
def LY:∀xs:LI,Zc (Z7 xs)=Z7 xs
 | []=>rfl
 | x::r=>Ys (AV.i x::·) (LY r)
def Hq {w w':World} {G:Yl} {h:List Res} {u:Value} {ys:LI} (h1:YA w' G [.row u 1 (Z7 ys)]) (h2:X4 w G h w' G [.row u 1 (Z7 ys)]) :
  ∃G',RV w' G' (ZT ys u) u/\YA w' G' [.tail u 1]/\X4 w G h w' G' [.tail u 1]:=by
 have hf:Zc (Z7 ys)=Z7 ys:=LY ys;rw [<-hf] at h1 h2;obtain ⟨G',a,b,c⟩:=Ct h1 (YJ ys) om;exact ⟨G',c,a,h2.trans b⟩
def Z6k (w:World) (o:Obj):(w.drew.alloc o).heap.size=w.heap.size+1:=Array.size_push ..
def Sz {w:World} {G:Yl} {h:List Res} {ys:LI} {len' K:Nat} (hh:YA w G h) (cs':Array Value) (Xg:cs'.size=K) (hlen:ys.length=len') (hle:len'<=K)
  (hc:∀(j:Nat) z,ys[j]? = some z->cs'[j]? = some (Value.int .i64 z)) :
  ∃G',RV (w.drew.alloc<|.cells cs' 3) G' (ZT ys<|.slice (some ⟨w.heap.size,0,none⟩) len' K) (.slice (some ⟨w.heap.size,0,none⟩) len' K)/\YA (w.drew.alloc<|.cells cs' 3) G' [.tail (.slice (some ⟨w.heap.size,0,none⟩) len' K) 1] /\
   X4 w G h (w.drew.alloc<|.cells cs' 3) G' [.tail (.slice (some ⟨w.heap.size,0,none⟩) len' K) 1]:=by
 have hN:(w.drew.alloc (.cells cs' 3)).heap[w.heap.size]? = some (.cells cs' 3 (0,0)):=E3 w.drew _
 obtain ⟨k1,k2⟩:=Z2x (w':=w.drew.alloc (.cells cs' 3)) hh rfl rfl rfl (Z6k w _) (fun c hc=>AP w.drew _ hc) hN Xg hlen hle (fun j z hz=>by
  rw [cell_of_row _ _ j _ 3 (0,0) hN];exact hc j z hz)
 exact Hq k1 k2
def Zfj (g hv:Hd) (xs:LI) (p:Nat) (v:Int) (hp:p<=xs.length) (hl:xs.length<=1000000000):Wf Tryz.prog 240 [.h g,.i p,ZT [v] hv.v] [.row g.v 1 (Z7 xs),.tail hv.v 1] (fun r h=>∃u:Value,r=ZT (Qd xs p v) u/\h=[.tail u 1]):=by
 intro w G vs ha hh;obtain ⟨gv,rfl,pv,rfl,sv,rfl,ra⟩:∃gv,gv=g.v/\∃pv,pv=Value.int .i64 p/\∃sv,sv=hv.v/\vs=[gv,pv,sv]/\RV w G (ZT [v] hv.v) sv:=by
  cases ha with
  | cons h1 t=>cases t with
   | cons h2 t=>cases t with
    | cons h3 t=>
     cases t;exact ⟨_,h1.val_inv,_,h2.val_inv,_,h3.header,U,h3⟩
 obtain ⟨rfl,hsl⟩:=ra;have hpw:=Vb.1 hh.apart;have hmr:Res.row g.v 1 (Z7 xs)∈[Res.row g.v 1 (Z7 xs),.tail hv.v 1]:=Xn ..;have hmt:Res.tail hv.v 1∈[Res.row g.v 1 (Z7 xs),.tail hv.v 1]:=XF _ (XI.2 rfl);obtain ⟨hxa,hlx,hcx⟩:=hv;obtain ⟨vb,vcur,vel,e1,hv1,hv2,hvd⟩:∃vb vcur vel,Hd.v ⟨hxa,hlx,hcx⟩=.slice (some ⟨vb,0,none⟩) 1 hcx/\w.heap[vb]? = some (.cells vcur vel (0,0))/\vcur[0]? = some (Value.int .i64 v)/\∀gb len cap,g.v=.slice (some ⟨gb,0,none⟩) len cap->vb≠gb:=by
  cases hsl with
  | sl hq hc hm=>
   rename_i b o k;rcases hh.ok _ hmt with e|⟨g2,len,cap,cur,el,e,t1,t2,t3⟩
   .cases e
   .cases e;refine ⟨b,cur,el,U,t1,?_,fun gb len cap he hb=>?_⟩
    .cases hm with
     | cons hlk hm2 _=>cases hm2 with
      | cons hcell _ hrv _=>
       have:=hrv.val_inv;subst this;rw [<-cell_of_row w b 0 cur el (0,0) t1];exact hcell
    .refine hpw.1 _ (XI.2 rfl) b 1 ?_ ⟨rfl,by simp⟩;rw [he];exact hb
 have hvs:∀(j:Nat) u,[Value.int .i64 v][j]? = some u->w.cell? ⟨vb,0+j,none⟩=some u:=by
  intro j u hj
  cases j with
  | zero=>simp only [List.getElem?_cons_zero] at hj;rw [cell_of_row w vb _ vcur vel (0,0) hv1];exact hv2.trans hj
  | succ j=>simp at hj
 have h1v:∀u∈[Value.int .i64 v],u.oneCell'=true:=fun u hu=>by rw [XI.1 hu];rfl
 have hgc:∀w2 j,grownCap w2 (xs.length+1) j 3>=xs.length+1:=fun w2 j=>grownCap_ge w2 _ _ _
 have hh2:=hh;rw [e1] at hh2 ⊢;rcases hh.ok _ hmr with ⟨e,h0⟩|⟨gb,len,cap,cur,el,e,h1,h2,h3,h4,h5⟩
 ·
  have hx0:xs=[]:=by cases xs with|nil=>rfl|cons _ _=>simp [Z7] at h0
  subst hx0;have hp0:p=0:=by simpa using hp
  subst hp0;rw [e];have hg:∀w2 j,grownCap w2 (0+1) j 3>=0+1:=fun w2 j=>grownCap_ge w2 _ _ _
  refine (Sy none 0 0 vb 0 1 hcx [] [.int .i64 v] w om om om om rfl rfl (fun _=>rfl) (fun a ha=>by cases ha) hvs h1v).mono ?_;rintro e w' ⟨rfl,rfl⟩;have hg0:=hg w 0;revert hg0;generalize grownCap w (0+1) 0 3=K;intro hg0;rw [e] at hh2
  obtain ⟨G',r1,r2,r3⟩:=Sz (ys:=[v]) hh2 (([]++[Value.int .i64 v]).toArray++Builtin.zeroCells (Value.int .i64 0).cells (K-(0+1))) (by simp [Builtin.zeroCells,Value.cells];omega) rfl hg0 (fun j z hz=>by
    cases j with
    | zero=>simp only [List.getElem?_cons_zero] at hz;cases hz;rw [Iy (by simp)];rfl
    | succ j=>simp at hz)
  exact ⟨_,_,_,G',U,⟨_,U,U⟩,r1,r2,r3⟩
 .have hlx2:len=xs.length:=by rw [Yg] at h4;omega
  subst hlx2;rw [Kg] at h3 h5;have hcur:cur.toList.take xs.length=xs.map (fun z=>Value.int .i64 z):=SB h5;have hcell:∀j z,xs[j]? = some z->w.cell? ⟨gb,j,none⟩=some (Value.int .i64 z):=by
   intro j z hz;rw [cell_of_row w gb j cur el (0,0) h1];have hj:j<xs.length:=(Xv.1 hz).1;have h6:(cur.toList.take xs.length)[j]? = some (Value.int .i64 z):=by rw [hcur,Tx,hz];rfl
   rw [Qp,Zg hj,EG] at h6;exact h6
  have hcs:∀(j:Nat) u,(xs.map fun z=>Value.int .i64 z)[j]? = some u->w.cell? ⟨gb,0+j,none⟩=some u:=by
   intro j u hj;obtain ⟨z,hz,rfl⟩:=Znw hj;rw [VH];exact hcell j z hz
  have h1c:∀u∈xs.map fun z=>Value.int .i64 z,u.oneCell'=true:=fun u hu=>by obtain ⟨z,_,rfl⟩:=XG.1 hu;rfl
  have hne:=hvd gb xs.length cap e;have hsome:∀j,j<cap->(w.cell? ⟨gb,j,none⟩).isSome=true:=fun j hj=>by rw [cell_of_row w gb j cur el (0,0) h1,Array.getElem?_eq_getElem om];rfl
  have hfz:∀j,w.frozen? ⟨gb,j,none⟩=false:=fun j=>frozen_of_row w gb j cur el h1
  rw [e] at hh2 ⊢;by_cases hroom:xs.length+1<=cap
  .have He:xs.length+1<=9223372036854775807:=by omega
   by_cases hpn:p=xs.length
   .subst hpn;refine (Zfh gb 0 xs.length cap vb 0 1 hcx [.int .i64 v] w om hroom He rfl (fun j hj=>hsome _ om) (fun j _=>hfz _) hvs h1v).mono ?_;rintro e w' ⟨rfl,rfl⟩;have hin:=World.cell?_setCells_in gb [.int .i64 v] (0+xs.length) w fun j hj=>hsome _ (by simp at hj;omega)
    obtain ⟨k1,k2⟩:=Z2y (ys:=Qd xs xs.length v) hh2 ((QT.refl gb w).cells _ _ _) (E7 xs _ v (X8 _)) hroom (fun j z hz=>by
     rcases Mv (X8 _) hz with ⟨h,h'⟩|⟨rfl,rfl⟩|⟨i,rfl,h'⟩
     .rw [World.cell?_setCells_out gb _ _ _ _ fun _ _=>.inl (by show j<0+xs.length;omega)];exact hcell j z h'
     .have:=hin 0 (by simp);simpa using this
     .have:=(Xv.1 h').1;omega)
    obtain ⟨G',r1,r2,r3⟩:=Hq k1 k2;exact ⟨_,_,_,G',U,⟨_,U,U⟩,r1,r2,r3⟩
   .have hpl:p<xs.length:=by omega
    refine (Zfl gb 0 xs.length cap p vb 0 1 hcx (xs.map fun z=>Value.int .i64 z) [.int .i64 v] w hpl om hroom He hne (by simp) rfl hcs (fun j hj=>hsome _ om) (fun j _=>hfz _) hvs h1c h1v vel el vcur.size cur.size
     (by simp [World.shape?,hv1]) (by simp [World.shape?,h1]) om (frozen_of_row w vb _ vcur vel hv1) (frozen_of_row w vb _ vcur vel hv1)).mono ?_
    rintro e w' ⟨rfl,rfl⟩;have hW:=(QT.refl gb w).drew.cells ((xs.map fun z=>Value.int .i64 z).drop p) (0+(p+1)) _;have hin1:=World.cell?_setCells_in gb ((xs.map fun z=>Value.int .i64 z).drop p) (0+(p+1)) w.drew fun j hj=>by simp at hj;exact hsome _ om
    have hs2:∀j,j<cap->((w.drew.setCells gb (0+(p+1))<|(xs.map fun z=>Value.int .i64 z).drop p).cell? ⟨gb,j,none⟩).isSome=true:=fun j hj=>Hs gb _ _ _ (fun i hi=>by simp at hi;exact hsome _ om) j<|hsome j hj
    have hin2:=World.cell?_setCells_in gb [.int .i64 v] (0+p) _ fun j hj=>hs2 _ (by simp at hj;omega)
    obtain ⟨k1,k2⟩:=Z2y (ys:=Qd xs p v) hh2 (hW.cells [.int .i64 v] (0+p) _) (E7 xs _ v hp) hroom (fun j z hz=>by
     rcases Mv hp hz with ⟨h,h'⟩|⟨rfl,rfl⟩|⟨i,rfl,h'⟩
     .rw [World.cell?_setCells_out gb _ _ _ _ fun _ _=>.inl (by show j<0+p;omega),World.cell?_setCells_out gb _ _ _ _ fun _ _=>.inl (by show j<0+(p+1);omega)];exact hcell j z h'
     .have:=hin2 0 (by simp);simpa using this
     .have hi:=(Xv.1 h').1;rw [World.cell?_setCells_out gb _ _ _ _ fun _ _=>.inr (by show 0+p+1<=p+1+i;omega)];have h7:=hin1 i (by simp;omega);rw [show 0+(p+1)+i=p+1+i by omega] at h7;rw [h7];have h8:((xs.map fun z=>Value.int .i64 z).drop p)[i]? = some (Value.int .i64 z):=by rw [CF,Tx,h'];rfl
      rw [<-h8]
      exact (J8 _).symm)
    obtain ⟨G',r1,r2,r3⟩:=Hq k1 k2;exact ⟨_,_,_,G',U,⟨_,U,U⟩,r1,r2,r3⟩
  .by_cases hpn:p=xs.length
   .subst hpn;refine (Sy (some ⟨gb,0,none⟩) xs.length cap vb 0 1 hcx (xs.map fun z=>Value.int .i64 z) [.int .i64 v] w om h2 om om (by simp) rfl (fun h=>by cases h) (fun a ha j u hj=>by cases ha;rw [Addr.add_lit];exact hcs j u hj) hvs h1v).mono ?_;rintro e w' ⟨rfl,rfl⟩;have hg0:=hgc w cap;revert hg0;generalize grownCap w (xs.length+1) cap 3=K;intro hg0
    obtain ⟨G',r1,r2,r3⟩:=Sz (ys:=Qd xs xs.length v) hh2 ((xs.map (fun z=>Value.int .i64 z)++[Value.int .i64 v]).toArray++Builtin.zeroCells (Value.int .i64 0).cells (K-(xs.length+1))) (by simp [Builtin.zeroCells,Value.cells];omega) (E7 xs _ v (X8 _)) hg0 (fun j z hz=>by
      rw [Iy (by have:=(Xv.1 hz).1;rw [E7 xs _ v (X8 _)] at this;simp;omega)];have h9:Qd xs xs.length v=xs++[v]:=by simp [Qd]
      rw [h9] at hz;rw [List.getElem?_toArray,show xs.map (fun z=>Value.int .i64 z)++[Value.int .i64 v]=(xs++[v]).map (fun z=>Value.int .i64 z) by simp,Tx,hz]
      rfl)
    exact ⟨_,_,_,G',U,⟨_,U,U⟩,r1,r2,r3⟩
   .have hpl:p<xs.length:=by omega
    refine (Zfi gb 0 xs.length cap p vb 0 1 hcx (xs.map fun z=>Value.int .i64 z) [.int .i64 v] w hpl om h2 om om (by simp) rfl hcs hvs h1c h1v).mono ?_;rintro e w' ⟨rfl,rfl⟩;have hg0:=hgc w cap;revert hg0;generalize grownCap w (xs.length+1) cap 3=K;intro hg0;generalize hA:((xs.map fun z=>Value.int .i64 z).take p).toArray++Builtin.zeroCells (Value.int .i64 0).cells (xs.length+1-p)++Builtin.zeroCells (Value.int .i64 0).cells (K-(xs.length+1))=A;have hAs:A.size=K:=by subst hA;simp [Builtin.zeroCells,Value.cells];omega
    have hAg:∀(j:Nat) z,j<p->xs[j]? = some z->A[j]? = some (Value.int .i64 z):=by
     intro j z hj hz;subst hA;rw [Iy (by simp [Builtin.zeroCells,Value.cells];omega),Iy (by simp;omega),List.getElem?_toArray,Qp,Zg hj,Tx,hz];rfl
    have hN0:(w.alloc (.cells A 3)).heap[w.heap.size]? = some (.cells A 3 (0,0)):=E3 w _;have hc0:∀j,(w.alloc<|.cells A 3).cell? ⟨w.heap.size,j,none⟩=A[j]?:=fun j=>cell_of_row _ _ j A 3 (0,0) hN0
    have hsm:∀j,j<K->((w.alloc<|.cells A 3).cell? ⟨w.heap.size,j,none⟩).isSome=true:=fun j hj=>by rw [hc0,Array.getElem?_eq_getElem om];rfl
    have hW:=((QT.refl w.heap.size<|w.alloc<|.cells A 3).drew.cells [.int .i64 v] p _).drew.cells ((xs.map fun z=>Value.int .i64 z).drop p) (p+1) _;have hin1:=World.cell?_setCells_in w.heap.size [.int .i64 v] p (w.alloc<|.cells A 3).drew fun j hj=>hsm _ (by simp at hj;omega)
    have hs2:∀j,j<K->(((w.alloc<|.cells A 3).drew.setCells w.heap.size p [.int .i64 v]).drew.cell? ⟨w.heap.size,j,none⟩).isSome=true:=fun j hj=>Hs w.heap.size _ _ _ (fun i hi=>by simp at hi;exact hsm _ om) j<|hsm j hj
    have hin2:=World.cell?_setCells_in w.heap.size ((xs.map fun z=>Value.int .i64 z).drop p) (p+1) _ fun j hj=>hs2 _ (by simp at hj;omega)
    obtain ⟨cs',q1,q2⟩:=hW.row A 3 hN0
    obtain ⟨k1,k2⟩:=Z2x (cap:=K) (len':=xs.length+1) (ys:=Qd xs p v) hh2 hW.os hW.tape hW.output (hW.size.trans (Array.size_push ..)) (fun c hc=>(hW.other c om).trans (AP w _ hc)) q1 (q2.trans hAs) (E7 xs p v hp) hg0 (fun j z hz=>by
     rcases Mv hp hz with ⟨h,h'⟩|⟨rfl,rfl⟩|⟨i,rfl,h'⟩
     .rw [World.cell?_setCells_out w.heap.size _ _ _ _ fun _ _=>.inl (by show j<p+1;omega)];show ((w.alloc<|.cells A 3).drew.setCells w.heap.size p [.int .i64 v]).cell? _=_
      rw [World.cell?_setCells_out w.heap.size _ _ _ _ fun _ _=>.inl (by show j<p;omega)];exact (hc0 j).trans<|hAg j z h h'
     .rw [World.cell?_setCells_out w.heap.size _ _ _ _ fun _ _=>.inl (by show j<j+1;omega)];have:=hin1 0 (by simp)
      simpa using this
     .have hi:=(Xv.1 h').1;have h7:=hin2 i (by simp;omega);rw [h7];have h8:((xs.map fun z=>Value.int .i64 z).drop p)[i]? = some (Value.int .i64 z):=by rw [CF,Tx,h'];rfl
      rw [<-h8]
      exact (J8 _).symm)
    obtain ⟨G',r1,r2,r3⟩:=Hq k1 k2;exact ⟨_,_,_,G',U,⟨_,U,U⟩,r1,r2,r3⟩
end Go.Abs
section
namespace Go.Abs
section
variable {P:Program} {n:Nat} {ops:Array Oper} {B:Fr->List Res->Prop} {k:Nat} {F:Fr} {h:List Res}
def GG (P:Program) (ops:Array Oper) (F:Fr) (k:Nat):Option (IntKind × Int):=
 match (ZG ops k).op with
 | .convert s d x=>match P.underlying s,P.underlying d,F.ev x with
  | some (.int _),some (.int q),.val (.int _ z)=>some (q,z)
  | _,_,_=>none
 | _=>none
def SM (q:IntKind) (z z':Int) (e:q.wrap z=z') (hc:GG P ops F k=some (q,z):=by kernel_rfl):XH P (ZG ops k) F h [] (.val<|.int q z'):=by
 unfold GG at hc;generalize hoo:ZG ops k=o at hc;obtain ⟨dst,op,type,pos,after,guard⟩:=o;cases op<;>simp only at hc<;>try (cases hc)
 rename_i s d x
 split at hc
 .rename_i q1 q2 q3 z2 h1 h2 h3;cases hc;intro n w G ac hF hh;have v1:=hF.ev x;rw [h3] at v1;have v1:=v1.val_inv;refine ⟨_,.val,fun w' _ _=>?_⟩;simp only [execOp,v1];refine Vv ?_;simp [convert,VX h1,VX h2,Conv.intToInt,e]
 .cases hc
def Z3t (ops:Array Oper) (F:Fr) (k:Nat):Option Int:=
 match (ZG ops k).op with
 | .binOp .shr _ x y _=>match F.ev x,F.ev y with
  | .val (.int .u64 z),.val (.int _ 1)=>some z
  | _,_=>none
 | _=>none
def Zfv (n:Nat) (hc:Z3t ops F k=some (n:Int):=by kernel_rfl):XH P (ZG ops k) F h [] (.val<|.int .u64 ((n / 2:Nat):Int)):=by
 unfold Z3t at hc;generalize hoo:ZG ops k=o at hc;obtain ⟨dst,op,type,pos,after,guard⟩:=o;cases op<;>simp only at hc<;>try (cases hc)
 rename_i bop t x y yt;cases bop<;>simp only at hc<;>try (cases hc)
 split at hc
 .rename_i z yk h1 h2;cases hc;intro n' w G ac hF hh;have v1:=hF.ev x;have v2:=hF.ev y;rw [h1] at v1;rw [h2] at v2;have v1:=v1.val_inv;have v2:=v2.val_inv;refine ⟨_,.val,fun w' _ _=>?_⟩;simp only [execOp,v1,v2];refine Vv ?_;have e:(n:Int).fdiv 2=((n / 2:Nat):Int):=by rw [Int.fdiv_eq_ediv_of_nonneg _ om];omega
  simp [eqGuard,binOp,Op.shift,IntKind.bits,e]
 .cases hc
def Zfx (n:Nat) (hn:n<=9223372036854775807) (hc:GG P ops F k=some (.u64,(n:Int)):=by kernel_rfl):XH P (ZG ops k) F h [] (.val<|.int .u64 (n:Int)):=
 SM .u64 _ _ (by simp [IntKind.wrap,IntKind.signed,IntKind.bits];omega) hc
def Zfw (n:Nat) (hn:n<=9223372036854775807) (hc:GG P ops F k=some (.i64,(n:Int)):=by kernel_rfl):XH P (ZG ops k) F h [] (.i n):=
 SM .i64 _ _ (IntWalk.i64_in _ om) hc
end
open Go.Proofs in
def Zfk (g:Hd) (u:Value) (xs:LI) (p:Nat) (v:Int) (hp:p<=xs.length) (hl:xs.length<=1000000000):Wf Tryz.prog 240 [.h g,.i p,ZT [v] u] [.row g.v 1 (Zc<|Z7 xs),.tail u 1] (fun r h=>∃w:Value,r=ZT (Qd xs p v) w/\h=[.tail w 1]):=by
 intro w G vs ha hh;rw [LY] at hh ⊢;have hu:∃hv:Hd,u=hv.v:=by
  rcases hh.ok (.tail u 1) (by simp) with rfl|⟨g,len,cap,cur,e,rfl,_⟩
  .exact ⟨⟨none,0,0⟩,U⟩
  .exact ⟨⟨_,len,cap⟩,U⟩
 obtain ⟨hv,rfl⟩:=hu;exact Zfj g hv xs p v hp hl w G vs ha hh
def Zfb {xs:LI} {p:Nat} {v:Int}:∀x,x∈Qd xs p v↔x∈xs∨x=v:=by
 intro x;have h:=Ty p xs;constructor
 .intro hx;rcases Xh.1 hx with hx|hx
  .exact .inl<|Qr hx
  .rcases YM.1 hx with rfl|hx
   .exact .inr rfl
   .exact .inl<|List.mem_of_mem_drop hx
 .rintro (hx|rfl)
  .rw [<-h] at hx;rcases Xh.1 hx with hx|hx
   .exact Xh.2<|.inl hx
   .exact Xh.2<|.inr<|XF _ hx
  .exact Xh.2<|.inr<|Xn ..
end Go.Abs
end
namespace Go.Abs
open Go.Proofs
def Z88 (x:Int) :Zj 246 [.i x] [] (Yr<|.b false):=by
 exact ZF 6 Tryz.func246<|ZB<|ar<|Zp<|ZW (.b (x != x))<|lb<|by simp
def Zl2 (x:Int) :Zj 243 [.i x] [] (Yr<|.b false):=by
 exact ZF 6 Tryz.func243<|ZB<|ar<|Zp<|ZW (.b (x != x))<|lb<|by simp
def Z87 (x y:Int) :Zj 242 [.i x,.i y] [] (Yr<|.b<|decide (x<y)):=by
 exact ZF 17 Tryz.func242<|ZB<|Y5 1<|Zx [] (Z88 x)<|Zp<|EC
def Z7m (xs:LI) (v:Int) (hl:xs.length<=1000000000:=by exact ob):Zj 239 [Z5 xs,.i v] [] (fun r h=>∃(q:Nat) (f:Bool),r=.tup [.i q,.b f]/\h=[]/\(q<=xs.length/\(f=true->v∈xs))):=by
 refine ZF 54 Tryz.func239<|ZB<|Y5 1<|iw (Yg xs)<|Z0<|ZB<|aq<|ab 0<|Y2 (fun fz gz m F h=>∃(lo:Nat) (hi:Nat),(lo<=hi)/\(hi<=xs.length)/\F=sF [0,1,6] fz [(7,.i lo),(8,.i hi)]/\h=gz/\m=hi-lo) _ _ _ ⟨0,xs.length,ob,ob,U,U,U⟩ (wk []<|Y7 fl) ?_;rintro m F h ⟨lo,hi,Ye,Zk,rfl,rfl,rfl⟩;refine X6 (Y4 ((lo:Int)<(hi:Int)) (fun Za=>?_) fun Za=>?_)
 .refine ak<|ab 1<|Y5 2<|ia (((lo+hi:Nat):Int)) (((lo:Int))+((hi:Int)))<|Zo (Zfx (lo+hi) om)<|Zo (Zfv (lo+hi))<|Zo (Zfw ((lo+hi) / 2) om)<|Z0<|Y5 2 ?_;obtain ⟨x1,Z3⟩:=Zs xs ((lo+hi) / 2) om;refine Zo (Zl none (((lo+hi) / 2:Nat):Int) 1<|Y3 Z3)<|Z1 2<|Zx [] (Z87 x1 v)<|ie (XK (x1<v) (fun Zf=>?_) fun Zf=>?_)
  .exact az<|Z1 1<|ia ((((lo+hi) / 2+1:Nat):Int)) (((((lo+hi) / 2:Nat):Int))+(1))<|Z0<|ZK ⟨(lo+hi) / 2+1,hi,ob,ob,U,U,U⟩<|wk []<|fc (x:=.i (((lo+hi) / 2+1:Nat):Int)) li fl
  exact TD<|ZK ⟨lo,(lo+hi) / 2,ob,ob,U,U,U⟩<|wk []<|fr<|fc (x:=.i (((lo+hi) / 2:Nat):Int)) li fl
 refine ax 0<|Y5 5 (ib (b:=(decide ((lo:Int)<(xs.length:Int)))) 35 (fun Zb=>?_) fun Zb=>?_)
 .have ZX:(lo:Int)<(xs.length:Int):=(dq).1 Zb;refine Z1 2 ?_;obtain ⟨x2,Zr⟩:=Zs xs lo om;refine Zo (Zl none (lo:Int) 1<|Y3 Zr)<|Z1 4 (ib (b:=(x2==v)) 42 (fun ZE=>?_) fun ZE=>?_)
  .have Yf:x2=v:=(Zq).1 ZE;exact Zp<|r2 [] [.i lo,.b true] ⟨lo,true,rfl,rfl,⟨by omega,fun _=>Yf▸Y0 Zr⟩⟩<|lr _
  have YK:¬(x2=v):=Y8 Zq ZE;exact Z1 2<|Zo (Zl none (lo:Int) 1<|Y3 Zr)<|Z1 1<|Zx [] (Zl2 x2)<|Zp<|r2 [] [.i lo,.b false] ⟨lo,false,rfl,rfl,⟨by omega,fun q=>by cases q⟩⟩<|lr _
 have YW:¬((lo:Int)<(xs.length:Int)):=Y8 dq Zb;exact Zp<|r2 [] [.i lo,.b false] ⟨lo,false,rfl,rfl,⟨by omega,fun q=>by cases q⟩⟩<|lr _
def Z85 (xs:LI) (hl_xs:xs.length<=4294967296:=by exact ob):Zj 241 [Z5 xs] [] (fun r h=>∃(g:Hd),r=.h g/\h=[rK g 1 (Zc<|Z7 xs)]):=by
 refine ZF 8 Tryz.func241<|ZB<|YE 1<|iN (Z7 xs) (fun hz1=>?_) ?_
 .have hz1:=LG hz1;refine ie<|Wc<|ZB<|T0 (ED (k:=1)) ?_;subst hz1;exact ZC<|r2 [0] [nl] ⟨hN,U,U⟩ (Zd.hd (v:=hN)) (eq:=(rr (ls:=[]) rfl rz))
 exact ie<|Ww<|ak<|ar (By 1 fun g1=>Z1 1 (E5 0 g1 1 (Z7 xs) none (YJ _) (by simp<;>omega) fun v1=>Zp<|r1 [0] ⟨v1,rfl,rfl⟩))
def Znx (u:Value) (xs:LI) (v:Int) (hl:xs.length<=1000000000:=by exact ob):Zj 236 [ZT xs u,.i v] [.tail u 1] (fun r h=>∃(wu:Value) (ys:LI),r=ZT ys wu/\h=[.tail wu 1]/\(ys.length<=xs.length+1/\∀x,x∈ys↔x∈xs∨x=v)):=by
 refine ZF 21 Tryz.func236<|ZB<|ar<|ZY 2 [(8,Z5 xs)]<|ic [] (Z7m xs v) ?_;rintro _ _ ⟨q1,f1,rfl,rfl,ZX⟩;have hb:=ZX;refine Z0<|X6 (YH f1 Iff.rfl (fun Za=>?_) fun Za=>?_)
 .exact ar<|Zp<|r1 [0] ⟨u,xs,rfl,rfl,⟨by omega,fun x=>⟨.inl,fun q=>q.elim id fun e=>e▸hb.2 Za⟩⟩⟩
 refine ak<|ar<|ZY 1 [(15,Z5 xs)]<|ic [] (Z85 xs) ?_;rintro _ _ ⟨g1,rfl,rfl⟩;refine Z1 2 (iL (Z7 [v]) 1 1 fun v1=>ic [1,0] (Zfk g1 v1 xs q1 v ob ob) ?_);rintro _ _ ⟨w1,rfl,rfl⟩;exact Zp<|r1 [0] ⟨w1,(Qd xs q1 v),rfl,rfl,⟨by rw [E7 _ _ _ hb.1];exact X8 _,Zfb⟩⟩
def Zex (n:Zm) (us:LI) (s:Z4) (hn:YZ n:=by exact ob) (ha:∀a∈s.args,0<=a/\a<us.length) (hnum:s.op=9->0<=s.num/\s.num<n.2.length:=by exact ob) (hal:s.args.length<=1000000000:=by exact ob) (hlt:∀(i:Nat) (a:Int),s.args[i]? = some a->V9 n s.op s.num i=true->gI us a≠0):Zj 221 [.agg [ZQ n.1,YV n],Z5 us,YL s] [] (fun r h=>∃(vp:Value) (vl:Value) (ls:LI),r=.tup [ZT (Vl n us s.op s.num s.args 0) vp,ZT ls vl]/\h=[.tail vp 1,.tail vl 1]/\(ls.length<=s.args.length/\∀x,x∈ls↔∃i,s.args[i]? = some x/\V9 n s.op s.num i=true)):=by
 have hsl:=Zkv hn s.num;have hLA:=fun k=>Zgu (n:=n) (op:=s.op) (num:=s.num) (k:=k)
 refine ZF 53 Tryz.func221<|ar (iA [ZQ n.1,YV n] fun b1=>iA (Xp s) fun b2=>Z0<|Yh 2 [0]<|Zx [] (Sq s.op) (YH (!TB s.op) (p:=¬(TB s.op=true)) (Yp Iff.rfl) (fun Za=>?_) fun Za=>?_))
 .exact ZB<|Qv 1<|Qv 1<|ZC<|r2 [0,0] [nl,nl] ⟨(.slice none 0 0),(.slice none 0 0),[],rfl,rfl,⟨by simp,fun x=>by simp only [List.not_mem_nil,false_iff];rintro ⟨i,_,q⟩;exact Z0p Za i q⟩⟩<|Zd.tup<|.cons (Zd.slh _<|by rw [Ni Za];rfl)<|.cons (Zd.slh _<|by first|rfl|(subst_vars;rfl)) .nil
 refine ak<|Yh 2 [0]<|iw (Yg s.args)<|Z0<|ab 0<|Qv 1<|Qv 1<|Y2 (fun fz gz m F h=>∃(k:Nat) (ps:LI) (v:Value) (u:Value) (ls:LI),(k<=s.args.length)/\(ps.length<=k)/\(ps++Vl n us s.op s.num (s.args.drop k) k=Vl n us s.op s.num s.args 0)/\(ls.length<=k)/\(C0 n s.op s.num s.args k ls)/\F=sF [1,3,5,15,16] fz [(6,ZT ps v),(7,ZT ls u),(17,.i k)]/\h=[Ze gz 2,Ze gz 3,.tail u 1,.tail v 1]/\m=s.args.length-k) _ _ _ ⟨0,[],(.slice none 0 0),(.slice none 0 0),[],ob,ob,rfl,ob,Zgx,rfl,rfl,rfl⟩ (wk [2,2,0,0]<|fc (x:=nl) (Zd.slh _<|by first|rfl|(subst_vars;rfl))<|fc (x:=nl) (Zd.slh _<|by first|rfl|(subst_vars;rfl))<|Y7 fl) ?_;rintro m F h ⟨k,ps,v,u,ls,Ye,Zk,Zw,Yz,W7,rfl,rfl,rfl⟩;refine ZB<|aq (XK ((k:Int)<(s.args.length:Int)) (fun Zf=>?_) fun Zf=>?_)
 .refine ak<|aq<|ab 1<|Y5 1 ?_;obtain ⟨x1,Z3⟩:=Zs s.args k om;have hxa:=ha x1 (Y0 Z3);refine Zo (Zl none (k:Int) 1<|Y3 Z3)<|Z0<|ab 2<|Y5 2 ?_;obtain ⟨x2,Zr⟩:=Zs us x1.toNat om;have hgx:=WH Zr;refine Zo (Zl none x1 1<|Y3 Zr)<|Z0<|Ak (fun fz gz F h=>∃(w:Value) (ps2:LI) (w3:Value) (ls2:LI),(ps2.length<=k+1)/\(ps2++Vl n us s.op s.num (s.args.drop (k+1)) (k+1)=Vl n us s.op s.num s.args 0)/\(ls2.length<=k+1)/\(C0 n s.op s.num s.args (k+1) ls2)/\F=sF [1,3,5,15,16,17] fz [(6,ZT ps2 w),(7,ZT ls2 w3)]/\h=[Ze gz 0,Ze gz 1,.tail w 1,.tail w3 1]) (fun _ _=>rfl) ?_ ?_
  .refine ac (x2==0) Zq (fun ZA=>?_) fun ZA=>?_
   .exact ak<|ZU ⟨v,ps,u,ls,ob,(Z1v Z3 (by rw [Qk,hgx,ZA];simp) Zw),ob,(Z0n W7 fun q=>hlt k x1 Z3 q<|by rw [hgx];exact ZA),rfl,rfl⟩<|wk [0,0,1,0] fl
   refine ar (XD 14 [1,3,5,6,7,8,9,15,16,17] [(46,.b ((s.op==9)&&(decide ((k:Int)∈((UV n s.num).lnt)))))] (fun gz=>gz) ?_ fun hj1=>?_)
   .refine YH ((s.op==9)&&(decide ((k:Int)∈((UV n s.num).lnt)))) (p:=(s.op=9)/\((k:Int)∈((UV n s.num).lnt))) (YN Zq dq) (fun Ym=>?_) fun Ym=>?_
    .refine az<|Z1 2<|ic [2] (Znx u ls x1) ?_;rintro _ _ ⟨wu1,ys1,rfl,rfl,ZX⟩;have hy:=ZX;exact Z0<|ZU ⟨v,ps,wu1,ys1,ob,(Z1v Z3 (by rw [Qk,(hLA k).2 Ym];simp) Zw),(by have:=hy.1;omega),(Zgv Z3 W7 ((hLA k).2 Ym) hy.2),rfl,rfl⟩<|wk [1,1,1,0] fl
    exact az<|Z1 2 (iL (Z7 [(k:Int)]) 1 1 fun v1=>ZY 0 [(24,Z5 [(k:Int)])] (ip 4 (Z7 (ps++[(k:Int)])) (Z7 ps) (Z7 [(k:Int)]) v none 1 (YJ _) (YJ _) (Wk _) (by simp<;>omega) (by simp [Wj,Z7]) fun v2=>Z0<|ZU ⟨v2,(ps++[(k:Int)]),u,ls,ob,(Zij Z3 (by have h1:TB s.op=true:=Wp.1 Za;have h2:V9 n s.op s.num k=false:=JE.2 (fun q=>Ym<|(hLA k).1 q);rw [Qk,hgx,h1,h2];simp [ZA]) Zw),ob,(Z0n W7 fun q=>Ym<|(hLA k).1 q),rfl,rfl⟩<|wk [2,2,0,1] fl))
   refine ZL 4 [0] (ib (b:=(s.op==9)) 36 (fun Zb=>?_) fun Zb=>?_)
   .have Yf:s.op=9:=(Zq).1 Zb;exact ZL 4 [1,0]<|Zo (BP (es:=TU (n.2.map Wb)) (hv:=none) (j:=s.num) (sz:=3) (y:=Gj (UV n s.num)) kr (by have:=hnum (by assumption);omega) (CY<|Z3s<|by have:=hnum (by assumption);rw [Qq];omega) rfl)<|Z1 3<|Zx [] (NR ((UV n s.num).lnt) (k:Int))<|Z1 1<|Yt (ZH 4<|Zu (decide ((k:Int)∈((UV n s.num).lnt))) Zb fl) hj1
   have YK:¬(s.op=9):=Y8 Zq Zb;exact Z1 10<|Yt (ZH 4<|Zu false Zb fl) hj1
  rintro F h ⟨w,ps2,w3,ls2,Ea,Eb,SG,Zp8,rfl,rfl⟩;exact az (ZI k (Z0 (ZK ⟨k+1,ps2,w,w3,ls2,ob,ob,ob,ob,ob,U,U,U⟩ (wk [0,0,1,0] (fw (ZM k fl))))))
 exact ax 0<|ar<|Zp<|r2 [3,2] [ZT ps v,ZT ls u] ⟨v,u,_,rfl,rfl,⟨by omega,Zgw W7 om⟩⟩<|Zd.tup<|.cons (Zd.slh _<|Ys Z7<|Zii om Zw)<|.cons (Zd.slh _<|Ys Z7 ob) .nil
def Z7d (b:Nat) (ga gb gc:Hd) (n:Zm) (L:VB) (ln:LI) (am:List Yn) (s:Z4) (q:Int) (hn:YZ n:=by exact ob) (hk:Xf n.1 L q:=by exact ob) (har:Vg n.1 L am:=by exact ob) (hln:ln.length<=4294967296:=by exact ob) (hal:am.length<=1000000000:=by exact ob) (hlb:L.1.length<=1000000000:=by exact ob) (hf:B9 n L.1 s:=by exact ob) (hlt:∀(i:Nat) (a:Int),s.args[i]? = some a->V9 n s.op s.num i=true->gI L.1 a≠0) (hsl:s.args.length<=1000000000:=by exact ob) (hq:0<=q/\q<=999999980:=by exact ob):Zj 193 [.p b 0,YL s] [.obj b [ZQ n.1,YV n,Z5 ln,Xc am,.h ga,.h gb,.h gc],rV ga L.1,rV gb L.2,rV gc L.6] (fun r h=>(∃(L':VB),r=.b true/\h=[.obj b [ZQ n.1,YV n,Z5 ln,Xc am,.h ga,.h gb,.h gc],rV ga L'.1,rV gb L'.2,rV gc L'.6]/\Tm n ln L s.op s.num s.into s.args=some L')∨(r=.b false/\h=[]/\Tm n ln L s.op s.num s.into s.args=none)):=by
 have hlk:=hk.len;obtain ⟨e1,e2,e3,e4,e5⟩:=hk.len;have hpl:=Z1u (n:=n) (us:=L.1) (op:=s.op) (num:=s.num) s.args 0;refine ZF 74 Tryz.func193<|ar (iA (Xp s) fun b1=>Z0<|aD 15<|ZJ 6 15 [0,1,2,3,4,5,6,7,8] [1,1,0]<|Z9 9<|TC 9 [2] [] [] [rV ga L.1] (Zex n L.1 s (ha:=hf.args) (hnum:=hf.num) (hlt:=hlt)) clS (gS<|gL (v:=ga) 0<|gS gN) (Uu T7) ?_);rintro _ _ ⟨vp1,vl1,ls1,rfl,rfl,ZX⟩;have hls:=ZX;refine Zi 0 5 [10,11,12,13,14]<|de<|YE 1<|io (.i (((Vl n L.1 s.op s.num s.args 0).length:Nat):Int)) (.i (((Z7<|Vl n L.1 s.op s.num s.args 0).length:Nat):Int)) (li<|by rw [Yg])<|Z0<|ab 0<|Y2 (fun fz gz m F h=>∃(k:Nat) (L2:VB),(k<=(Vl n L.1 s.op s.num s.args 0).length)/\(Xf n.1 L2 q)/\(L2.1=L.1)/\(L2.3=L.3/\L2.4=L.4/\L2.5=L.5)/\(J4 s.args ((Vl n L.1 s.op s.num s.args 0).drop k) L2=J4 s.args (Vl n L.1 s.op s.num s.args 0) L)/\F=sF [0,3,6,24,25] fz [(26,.i k)]/\h=[rV ga L2.1,Ze gz 3,Ze gz 4,rV gb L2.2,rV gc L2.6,Ze gz 1,Ze gz 0]/\m=(Vl n L.1 s.op s.num s.args 0).length-k) _ _ _ ⟨0,L,ob,hk,rfl,⟨rfl,rfl,rfl⟩,rfl,rfl,rfl,rfl⟩ (wk [2,2,2,2,2,1,0]<|Y7 fl) ?_;rintro m F h ⟨k,L2,Ye,Zk,Zw,Yz,W7,rfl,rfl,rfl⟩;refine ZB<|aq (XK ((k:Int)<(((Vl n L.1 s.op s.num s.args 0).length:Nat):Int)) (fun Za=>?_) fun Za=>?_)
 .refine ak<|aq<|ab 1<|ar ?_;obtain ⟨x1,Z3⟩:=Zs (Vl n L.1 s.op s.num s.args 0) k om;have hpm:=Nh (Y0 Z3);refine Zo (Zl (some vp1) (k:Int) 1<|Y3 Z3)<|Z0<|Zt 4 [1] ?_;obtain ⟨x2,Zr⟩:=Zs s.args x1.toNat om;have hgx:=WH Zr;have hxa:=hf.args x2 (Y0 Zr);refine Zo (Zl none x1 1<|Y3 Zr)<|Z1 1<|Zx [2,0,1,1] (Gn b ga gb gc n L2 ln am x2 (hlk:=Zk.len) (hi:=(by rw [Zw];exact hxa)) (hq:=(fun y hy=>by have h1:=Zk.nn y hy;have h2:=Zk.bd y hy;omega))) (YH (!decide (1<=gI L2.2 x2)) (p:=¬(decide (1<=gI L2.2 x2)=true)) (Yp Iff.rfl) (fun Zf=>?_) fun Zf=>?_)
  .exact ar<|Zp<|r1 []<|.inr ⟨U,U,(Zdg<|Znc Z3 hgx (fun z=>Zf<|decide_eq_true z) W7)⟩
  have ht:=of_decide_eq_true (Wp.1 Zf);exact ak<|az<|ZI k<|Z0<|ZK ⟨k+1,(XU L2 x2),ob,(Zk.take<|by rw [BR,Zg ht]),Zw,Yz,(Znb Z3 hgx ht W7),rfl,rfl,rfl⟩<|wk [1,3,0,0,0,0,0]<|ZM k fl
 have hT:=Zna om W7;have har2:=har.same (M:=L2) (by rw [Zw]) Yz.1 Yz.2.1 Yz.2.2;have hvl:L2.1.length=L.1.length:=by rw [Zw]
 obtain ⟨f1,f2,f3,f4,f5⟩:=Zk.len;refine ax 0 (YE 1 (iw (Yg ls1) (Z0 (ab 2 (Y2 (fun fz gz m F h=>∃(j:Nat),(j<=ls1.length)/\(∀x∈ls1.take j,Ws L2 ln x=true)/\F=sF [0,3,39,40] fz [(41,.i j)]/\h=[Ze gz 0,Ze gz 1,Ze gz 2,Ze gz 3,Ze gz 4,Ze gz 5]/\m=ls1.length-j) _ _ _ ⟨0,ob,(by simp),rfl,rfl,rfl⟩ (ZH 6 (Y7 fl)) ?_)))));rintro m F h ⟨j,VZ,XB,rfl,rfl,rfl⟩;refine ZB (aq (XK ((j:Int)<(ls1.length:Int)) (fun ZA=>?_) fun ZA=>?_))
 .refine ak<|aq<|ab 3<|ar ?_;obtain ⟨x3,YG⟩:=Zs ls1 j om;have hxm:=Y0 YG;obtain ⟨i0,hi0,_⟩:=(hls.2 _).1 hxm;have hxl:=hf.args _ (Y0 hi0);refine Zo (Zl (some vl1) (j:Int) 1<|Y3 YG)<|Z0<|Y5 2<|Zx [2,0,1,1] (IX b ga gb gc _ L2 ln am x3 Zk.len har2 ob ob ob Zk.down<|by rw [Zw];exact hxl) (YH (!Ws L2 ln x3) (p:=¬(Ws L2 ln x3=true)) (Yp Iff.rfl) (fun Ym=>?_) fun Ym=>?_)
  .exact ar<|Zp<|r1 []<|.inr ⟨U,U,((S9 hT hls.2).2 ⟨x3,hxm,Ym⟩)⟩
  exact ak<|az<|ZI j<|Z0<|ZK ⟨j+1,ob,(by rw [WO YG];exact fun x hx=>(Xh.1 hx).elim (XB x) fun hx=>by rw [XI.1 hx];exact Wp.1 Ym),rfl,rfl,rfl⟩<|wk [1,3,0,0,0,0]<|ZM j fl
 have hH:=(S9 (into:=s.into) hT hls.2).1 fun x hx=>XB x (by rw [Vc om];exact hx)
 have hin:=hf.into;refine ax 2<|X6<|U6 [1] (ac (s.into != 0) Yb (fun Xm=>?_) fun Xm=>?_)
 .refine aq<|aD 13<|ZJ 7 13 [0,1,2,3,4,5] [2,1]<|da 6 ((s.into-1)) ((s.into)-(1))<|dx 7 (Wg 4 gc L2.6 (s.into-1) ((s.into-1).toNat) (hq:=rfl)) ?_;obtain ⟨x4,WM⟩:=Zs L2.6 ((s.into-1).toNat) om;have hgt:=WH WM;refine Us 8 (VO 4 gc L2.6 ((s.into-1).toNat) x4 WM)<|ZJ 2 4 [9,10] [1]<|dw 11 (Yg s.args)<|Zi 0 1 [12]<|de (ac (x4 != (s.args.length:Int)) Yb (fun Xs=>?_) fun Xs=>?_)
  .exact ar<|Zp<|r1 []<|.inr ⟨rfl,rfl,(by rw [hH,JW,Zg om,hgt,Zg Xs])⟩
  exact ak<|aE 9<|ZJ 3 9 [0,1,2,3,4,5] [2,1]<|da 6 ((s.into-1)) ((s.into)-(1))<|dx 7 (Wg 4 gc L2.6 (s.into-1) ((s.into-1).toNat) (hq:=rfl))<|Z9 8<|Al 8 4 [] [] gc L2.6 ((s.into-1).toNat) (-1)<|de<|ar<|Zp<|r1 [3,1,2,0] (.inl ⟨(Zy.mk L2.1 L2.2 L2.3 L2.4 L2.5<|L2.6.set (s.into-1).toNat (-1)),rfl,rfl,(by rw [hH,JW,Zg om,hgt,Z8 Xs])⟩) (eq:=(rc<|rv (xs:=L2.1) ob<|rv (xs:=L2.2) ob<|rv (xs:=(L2.6.set ((s.into-1).toNat) (-1))) ob rz))
 exact ak<|ar<|Zp<|r1 [2,0,1,1]<|.inl ⟨L2,rfl,rfl,(by rw [hH,JW,Z8 om])⟩
def Z7i (b:Nat) (ga gb gc:Hd) (n:Zm) (L:VB) (ln:LI) (am:List Yn) (xs:List Z4) (q:Int) (vs:LI) (hn:YZ n:=by exact ob) (hk:Xf n.1 L q:=by exact ob) (har:Vg n.1 L am:=by exact ob) (ht:XJ n xs L.1=some vs:=by exact ob) (hnn:∀t∈L.1,0<=t) (hb:L.1.length+am.length+4*Ya xs<=900000000:=by exact ob) (hq:0<=q/\q+4*Ya xs<=999999980:=by exact ob) (hr:Q6 xs:=by exact ob) (ih:∀(s2:Z4) (c:Nat) (ra rb rc:Hd) (M:VB) (a2:List Yn) (p:Int),(s2.sz<=Ya xs)->(Xf n.1 M p)->(Vg n.1 M a2)->(0<=Y6 n M.1 s2)->(∀t∈M.1,0<=t)->(M.1.length+a2.length+4*s2.sz<=900000000)->(0<=p/\p+4*s2.sz<=999999980)->(s2.rng)->Zj 141 [.p c 0,YL s2] [.obj c [ZQ n.1,YV n,Z5 ln,Xc a2,.h ra,.h rb,.h rc],rV ra M.1,rV rb M.2,rV rc M.6] fun r h=>(∃(wa wb wc:Hd) (M':VB),r=.b true/\h=[.obj c [ZQ n.1,YV n,Z5 ln,Xc a2,.h wa,.h wb,.h wc],rV wa M'.1,rV wb M'.2,rV wc M'.6]/\UY n ln M s2=some M')∨(r=.b false/\h=[]/\UY n ln M s2=none)):Zj 94 [.p b 0,WE xs] [.obj b [ZQ n.1,YV n,Z5 ln,Xc am,.h ga,.h gb,.h gc],rV ga L.1,rV gb L.2,rV gc L.6] (fun r h=>(∃(wa:Hd) (wb:Hd) (wc:Hd) (L':VB),r=.b true/\h=[.obj b [ZQ n.1,YV n,Z5 ln,Xc am,.h wa,.h wb,.h wc],rV wa L'.1,rV wb L'.2,rV wc L'.6]/\VN n ln L xs=some L')∨(r=.b false/\h=[]/\VN n ln L xs=none)):=by
 have hxl:=A4 xs;refine ZF 18 Tryz.func94<|ZB<|YE 1<|iw (V8 xs)<|Z0<|ab 0<|Y2 (fun fz gz m F h=>∃(k:Nat) (q2:Int) (L2:VB) (ka:Hd) (kb:Hd) (kc:Hd),(k<=xs.length)/\(Xf n.1 L2 q2)/\(0<=q2/\q2+4*Ya (xs.drop k)<=999999980)/\(L2.1.length+am.length+4*Ya (xs.drop k)<=900000000)/\(XJ n (xs.drop k) L2.1=some vs)/\(VN n ln L2 (xs.drop k)=VN n ln L xs)/\(Vg n.1 L2 am)/\(∀t∈L2.1,0<=t)/\F=sF [0,7,8] fz [(9,.i k)]/\h=[.obj b [ZQ n.1,YV n,Z5 ln,Xc am,.h ka,.h kb,.h kc],rV ka L2.1,rV kb L2.2,rV kc L2.6]/\m=xs.length-k) _ _ _ ⟨0,q,L,ga,gb,gc,ob,hk,(by rw [J7];omega),(by rw [J7];omega),ht,rfl,har,hnn,rfl,rfl,rfl⟩ (ZH 4<|Y7 fl) ?_;rintro m F h ⟨k,q2,L2,ka,kb,kc,Ye,Zk,Zw,Yz,W7,KG,L7,Pg,rfl,rfl,rfl⟩;refine ZB<|aq (XK ((k:Int)<(xs.length:Int)) (fun Za=>?_) fun Za=>?_)
 .obtain ⟨s1,hs1⟩:=Zs xs k om;have hdr:=Yc hs1;have hz:Ya (xs.drop k)=s1.sz+Ya (xs.drop (k+1)):=by rw [hdr,Ya]
  have Xg:=Z4l hs1;have hsr:=NY hr hs1;rw [hdr] at W7 KG;obtain ⟨g1,g2⟩:=Ez W7;refine ak<|aq<|ab 1<|ar<|Zo (Zl none (k:Int) 5<|Wi hs1)<|Z1 1 (iA [.i 0,.i 0,.i 0,nl,nl] fun b1=>ZD 0 b1 (Xp s1)<|ie<|Zt 2 [0]<|ic [1,1,1,1] (ih s1 b ka kb kc L2 am q2 ob Zk L7 g1 Pg om om hsr) ?_);rintro _ _ (⟨wa1,wb1,wc1,M'1,rfl,rfl,ZX⟩|⟨rfl,rfl,Yf⟩)
  .have hP:=ZX;have kx:=Ih hn Zk Zw.1 g1 hP;exact Z0<|Ww<|ak<|az<|ZI k<|Z0<|ZK ⟨k+1,(q2+4*s1.sz),M'1,wa1,wb1,wc1,ob,kx.1,om,(by rw [kx.2];have:=FX n L2.1 s1;omega),(by rw [kx.2];exact g2),(by rw [<-KG,VN,hP];rfl),(Z4v hn Zk Zw.1 g1 hP L7),(by rw [kx.2];exact Zkp Pg g1),rfl,rfl,rfl⟩<|ZH 4<|ZM k fl
  have hP:=Yf;exact Z0<|Wc<|ar<|Zp<|r1 []<|.inr ⟨rfl,rfl,(by rw [<-KG,VN,hP];rfl)⟩
 exact ax 0<|ar<|Zp<|r1 [0,0,0,0]<|.inl ⟨ka,kb,kc,L2,rfl,rfl,(by rw [<-KG,Xk om];rfl)⟩
def Pn (am:List Yn) (hl:am.length<=1000000000:=by exact ob):Zj 103 [Xc am] [] (fun r h=>∃(v:Value),r=N5 am v/\h=[.tail v 4]):=by
 refine ZF 8 Tryz.func103<|ZB<|YE 1<|iN (X2 am) (fun hz1=>?_) ?_
 .have hz1:=R7 hz1;exact ie<|Wc<|ZB<|Qv 4<|ZC<|r2 [0] [nl] ⟨(.slice none 0 0),rfl,rfl⟩<|Zd.slh _ (by first|rfl|(subst_vars;rfl))
 exact ie<|Ww<|ak<|ar (iL (X2 []) 0 4 fun v1=>Z1 1 (ip 0 (X2 am) (X2 []) (X2 am) v1 none 4 (JQ _) (JQ _) (F6 _) (by simp<;>omega) (by simp [X2]) fun v2=>Zp<|r1 [0] ⟨v2,rfl,rfl⟩))
def OR (am:List Yn) (a:Yn) (hl:am.length<=900000000:=by exact ob):Zj 56 [Xc am,.agg [.i a.mat,.i a.fst,Z5 a.fds,.b a.chg]] [] (Yr<|Xc (am++[a])):=by
 refine ZF 10 Tryz.func56<|ar (iA [.i a.mat,.i a.fst,Z5 a.fds,.b a.chg] fun b1=>?_);refine Z0<|aD 6<|ZJ 4 6 [0,2] [0]<|Ji (fun fz gz F h=>∃(v3:Value),F=sF [] fz [(4,N5 (am++[a]) v3)]/\h=gz) ?_ ?_
 .refine VR 1 3 ?_ ?_
  .refine dc 1 [] [0] [b1] (Pn am) ?_;rintro _ _ ⟨v1,rfl,rfl⟩;exact Z9 3 (dL 3 [] [] (X2 [a]) 1 4 fun v2=>Yw 2 2 [] [(8,Xc [a])]<|Z9 4 (dp 4 1 [] [] (X2 (am++[a])) (X2 am) (X2 [a]) v1 none 4 (JQ _) (JQ _) (F6 _) (by simp<;>omega) (by simp [F5,X2]) fun v3=>Zi 0 1 [5]<|de<|ZU ⟨v3,rfl,rfl⟩<|wk [2] fl))
  refine dL 3 [] [] (X2 [a]) 1 4 fun v4=>Z9 1<|dc 1 [] [] [] (Pn am) ?_
  rintro _ _ ⟨v5,rfl,rfl⟩;exact Yw 2 2 [] [(8,Xc [a])] (Z9 4 (dp 4 0 [] [] (X2 (am++[a])) (X2 am) (X2 [a]) v5 none 4 (JQ _) (JQ _) (F6 _) (by simp<;>omega) (by simp [F5,X2]) fun v6=>Zi 0 1 [5] (de (ZU ⟨v6,rfl,rfl⟩ (wk [2] fl)))))
 rintro F h ⟨v3,rfl,rfl⟩;exact ZC (ZW (N5 (am++[a]) v3) (Zd.forget _ _))
def Z7c (b:Nat) (ga gb gc:Hd) (n:Zm) (L:VB) (ln:LI) (am:List Yn) (s:Z4) (q:Int) (hn:YZ n:=by exact ob) (hty:Jb n:=by exact ob) (hlt:CQ n:=by exact ob) (hk:Xf n.1 L q:=by exact ob) (har:Vg n.1 L am:=by exact ob) (hln:ln.length<=4294967296:=by exact ob) (hf:B9 n L.1 s:=by exact ob) (hop:s.op=7∨s.op=8:=by exact ob) (hnn:∀t∈L.1,0<=t) (hb:L.1.length+am.length+4*s.sz<=900000000:=by exact ob) (hq:0<=q/\q+4*s.sz<=999999980:=by exact ob) (hr:s.rng:=by exact ob) (ih:∀(ys:List Z4) (c:Nat) (ra rb rc:Hd) (M:VB) (a2:List Yn) (p:Int) (vs:LI),(Ya ys<s.sz)->(Xf n.1 M p)->(Vg n.1 M a2)->(XJ n ys M.1=some vs)->(∀t∈M.1,0<=t)->(M.1.length+a2.length+4*Ya ys<=900000000)->(0<=p/\p+4*Ya ys<=999999980)->(Q6 ys)->Zj 94 [.p c 0,WE ys] [.obj c [ZQ n.1,YV n,Z5 ln,Xc a2,.h ra,.h rb,.h rc],rV ra M.1,rV rb M.2,rV rc M.6] fun r h=>(∃(wa wb wc:Hd) (M':VB),r=.b true/\h=[.obj c [ZQ n.1,YV n,Z5 ln,Xc a2,.h wa,.h wb,.h wc],rV wa M'.1,rV wb M'.2,rV wc M'.6]/\VN n ln M ys=some M')∨(r=.b false/\h=[]/\VN n ln M ys=none)):Zj 191 [.p b 0,YL s] [.obj b [ZQ n.1,YV n,Z5 ln,Xc am,.h ga,.h gb,.h gc],rV ga L.1,rV gb L.2,rV gc L.6] (fun r h=>(∃(wa:Hd) (wb:Hd) (wc:Hd) (L':VB),r=.b true/\h=[.obj b [ZQ n.1,YV n,Z5 ln,Xc am,.h wa,.h wb,.h wc],rV wa L'.1,rV wb L'.2,rV wc L'.6]/\Ai n ln L s=some L')∨(r=.b false/\h=[]/\Ai n ln L s=none)):=by
 have hlk:=hk.len;obtain ⟨e1,e2,e3,e4,e5⟩:=hk.len;have Xz:=hn.decls;have hkz:=T6 s;have haz:=Qw s;obtain ⟨hk1,hk2,hk3⟩:=hf.kids hop;obtain ⟨kd,hkd⟩:=Zs s.kids 0 om;obtain ⟨x,hxa⟩:=hf.one om;have ha:s.args[0]? = some x:=by rw [hxa];rfl
 have hx:=hf.args x (by rw [hxa];simp);have hgx:=Jn ha;have hal0:=(Xv.1 ha).1;have hr2:=hr;rw [s.rng_eq] at hr2;refine ZF 156 Tryz.func191<|ar (iA (Xp s) fun b1=>Z0<|X6<|Xu [0,3] [(24,.b ((s.op==8)&&(!Ws L ln x)))] (fun gz=>[Ze gz 1,Ze gz 2,Ze gz 3,Ze gz 4,Ze gz 0]) ?_ ?_)
 .refine ZL 4 [0] (ib (b:=(s.op==8)) 16 (fun Zb=>?_) fun Zb=>?_)
  .have ZX:s.op=8:=(Zq).1 Zb;exact ZL 3 [0]<|Zo (Zl none 0 1<|Y3 ha)<|Z1 1<|Zx [1,1,1,1] (IX b ga gb gc n L ln am x ob ob ob ob ob hk.down ob)<|Z0<|ZH 5<|Zu (!Ws L ln x) Zb fl
  have Yf:¬(s.op=8):=Y8 Zq Zb;exact Z0<|wk [1,1,1,1,0]<|Zu false Zb fl
 refine ac ((s.op==8)&&(!Ws L ln x)) (p:=(s.op=8)/\(¬(Ws L ln x=true))) (YN Zq<|Yp Iff.rfl) (fun Za=>?_) fun Za=>?_
 .exact ar<|Zp<|r1 []<|.inr ⟨rfl,rfl,(Z80 Za.1<|by rw [hgx];exact Za.2)⟩
 have hgo:=Pm (n:=n) (ln:=ln) (L:=L) (s:=s) (by rw [hgx];exact Za) hkd;refine ak<|Zt 2 [4]<|iw (U0 s.kids) (iMN s.kids.length s.kids.length fun v1=>?_);refine Z0<|X6<|U6 [5]<|XY (fun fz gz F h=>F=sF [0,3] fz [(5,KU<|Xi n.1 s.op s.num)]/\h=[Ze gz 1,Ze gz 2,Ze gz 3,Ze gz 4,Ze gz 5]) ?_ ?_
 .refine ac (s.op==8) Zq (fun Zf=>?_) fun Zf=>?_
  .exact aE 8<|ZJ 2 8 [0,1,2,3,4,5] [1,5]<|Z9 6<|Yu 6 [] [] [] (Hm _ s.num)<|Zi 0 1 [7]<|de<|ZU ⟨rfl,rfl⟩<|wk [1,1,1,1,1]<|fc (x:=KU ((Y1 n.1 s.num).map<|ZZ n.1)) (Zd.sl _<|Ys WD<|by rw [Xi,Z8 om]) fl
  exact ak<|ZU ⟨rfl,rfl⟩<|wk [1,1,1,1,1]<|fc (x:=Co (List.replicate s.kids.length []) v1) (Zd.sl _<|Ys WD<|by rw [show s.kids.length=2 by rw [hk1,Xi,Zg om];rfl,Xi,Zg om];rfl) fl
 rintro F h ⟨rfl,rfl⟩;refine Zt 4 [0] (Zo (Aa 1 ga L.1) (Z0 (ZB (Yh 2 [4] (iw (U0 s.kids) (Z0 (ab 0 (Y2 (fun fz gz m F h=>(∃(k:Nat),(k=0)/\F=sF [0,3,5,6,7,45,46] fz [(47,.i k)]/\h=gz/\m=s.kids.length-k)∨(∃(k:Nat) (c0:Nat) (ua:Hd) (ub:Hd) (uc:Hd) (O:VB) (aO:List Yn),(1<=k/\k<=s.kids.length)/\(VD n ln (U3 n.1 L s.op s.num s.args 0) L.1.length kd=some (O.take L.1.length))/\(L.1.length<=O.2.length/\O.2.length<=1000000000/\L.1.length<=O.6.length/\O.6.length<=1000000000)/\(Jq n ln L s.op s.num s.args (O.take L.1.length) (s.kids.drop k) k=Jq n ln L s.op s.num s.args (O.take L.1.length) (s.kids.drop 1) 1)/\F=sF [0,3,5,6,45,46] fz [(7,.p c0 0),(47,.i k)]/\h=[.obj c0 [ZQ n.1,YV n,Z5 ln,Xc aO,.h ua,.h ub,.h uc],rV ua O.1,rV ub O.2,rV uc O.6,Ze gz 0,Ze gz 1,Ze gz 2,Ze gz 3,Ze gz 4]/\m=s.kids.length-k)) _ _ _ (.inl ⟨0,U,U,U,U⟩) (ZH 5 (Y7 fl)) ?_))))))));rintro m F h (⟨k,Ye,rfl,rfl,rfl⟩|⟨k,c0,ua,ub,uc,O,aO,d0_0,d0_1,d0_2,d0_3,rfl,rfl,rfl⟩)
 .refine ZB<|aq (XK ((k:Int)<(s.kids.length:Int)) (fun ZA=>?_) fun ZA=>?_)
  .obtain ⟨ke,hke⟩:=Zs s.kids k om;obtain ⟨mk,hmk⟩:=Zs (Xi n.1 s.op s.num) k om;have hK:=Ed hk hq.1 hf hop hmk;have hmk3:=EQ Xz hmk;have hks:=T5 hke;have hbt:=hk3 k ke mk hke hmk;obtain ⟨vs,rt,hvs,hres,hrt⟩:=DE hbt;have hri:=KC hres;have hsrr:Q6 ke.steps:=by
    have h:=Gr hr2.2 hke
    rwa [Z6.rng_eq] at h
   have hbz:=ke.sz_eq;have hak:=OO hn har hlk hop (by rw [hgx];exact hx) hmk;have hsl:=Ii hvs;rw [Yy] at hsl;have hkl:=ON (L:=L) (am:=am) (s:=s) (m:=mk);refine ak<|aq<|ab 1<|Y5 1<|Zo (Zl none (k:Int) 2<|Ux hke)<|Z1 1 (iA [nl,.i 0] fun b2=>Z1 1<|ZD 0 b2 (Xb ke)<|ie<|Y5 1<|ic [1,1,1,1] (P4 b ga gb gc n L ln am) ?_);rintro _ _ ⟨c1,wa1,wb1,wc1,rfl,rfl⟩;refine Z0<|X6<|U6 [9]<|XY (fun fz gz F h=>F=sF [0,3,5,6,7,8,9,10,45,46,47] fz []/\h=[.obj c1 [ZQ n.1,YV n,Z5 ln,Xc<|Qa L am s mk,.h wa1,.h wb1,.h wc1],Ze gz 1,Ze gz 2,Ze gz 3,Ze gz 4,Ze gz 5,Ze gz 6,Ze gz 7,Ze gz 8,Ze gz 9]) ?_ ?_
   .refine ac (s.op==8) Zq (fun Ym=>?_) fun Ym=>?_
    .exact aE 19<|ZJ 12 19 [0,1,2,3,4,5,6] [4,9]<|dx 7 (Zl none 0 1<|Y3 ha)<|Zi 7 11 [8,9,10,11]<|dx 12 (Zl none (k:Int) 1<|AL hmk)<|Zi 4 6 [13,14]<|Z9 15<|Yu 15 [] [] [] (OR am<|Yn.mk x (L.1.length:Int) mk false)<|Zi 1 3 [16,17]<|Z9 18<|YO 18 0 [] [] c1 [ZQ n.1,YV n,Z5 ln,Xc (am++[(Yn.mk x (L.1.length:Int) mk false)]),.h wa1,.h wb1,.h wc1]<|de<|ZU ⟨rfl,rfl⟩<|ZH 10 fl (e:=(ro (ls:=[ZQ n.1,YV n,Z5 ln,Xc (am++[(Yn.mk x (L.1.length:Int) mk false)]),.h wa1,.h wb1,.h wc1]) (by rw [Qa,Zg ‹s.op=8›,hgx])<|rc<|rc<|rc<|rc<|rc<|rc<|rc<|rc<|rc rz))
    exact ak<|ZU ⟨rfl,rfl⟩<|ZH 10 fl (e:=(ro (ls:=[ZQ n.1,YV n,Z5 ln,Xc am,.h wa1,.h wb1,.h wc1]) (by rw [Qa,Z8 ‹¬s.op=8›])<|rc<|rc<|rc<|rc<|rc<|rc<|rc<|rc<|rc rz))
   rintro F h ⟨rfl,rfl⟩;refine YE 2 (Zo (Zl none (k:Int) 1 (AL hmk)) (Z1 1 (iw (Yg mk) (Z0 (ab 2 (Y2 (fun fz gz m F h=>∃(j:Nat) (L3:VB) (ka:Hd) (kb:Hd) (kc:Hd),(j<=mk.length)/\(WT L3)/\(L3.vars.length=L.1.length+j)/\(JT L3 (gI s.args 0) (mk.drop j)=U3 n.1 L s.op s.num s.args k)/\F=sF [0,3,5,6,7,9,10,45,46,47,78,79] fz [(80,.i j)]/\h=[.obj c1 [ZQ n.1,YV n,Z5 ln,Xc (Qa L am s mk),.h ka,.h kb,.h kc],Ze gz 4,Ze gz 5,Ze gz 6,Ze gz 7,Ze gz 8,Ze gz 9,rV ka L3.vars,rV kb L3.own,rV kc L3.tok]/\m=mk.length-j) _ _ _ ⟨0,(A5 n L s k),wa1,wb1,wc1,ob,(Z4u hlk),(by rw [CA];rfl),(by rw [J7];exact Z4t hop hmk),rfl,rfl,rfl⟩ (wk [0,3,3,3,3,3,3,0,0,0] (Y7 fl) (e:=(rc (rc (rc (rc (rc (rc (rc (rv (xs:=L.1) (by first|rw [CA]|rw [Ex]|rw [Ey]) (rv (xs:=L.2) (by first|rw [CA]|rw [Ex]|rw [Ey]) (rv (xs:=L.6) (by first|rw [CA]|rw [Ex]|rw [Ey]) rz)))))))))))) ?_))))));rintro m F h ⟨j,L3,ka,kb,kc,VZ,XB,Xw,Ah,rfl,rfl,rfl⟩;refine ZB (aq (XK ((j:Int)<(mk.length:Int)) (fun Xm=>?_) fun Xm=>?_))
   .obtain ⟨xm,hxm⟩:=Zs mk j om;refine ak (aq (ab 3 (ar (Zo (Zl none (j:Int) 1 (Y3 hxm)) (Z0 (az (Z1 2 (ic [0,6,6,6] (DC c1 ka kb kc n L3 ln (Qa L am s mk) xm 0 (hlk:=XB)) ?_))))))));rintro _ _ ⟨wa2,wb2,wc2,rfl⟩;exact ie (az (ZI j (Z0 (ZK ⟨j+1,(L3.grow xm 0 (gI s.args 0)),wa2,wb2,wc2,ob,(WT.grow XB),(by simp [Zy.grow];omega),(by rw [Yc hxm,JT] at Ah;exact Ah),rfl,rfl,rfl⟩ (wk [0,3,3,3,3,3,3,0,0,0] (ZM j fl) (e:=(rc (rc (rc (rc (rc (rc (rc (rv (xs:=(L3.grow xm 0 (-1)).vars) ob (rv (xs:=(L3.grow xm 0 (-1)).own) ob (rv (xs:=(L3.grow xm 0 (-1)).tok) ob rz))))))))))))))))
   have hE:L3=U3 n.1 L s.op s.num s.args k:=by rw [<-Ah,Xk om];rfl
   have hL3v:L3.vars=L.1++mk:=by rw [hE];exact hK.2
   have hL3l:L3.vars.length=L.1.length+mk.length:=by rw [hL3v,Yy]
   refine ax 2<|Yh 3 [5]<|ic [0,6,6,6] (ih ke.steps c1 ka kb kc L3 (Qa L am s mk) q vs ob (by rw [hE];exact hK.1) (by rw [hE];exact hak) (by rw [hL3v];exact hvs) (by rw [hL3v];exact Fz hnn<|OP hty hmk) om om hsrr) ?_;rintro _ _ (⟨wa3,wb3,wc3,M'1,rfl,rfl,YK⟩|⟨rfl,rfl,YW⟩)
   .have hP:=YK;have kx:=Ij hn (by rw [hE];exact hK.1) hq.1 (by rw [hE];exact hak) (by rw [hL3v];exact hvs) hP;have kl:=kx.1.len;have hm1:(Wt M'1 ke.result).own.length=vs.length:=by rw [GT.1,kl.own,kx.2.1]
    have hm2:(Wt M'1 ke.result).tok.length=vs.length:=by rw [GT.2.1,kl.tok,kx.2.1]
    refine ZL 5 [8]<|ic [0,0,0,0] (IY c1 wa3 wb3 wc3 n M'1 ln (Qa L am s mk) ke L.1.length (hlk:=kl) (hlb:=(by rw [kx.2.1];omega)) (hm:=(by rw [kx.2.1];omega)) (hr:=(by rw [kx.2.1];omega)) (hq:=(fun y hy=>by have h1:=kx.1.nn y hy;have h2:=kx.1.bd y hy;omega))) ?_;rintro _ _ (⟨rfl,rfl,Xl⟩|⟨rfl,rfl,XS⟩)
    .have hB:=Xl;rw [<-Ik (f:=UA L.1.length ke.result) hP,hE,<-Ag] at hB;exact Z0<|Ww<|ak<|ab 4<|Y5 1<|iQ true<|Z0<|Wc<|TD<|az<|ZI k<|Z0<|ZK (.inr ⟨k+1,c1,wa3,wb3,wc3,(Wt M'1 ke.result),(Qa L am s mk),om,(by subst Ye;have e:=Qs (hkd.symm.trans hke);subst e;exact hB),om,(by subst Ye;rfl),rfl,rfl,rfl⟩)<|wk [0,0,0,0,0,0,0,0,1]<|fr<|ZM k fl
    have hB:=XS;rw [<-Ik (f:=UA L.1.length ke.result) hP,hE,<-Ag] at hB;exact Z0<|Wc<|ar<|Zp<|r1 []<|.inr ⟨rfl,rfl,(by subst Ye;have e:=Qs (hkd.symm.trans hke);subst e;rw [hgo,hB];rfl)⟩
   have hB:VD n ln (U3 n.1 L s.op s.num s.args k) L.1.length ke=none:=by rw [Ag,<-hE,YW];rfl
   exact Z0<|Wc<|ar<|Zp<|r1 []<|.inr ⟨rfl,rfl,(by subst Ye;have e:=Qs (hkd.symm.trans hke);subst e;rw [hgo,hB];rfl)⟩
  exact absurd hk2 om
 refine ZB<|aq (XK ((k:Int)<(s.kids.length:Int)) (fun Xs=>?_) fun Xs=>?_)
 .obtain ⟨ke,hke⟩:=Zs s.kids k om;obtain ⟨mk,hmk⟩:=Zs (Xi n.1 s.op s.num) k om;have hK:=Ed hk hq.1 hf hop hmk;have hmk3:=EQ Xz hmk;have hks:=T5 hke;have hbt:=hk3 k ke mk hke hmk;obtain ⟨vs,rt,hvs,hres,hrt⟩:=DE hbt;have hri:=KC hres;have hsrr:Q6 ke.steps:=by
   have h:=Gr hr2.2 hke
   rwa [Z6.rng_eq] at h
  have hbz:=ke.sz_eq;have hak:=OO hn har hlk hop (by rw [hgx];exact hx) hmk;have hsl:=Ii hvs;rw [Yy] at hsl;have hkl:=ON (L:=L) (am:=am) (s:=s) (m:=mk);refine ak<|aq<|ab 1<|Y5 1<|Zo (Zl none (k:Int) 2<|Ux hke)<|Z1 1 (iA [nl,.i 0] fun b3=>Z1 1<|ZD 0 b3 (Xb ke)<|ie<|Y5 1<|ic [5,5,5,5] (P4 b ga gb gc n L ln am) ?_);rintro _ _ ⟨c2,wa4,wb4,wc4,rfl,rfl⟩;refine Z0<|X6<|U6 [13]<|XY (fun fz gz F h=>F=sF [0,3,5,6,7,8,9,10,45,46,47] fz []/\h=[.obj c2 [ZQ n.1,YV n,Z5 ln,Xc<|Qa L am s mk,.h wa4,.h wb4,.h wc4],Ze gz 1,Ze gz 2,Ze gz 3,Ze gz 4,Ze gz 5,Ze gz 6,Ze gz 7,Ze gz 8,Ze gz 9,Ze gz 10,Ze gz 11,Ze gz 12,Ze gz 13]) ?_ ?_
  .refine ac (s.op==8) Zq (fun Ul=>?_) fun Ul=>?_
   .exact aE 19<|ZJ 12 19 [0,1,2,3,4,5,6] [4,13]<|dx 7 (Zl none 0 1<|Y3 ha)<|Zi 7 11 [8,9,10,11]<|dx 12 (Zl none (k:Int) 1<|AL hmk)<|Zi 4 6 [13,14]<|Z9 15<|Yu 15 [] [] [] (OR am<|Yn.mk x (L.1.length:Int) mk false)<|Zi 1 3 [16,17]<|Z9 18<|YO 18 0 [] [] c2 [ZQ n.1,YV n,Z5 ln,Xc (am++[(Yn.mk x (L.1.length:Int) mk false)]),.h wa4,.h wb4,.h wc4]<|de<|ZU ⟨rfl,rfl⟩<|ZH 14 fl (e:=(ro (ls:=[ZQ n.1,YV n,Z5 ln,Xc (am++[(Yn.mk x (L.1.length:Int) mk false)]),.h wa4,.h wb4,.h wc4]) (by rw [Qa,Zg ‹s.op=8›,hgx])<|rc<|rc<|rc<|rc<|rc<|rc<|rc<|rc<|rc<|rc<|rc<|rc<|rc rz))
   exact ak<|ZU ⟨rfl,rfl⟩<|ZH 14 fl (e:=(ro (ls:=[ZQ n.1,YV n,Z5 ln,Xc am,.h wa4,.h wb4,.h wc4]) (by rw [Qa,Z8 ‹¬s.op=8›])<|rc<|rc<|rc<|rc<|rc<|rc<|rc<|rc<|rc<|rc<|rc<|rc<|rc rz))
  rintro F h ⟨rfl,rfl⟩;refine YE 2 (Zo (Zl none (k:Int) 1 (AL hmk)) (Z1 1 (iw (Yg mk) (Z0 (ab 2 (Y2 (fun fz gz m F h=>∃(j:Nat) (L3:VB) (ka:Hd) (kb:Hd) (kc:Hd),(j<=mk.length)/\(WT L3)/\(L3.vars.length=L.1.length+j)/\(JT L3 (gI s.args 0) (mk.drop j)=U3 n.1 L s.op s.num s.args k)/\F=sF [0,3,5,6,7,9,10,45,46,47,78,79] fz [(80,.i j)]/\h=[.obj c2 [ZQ n.1,YV n,Z5 ln,Xc (Qa L am s mk),.h ka,.h kb,.h kc],Ze gz 4,Ze gz 5,Ze gz 6,Ze gz 7,Ze gz 8,Ze gz 9,Ze gz 10,Ze gz 11,Ze gz 12,Ze gz 13,rV ka L3.vars,rV kb L3.own,rV kc L3.tok]/\m=mk.length-j) _ _ _ ⟨0,(A5 n L s k),wa4,wb4,wc4,ob,(Z4u hlk),(by rw [CA];rfl),(by rw [J7];exact Z4t hop hmk),rfl,rfl,rfl⟩ (wk [0,3,3,3,3,3,3,3,3,3,3,0,0,0] (Y7 fl) (e:=(rc (rc (rc (rc (rc (rc (rc (rc (rc (rc (rc (rv (xs:=L.1) (by first|rw [CA]|rw [Ex]|rw [Ey]) (rv (xs:=L.2) (by first|rw [CA]|rw [Ex]|rw [Ey]) (rv (xs:=L.6) (by first|rw [CA]|rw [Ex]|rw [Ey]) rz)))))))))))))))) ?_))))));rintro m F h ⟨j,L3,ka,kb,kc,VZ,XB,Xw,Ah,rfl,rfl,rfl⟩;refine ZB (aq (XK ((j:Int)<(mk.length:Int)) (fun Uc=>?_) fun Uc=>?_))
  .obtain ⟨xm,hxm⟩:=Zs mk j om;refine ak (aq (ab 3 (ar (Zo (Zl none (j:Int) 1 (Y3 hxm)) (Z0 (az (Z1 2 (ic [0,10,10,10] (DC c2 ka kb kc n L3 ln (Qa L am s mk) xm 0 (hlk:=XB)) ?_))))))));rintro _ _ ⟨wa5,wb5,wc5,rfl⟩;exact ie (az (ZI j (Z0 (ZK ⟨j+1,(L3.grow xm 0 (gI s.args 0)),wa5,wb5,wc5,ob,(WT.grow XB),(by simp [Zy.grow];omega),(by rw [Yc hxm,JT] at Ah;exact Ah),rfl,rfl,rfl⟩ (wk [0,3,3,3,3,3,3,3,3,3,3,0,0,0] (ZM j fl) (e:=(rc (rc (rc (rc (rc (rc (rc (rc (rc (rc (rc (rv (xs:=(L3.grow xm 0 (-1)).vars) ob (rv (xs:=(L3.grow xm 0 (-1)).own) ob (rv (xs:=(L3.grow xm 0 (-1)).tok) ob rz))))))))))))))))))))
  have hE:L3=U3 n.1 L s.op s.num s.args k:=by rw [<-Ah,Xk om];rfl
  have hL3v:L3.vars=L.1++mk:=by rw [hE];exact hK.2
  have hL3l:L3.vars.length=L.1.length+mk.length:=by rw [hL3v,Yy]
  refine ax 2<|Yh 3 [5]<|ic [0,10,10,10] (ih ke.steps c2 ka kb kc L3 (Qa L am s mk) q vs ob (by rw [hE];exact hK.1) (by rw [hE];exact hak) (by rw [hL3v];exact hvs) (by rw [hL3v];exact Fz hnn<|OP hty hmk) om om hsrr) ?_;rintro _ _ (⟨wa6,wb6,wc6,M'2,rfl,rfl,Wv⟩|⟨rfl,rfl,WS⟩)
  .have hP:=Wv;have kx:=Ij hn (by rw [hE];exact hK.1) hq.1 (by rw [hE];exact hak) (by rw [hL3v];exact hvs) hP;have kl:=kx.1.len;have hm1:(Wt M'2 ke.result).own.length=vs.length:=by rw [GT.1,kl.own,kx.2.1]
   have hm2:(Wt M'2 ke.result).tok.length=vs.length:=by rw [GT.2.1,kl.tok,kx.2.1]
   refine ZL 5 [8]<|ic [0,0,0,0] (IY c2 wa6 wb6 wc6 n M'2 ln (Qa L am s mk) ke L.1.length (hlk:=kl) (hlb:=(by rw [kx.2.1];omega)) (hm:=(by rw [kx.2.1];omega)) (hr:=(by rw [kx.2.1];omega)) (hq:=(fun y hy=>by have h1:=kx.1.nn y hy;have h2:=kx.1.bd y hy;omega))) ?_;rintro _ _ (⟨rfl,rfl,Vu⟩|⟨rfl,rfl,T4⟩)
   .have hB:=Vu;rw [<-Ik (f:=UA L.1.length ke.result) hP,hE,<-Ag] at hB;refine Z0<|Ww<|ak<|ab 4<|Y5 1<|iQ false<|Z0<|Ww<|aD 31<|ZJ 26 31 [0,1,2,3,4] [0]<|dx 5 (J5 2 wb6 ((Wt M'2 ke.result).own) L.1.length)<|ZJ 20 25 [6,7,8,9,10] [9]<|dx 11 (J5 11 ub O.2 L.1.length)<|Z9 12<|TC 12 [2,10] [] [] [rV wb6 ((Wt M'2 ke.result).own),rV ub O.2] (Dk (((Wt M'2 ke.result).own).take L.1.length)<|O.2.take L.1.length) DI (gC (v:=wb6) (ys:=(Wt M'2 ke.result).own) 0 L.1.length<|gC (v:=ub) (ys:=O.2) 1 L.1.length gN) (Uu<|Uu T7) ?_;rintro _ _ ⟨rfl,rfl⟩;refine AH [0,3,5,6,7,45,46,47] [(104,.b ((!(decide ((((Wt M'2 ke.result).own).take L.1.length)=(O.2.take L.1.length))))||(!(decide ((((Wt M'2 ke.result).tok).take L.1.length)=(O.6.take L.1.length))))))] (fun gz=>gz) ?_ ?_
    .refine Zi 16 18 [13,14] (db (b:=(!(decide ((((Wt M'2 ke.result).own).take L.1.length)=(O.2.take L.1.length))))) 119 (fun ZE=>?_) fun ZE=>?_)
     .have Tn:¬((((Wt M'2 ke.result).own).take L.1.length)=(O.2.take L.1.length)):=((Yp dq)).1 ZE;exact Zi 0 16 [15,16,17,18,19,20,21,22,23,24,25,26,27,28,29,30]<|de<|ZH 14<|Zu true ZE fl
     have To:¬(¬((((Wt M'2 ke.result).own).take L.1.length)=(O.2.take L.1.length))):=Y8 (Yp dq) ZE;refine ZJ 11 16 [15,16,17,18,19] [2]<|dx 20 (J5 4 wc6 ((Wt M'2 ke.result).tok) L.1.length)<|ZJ 5 10 [21,22,23,24,25] [10]<|dx 26 (J5 12 uc O.6 L.1.length)<|Z9 27<|TC 27 [4,11] [] [] [rV wc6 ((Wt M'2 ke.result).tok),rV uc O.6] (Dk (((Wt M'2 ke.result).tok).take L.1.length)<|O.6.take L.1.length) DI (gC (v:=wc6) (ys:=(Wt M'2 ke.result).tok) 0 L.1.length<|gC (v:=uc) (ys:=O.6) 1 L.1.length gN) (Uu<|Uu T7) ?_;rintro _ _ ⟨rfl,rfl⟩;exact Zi 0 3 [28,29,30]<|de<|wk [2,2,2,2,0,1,1,1,1,1,1,1,0,0]<|Zu (!(decide ((((Wt M'2 ke.result).tok).take L.1.length)=(O.6.take L.1.length)))) ZE fl
    refine ac ((!(decide ((((Wt M'2 ke.result).own).take L.1.length)=(O.2.take L.1.length))))||(!(decide ((((Wt M'2 ke.result).tok).take L.1.length)=(O.6.take L.1.length))))) (p:=(¬((((Wt M'2 ke.result).own).take L.1.length)=(O.2.take L.1.length)))∨(¬((((Wt M'2 ke.result).tok).take L.1.length)=(O.6.take L.1.length)))) (Yi (Yp dq)<|Yp dq) (fun Ud=>?_) fun Ud=>?_
    .exact ar<|Zp<|r1 []<|.inr ⟨rfl,rfl,(by rw [hgo,d0_1];exact Fy<|by rw [<-d0_3,Fu hke,hB];exact Z3h (Ud.imp (fun h g=>h g.symm) fun h g=>h g.symm))⟩
    exact ak<|az<|ZI k<|Z0<|ZK (.inr ⟨k+1,c0,ua,ub,uc,O,aO,om,d0_1,d0_2,(by rw [Fu hke,hB,Z3i (fun z=>Ud (z.imp (fun h g=>h g.symm) fun h g=>h g.symm))] at d0_3;exact d0_3),rfl,rfl,rfl⟩)<|wk [10,10,1,9,4,4,4,4,5]<|fr<|ZM k fl
   have hB:=T4;rw [<-Ik (f:=UA L.1.length ke.result) hP,hE,<-Ag] at hB;exact Z0<|Wc<|ar<|Zp<|r1 []<|.inr ⟨rfl,rfl,(by rw [hgo,d0_1];exact Fy<|by rw [<-d0_3,Fu hke,hB];rfl)⟩
  have hB:VD n ln (U3 n.1 L s.op s.num s.args k) L.1.length ke=none:=by rw [Ag,<-hE,WS];rfl
  exact Z0<|Wc<|ar<|Zp<|r1 []<|.inr ⟨rfl,rfl,(by rw [hgo,d0_1];exact Fy<|by rw [<-d0_3,Fu hke,hB];rfl)⟩
 refine ax 0<|aD 22<|ZJ 15 22 [0,1,2,3,4,5,6] [0]<|dx 7 (J5 2 ub O.2 L.1.length)<|ZJ 9 14 [9,10,11,12,13] [0]<|dx 14 (J5 3 uc O.6 L.1.length)<|Z9 8<|TC 8 [2] [0] [c0] [rV ub O.2] (EW<|O.2.take L.1.length) Jh (gC (v:=ub) (ys:=O.2) 0 L.1.length gN) (Uu T7) ?_;rintro _ _ ⟨v2,rfl,rfl⟩;refine Z9 15<|TC 15 [4] [] [] [rV uc O.6] (EW<|O.6.take L.1.length) Jh (gC (v:=uc) (ys:=O.6) 0 L.1.length gN) (Uu T7) ?_;rintro _ _ ⟨v3,rfl,rfl⟩;exact Zi 4 6 [16,17]<|Z9 18<|YO 18 6 [] [] b [ZQ n.1,YV n,Z5 ln,Xc am,.h ga,.h v2,.h gc]<|Zi 1 3 [19,20]<|Z9 21<|YO 21 0 [] [] b [ZQ n.1,YV n,Z5 ln,Xc am,.h ga,.h v2,.h v3]<|de<|ar<|Zp<|r1 [0,6,2,0] (.inl ⟨ga,v2,v3,(Zy.mk L.1 (O.2.take L.1.length) L.3 L.4 L.5<|O.6.take L.1.length),rfl,rfl,(by rw [hgo,d0_1];exact Z0u<|by rw [<-d0_3,Xk om];rfl)⟩) (eq:=(rc<|rv (xs:=L.1) ob<|rv (xs:=(O.2.take L.1.length)) ob<|rv (xs:=(O.6.take L.1.length)) ob rz))
def Mu (n:Zm) (us:LI) (s:Z4) (hn:YZ n) (hty:Jb n) (hnn:∀t∈us,0<=t) (hb:us.length+4*s.sz<=1000000000) (hr:s.rng):Zj 113 [.agg [ZQ n.1,YV n],Z5 us,YL s] [] (fun r h=>∃(t:Int),r=.tup [.i t,.b<|decide (0<=Y6 n us s)]/\h=[]/\(¬Yv s.op=true->0<=Y6 n us s->t=Y6 n us s)):=
 Su n us s hn hty hnn hb hr fun b us2 _ h2 h3 h4=>So n us2 b hn hty h4 h2 h3
def Z7g (b:Nat) (ga gb gc:Hd) (n:Zm) (L:VB) (ln:LI) (am:List Yn) (s:Z4) (q:Int) (hn:YZ n:=by exact ob) (hty:Jb n:=by exact ob) (hlt:CQ n:=by exact ob) (hk:Xf n.1 L q:=by exact ob) (har:Vg n.1 L am:=by exact ob) (hln:ln.length<=4294967296:=by exact ob) (ht:0<=Y6 n L.1 s:=by exact ob) (hnn:∀t∈L.1,0<=t) (hb:L.1.length+am.length+4*s.sz<=900000000:=by exact ob) (hq:0<=q/\q+4*s.sz<=999999980:=by exact ob) (hr:s.rng:=by exact ob) (ih:∀(ys:List Z4) (c:Nat) (ra rb rc:Hd) (M:VB) (a2:List Yn) (p:Int) (vs:LI),(Ya ys<s.sz)->(Xf n.1 M p)->(Vg n.1 M a2)->(XJ n ys M.1=some vs)->(∀t∈M.1,0<=t)->(M.1.length+a2.length+4*Ya ys<=900000000)->(0<=p/\p+4*Ya ys<=999999980)->(Q6 ys)->Zj 94 [.p c 0,WE ys] [.obj c [ZQ n.1,YV n,Z5 ln,Xc a2,.h ra,.h rb,.h rc],rV ra M.1,rV rb M.2,rV rc M.6] fun r h=>(∃(wa wb wc:Hd) (M':VB),r=.b true/\h=[.obj c [ZQ n.1,YV n,Z5 ln,Xc a2,.h wa,.h wb,.h wc],rV wa M'.1,rV wb M'.2,rV wc M'.6]/\VN n ln M ys=some M')∨(r=.b false/\h=[]/\VN n ln M ys=none)):Zj 141 [.p b 0,YL s] [.obj b [ZQ n.1,YV n,Z5 ln,Xc am,.h ga,.h gb,.h gc],rV ga L.1,rV gb L.2,rV gc L.6] (fun r h=>(∃(wa:Hd) (wb:Hd) (wc:Hd) (L':VB),r=.b true/\h=[.obj b [ZQ n.1,YV n,Z5 ln,Xc am,.h wa,.h wb,.h wc],rV wa L'.1,rV wb L'.2,rV wc L'.6]/\UY n ln L s=some L')∨(r=.b false/\h=[]/\UY n ln L s=none)):=by
 have hlk:=hk.len;obtain ⟨e1,e2,e3,e4,e5⟩:=hk.len;have hf:=Dn ht;have hkz:=T6 s;have haz:=Qw s;have hlh:=Zgy hlt ht;refine ZF 58 Tryz.func141<|ar (iA (Xp s) fun b1=>Z0<|aq<|ab 0<|Zt 2 [0]<|Zx [] (E6 s.op) (YH (Yv s.op) Iff.rfl (fun Za=>?_) fun Za=>?_))
 .obtain ⟨x,hxa⟩:=hf.one (.inr (.inr (by simpa [Yv] using Za)));have ha:s.args[0]? = some x:=by rw [hxa];rfl
  have hx:=hf.args x (by rw [hxa];simp);have hgx:=Jn ha;have hal:=(Xv.1 ha).1;refine aD 9<|ZJ 4 9 [0,1,2,3,4] [0,0]<|dx 5 (Zl none 0 1<|Y3 ha)<|Zi 2 3 [6]<|Z9 7<|dc 7 [1,1,1,1] [] [] (Z7e b ga gb gc n L ln am s.op x q) ?_;rintro _ _ (⟨L'1,rfl,rfl,ZX⟩|⟨rfl,rfl,Yf⟩)
  .exact Zi 0 1 [8]<|de<|ZC<|r1 [0,0,0,0]<|.inl ⟨ga,gb,gc,L'1,rfl,rfl,(by rw [Z4x Za hgx];exact ZX)⟩
  exact Zi 0 1 [8]<|de<|ZC<|r1 []<|.inr ⟨rfl,rfl,(by rw [Z4x Za hgx];exact Yf)⟩
 refine ar (XD 8 [0,3] [(27,.b ((s.op==7)||(s.op==8)))] (fun gz=>gz) ?_ fun hj1=>?_)
 .refine YH ((s.op==7)||(s.op==8)) (p:=(s.op=7)∨(s.op=8)) (Yi Zq Zq) (fun Zf=>?_) fun Zf=>?_
  .refine Zt 2 [0]<|ic [1,1,1,1] (Z7c b ga gb gc n L ln am s q (hnn:=ob) (ih:=ih)) ?_;rintro _ _ (⟨wa1,wb1,wc1,L'2,rfl,rfl,YK⟩|⟨rfl,rfl,YW⟩)
   .have hP:=(HQ (n:=n) (ln:=ln) (L:=L) Zf).trans YK;obtain ⟨kx,hxv⟩:=Cs hn hk hq.1 hf hP;refine Z0<|Ww<|ak<|aD 15<|ZJ 6 15 [0,1,2,3,4,5,6,7,8] [0,0,4]<|Z9 9<|TC 9 [1] [] [] [rV wa1 L'2.vars] (Mu n L'2.vars s ob ob (by rw [hxv];exact hnn) (by rw [hxv];omega) ob) La (gS<|gL (v:=wa1) 0<|gS gN) (Uu T7) ?_;rintro _ _ ⟨t1,rfl,rfl,Xl⟩;rw [hxv] at Xl;have hte:=Xl Za ht;refine Zi 0 5 [10,11,12,13,14]<|de<|Y5 3<|iI t1 1<|ic [1,0,0,0] (DC b wa1 wb1 wc1 n L'2 ln am t1 (min t1 1) (hlb:=(by rw [hxv];omega)) (hlk:=kx.len)) ?_;rintro _ _ ⟨wa2,wb2,wc2,rfl⟩;exact ie<|ar<|Zp<|r1 [0,0,0,0]<|.inl ⟨wa2,wb2,wc2,(L'2.grow t1 (min t1 1) (-1)),U,U,(O2 hP ht Za hte)⟩
   have hP:=(HQ (n:=n) (ln:=ln) (L:=L) Zf).trans YW;exact Z0<|Wc<|ar<|Zp<|r1 []<|.inr ⟨U,U,(Z4y hP)⟩
  refine Zt 2 [0]<|Zx [] (Sq s.op) (YH (TB s.op) Iff.rfl (fun ZA=>?_) fun ZA=>?_)
  .refine Zt 2 [0]<|ic [1,1,1,1] (Z7d b ga gb gc n L ln am s q (hlt:=hlh)) ?_;rintro _ _ (⟨L'3,rfl,rfl,XS⟩|⟨rfl,rfl,Wv⟩)
   .have hP:=(Ng (n:=n) (ln:=ln) (L:=L) Za Zf).trans XS;obtain ⟨kx,hxv⟩:=Cs hn hk hq.1 hf hP;refine Z0<|Ww<|ak<|aD 15<|ZJ 6 15 [0,1,2,3,4,5,6,7,8] [0,0,4]<|Z9 9<|TC 9 [1] [] [] [rV ga L'3.vars] (Mu n L'3.vars s ob ob (by rw [hxv];exact hnn) (by rw [hxv];omega) ob) La (gS<|gL (v:=ga) 0<|gS gN) (Uu T7) ?_;rintro _ _ ⟨t2,rfl,rfl,WS⟩;rw [hxv] at WS;have hte:=WS Za ht;refine Zi 0 5 [10,11,12,13,14]<|de<|Y5 3<|iI t2 1<|ic [1,0,0,0] (DC b ga gb gc n L'3 ln am t2 (min t2 1) (hlb:=(by rw [hxv];omega)) (hlk:=kx.len)) ?_;rintro _ _ ⟨wa3,wb3,wc3,rfl⟩;exact ie<|ar<|Zp<|r1 [0,0,0,0]<|.inl ⟨wa3,wb3,wc3,(L'3.grow t2 (min t2 1) (-1)),U,U,(O2 hP ht Za hte)⟩
   have hP:=(Ng (n:=n) (ln:=ln) (L:=L) Za Zf).trans Wv;exact Z0<|Wc<|ar<|Zp<|r1 []<|.inr ⟨U,U,(Z4y hP)⟩
  have hP:=Zif (ln:=ln) Za Zf ZA ht;have hxv:L.1=L.1:=rfl;have kx:=hk;refine ak<|aD 15<|ZJ 6 15 [0,1,2,3,4,5,6,7,8] [1,1,0]<|Z9 9<|TC 9 [2] [] [] [rV ga L.1] (Mu n L.1 s ob ob (by rw [hxv];exact hnn) (by rw [hxv];omega) ob) La (gS<|gL (v:=ga) 0<|gS gN) (Uu T7) ?_;rintro _ _ ⟨t3,rfl,rfl,Vu⟩;rw [hxv] at Vu;have hte:=Vu Za ht;refine Zi 0 5 [10,11,12,13,14]<|de<|Y5 3<|iI t3 1<|ic [2,0,1,1] (DC b ga gb gc n L ln am t3 (min t3 1) (hlb:=(by rw [hxv];omega)) (hlk:=kx.len)) ?_;rintro _ _ ⟨wa4,wb4,wc4,rfl⟩;exact ie<|ar<|Zp<|r1 [0,0,0,0]<|.inl ⟨wa4,wb4,wc4,(L.grow t3 (min t3 1) (-1)),U,U,(O2 hP ht Za hte)⟩
 refine ZL 4 [0] (ib (b:=(s.op==7)) 23 (fun Zb=>?_) fun Zb=>?_)
 .have T4:s.op=7:=(Zq).1 Zb;exact Z1 4<|Yt (ZH 5<|Zu true Zb fl) hj1
 have Tn:¬(s.op=7):=Y8 Zq Zb;exact ZL 4 [0]<|Yt (ZH 5<|Zu (s.op==8) Zb fl) hj1
def Z7j (n:Zm) (ln:LI) (hn:YZ n) (hty:Jb n) (hlt:CQ n) (hln:ln.length<=4294967296) (m:Nat):∀(ys:List Z4) (c:Nat) (ra:Hd) (rb:Hd) (rc:Hd) (M:VB) (a2:List Yn) (p:Int) (vs:LI),(Ya ys<m)->(Xf n.1 M p)->(Vg n.1 M a2)->(XJ n ys M.1=some vs)->(∀t∈M.1,0<=t)->(M.1.length+a2.length+4*Ya ys<=900000000)->(0<=p/\p+4*Ya ys<=999999980)->(Q6 ys)->Zj 94 [.p c 0,WE ys] [.obj c [ZQ n.1,YV n,Z5 ln,Xc a2,.h ra,.h rb,.h rc],rV ra M.1,rV rb M.2,rV rc M.6] (fun r h=>(∃(wa:Hd) (wb:Hd) (wc:Hd) (M':VB),r=.b true/\h=[.obj c [ZQ n.1,YV n,Z5 ln,Xc a2,.h wa,.h wb,.h wc],rV wa M'.1,rV wb M'.2,rV wc M'.6]/\VN n ln M ys=some M')∨(r=.b false/\h=[]/\VN n ln M ys=none)):=by
 induction m with
 | zero=>intro ys c ra rb rc M a2 p vs h;omega
 | succ m ih=>
  intro ys c ra rb rc M a2 p vs h hk har ht hnn hb hp hr;exact Z7i c ra rb rc n M ln a2 ys p vs hn hk har ht hnn hb hp hr fun s2 c ra rb rc M a2 p h1 hk har ht hnn hb hp hr=>Z7g c ra rb rc n M ln a2 s2 p hn hty hlt hk har hln ht hnn hb hp hr
   fun ys c ra rb rc M a2 p vs h2 hk har ht hnn hb hp hr=>ih ys c ra rb rc M a2 p vs om hk har ht hnn hb hp hr
def Z7h (c:Nat) (ra rb rc:Hd) (n:Zm) (M:VB) (ln:LI) (a2:List Yn) (ys:List Z4) (p:Int) (vs:LI) (hn:YZ n) (hty:Jb n) (hlt:CQ n) (hln:ln.length<=4294967296) (hk:Xf n.1 M p) (har:Vg n.1 M a2) (ht:XJ n ys M.1=some vs) (hnn:∀t∈M.1,0<=t) (hb:M.1.length+a2.length+4*Ya ys<=900000000) (hp:0<=p/\p+4*Ya ys<=999999980) (hr:Q6 ys):Zj 94 [.p c 0,WE ys] [.obj c [ZQ n.1,YV n,Z5 ln,Xc a2,.h ra,.h rb,.h rc],rV ra M.1,rV rb M.2,rV rc M.6] (fun r h=>(∃(wa:Hd) (wb:Hd) (wc:Hd) (M':VB),r=.b true/\h=[.obj c [ZQ n.1,YV n,Z5 ln,Xc a2,.h wa,.h wb,.h wc],rV wa M'.1,rV wb M'.2,rV wc M'.6]/\VN n ln M ys=some M')∨(r=.b false/\h=[]/\VN n ln M ys=none)):=
 Z7j n ln hn hty hlt hln (Ya ys+1) ys c ra rb rc M a2 p vs om hk har ht hnn hb hp hr
def Ss (n:Zm) (hz:WF n) (hs:VV n=true):Zj 20 [Yq n] [] (Yr<|.tup [.agg [ZQ n.1,YV n],.b<|VV n]):=by
 refine (Sr n hz).mono fun r h q=>?_
 rcases q with ⟨h1,h2,_⟩|⟨_,_,h3⟩
 .exact ⟨h1,h2⟩
 .rw [hs] at h3;cases h3
def Z7f (n:Zm) (f:Nat) (rt:Y9) (hn:YZ n:=by exact ob) (hz:WF n:=by exact ob) (hs:VV n=true:=by exact ob) (hr:n.2[f]? = some rt:=by exact ob):Zj 93 [Yq n,.i f] [] (fun r h=>∃(c:Nat) (wa:Hd) (wb:Hd) (wc:Hd),r=.p c 0/\h=[.obj c [ZQ n.1,YV n,Z5 rt.2,Xc [],.h wa,.h wb,.h wc],rV wa<|(T8 rt).vars,rV wb<|(T8 rt).own,rV wc<|(T8 rt).tok]):=by
 have hfl:=(Xv.1 hr).1;have hpl:=hn.params_at hr;have hll:=hn.lent_at hr;refine ZF 58 Tryz.func93<|ar (iA (YI n) fun b1=>Z0<|Zt 1 [0]<|Zx [] (Ss n ob ob)<|Z1 3 (iA [nl,nl] fun b2=>ZD 0 b2 [ZQ n.1,YV n]<|Z0<|aD 10<|ZJ 6 10 [0,1,2,3] [0,1]<|dx 4 (Zl none (f:Int) 5<|WG hr)<|Zi 2 5 [5,6,7]<|Z9 8 (dA 8 [] [] [ZQ n.1,YV n,Z5 rt.2,nl,nl,nl,nl] fun b3=>?_)));refine JP (Z5a 0 b3 [ZQ n.1,YV n,Z5 rt.2,nl,nl,nl,nl] [ZQ n.1,YV n,Z5 rt.2,Xc [],.h hN,.h hN,.h hN]<|.cons (lr _)<|.cons (lr _)<|.cons (lr _)<|.cons (Zd.sl _ rfl)<|.cons (Zd.hd (v:=hN))<|.cons (Zd.hd (v:=hN))<|.cons (Zd.hd (v:=hN)) .nil)<|JP (A8)<|JP (A8)<|JP (A8)<|Zi 0 1 [9]<|de<|Yh 3 [5]<|Zo (Zl none (f:Int) 5<|WG hr)<|Z1 2<|iw (Yg rt.1)<|Z0<|ab 0<|Y2 (fun fz gz m F h=>∃(k:Nat) (L2:VB) (ka:Hd) (kb:Hd) (kc:Hd),(k<=rt.1.length)/\(WT L2)/\(L2.1.length=k)/\(KZ rt.2 (rt.1.drop k) k L2=T8 rt)/\F=sF [7,29,30] fz [(31,.i k)]/\h=[.obj b3 [ZQ n.1,YV n,Z5 rt.2,Xc [],.h ka,.h kb,.h kc],rV ka L2.1,rV kb L2.2,rV kc L2.6]/\m=rt.1.length-k) _ _ _ ⟨0,(Zy.mk [] [] [] [] [] []),hN,hN,hN,ob,⟨U,U,U,U,U⟩,U,U,U,U,U⟩ (wk [3,0,0,0] (Y7 fl) (e:=(rc<|rv (xs:=[]) ob<|rv (xs:=[]) ob<|rv (xs:=[]) ob rz))) ?_;rintro m F h ⟨k,L2,ka,kb,kc,Ye,Zk,Zw,Yz,rfl,rfl,rfl⟩;refine ZB<|aq (XK ((k:Int)<(rt.1.length:Int)) (fun Za=>?_) fun Za=>?_)
 .refine ak<|aq<|ab 1<|Y5 1 ?_;obtain ⟨x1,Z3⟩:=Zs rt.1 k om;have hgl:(L2.grow x1 0 (-1)).own.length=k+1:=by simp [Zy.grow,Zk.own,Zw]
  refine Zo (Zl none (k:Int) 1<|Y3 Z3)<|Z0<|Y5 2<|ic [0,0,0,0] (DC b3 ka kb kc n L2 rt.2 [] x1 0) ?_;rintro _ _ ⟨wa1,wb1,wc1,rfl⟩;refine ie<|ar<|Xu [7,8,29,30,31] [(49,.b ((x1 != 0)&&(!(decide ((k:Int)∈rt.2)))))] (fun gz=>gz) ?_ ?_
  .refine Z1 3 (ib (b:=(x1 != 0)) 41 (fun Zb=>?_) fun Zb=>?_)
   .have ZX:x1≠0:=(Yb).1 Zb;exact ZL 5 [0]<|Zx [] (NR rt.2 (k:Int))<|Z0<|ZH 4<|Zu (!(decide ((k:Int)∈rt.2))) Zb fl
   have Yf:¬(x1≠0):=Y8 Yb Zb;exact Z0<|ZH 4<|Zu false Zb fl
  refine ac ((x1 != 0)&&(!(decide ((k:Int)∈rt.2)))) (p:=(x1≠0)/\(¬((k:Int)∈rt.2))) (YN Yb<|Yp dq) (fun Zf=>?_) fun Zf=>?_
  .exact az<|ZL 5 [0]<|Zo (Wg 2 wb1 ((L2.grow x1 0 (-1)).own) (k:Int) k)<|D9 2 wb1 ((L2.grow x1 0 (-1)).own) k 1<|ie<|az<|ZI k<|Z0<|ZK ⟨k+1,(L2.grow x1 1 (-1)),wa1,wb1,wc1,ob,(WT.grow Zk),(by simp [Zy.grow];omega),(by rw [Yc Z3,KZ] at Yz;first|(rw [Zg (by assumption)] at Yz;exact Yz)|(rw [Z8 (by assumption)] at Yz;exact Yz)),rfl,rfl,rfl⟩<|wk [1,1,0,0] (ZM k fl) (e:=(rc<|rv (xs:=(L2.grow x1 0 (-1)).vars) (by first|rfl|exact NK<|by rw [Zk.own,Zw])<|rv (xs:=(((L2.grow x1 0 (-1)).own).set k 1)) (by first|rfl|exact NK<|by rw [Zk.own,Zw])<|rv (xs:=(L2.grow x1 0 (-1)).tok) (by first|rfl|exact NK<|by rw [Zk.own,Zw]) rz))
  exact ak<|az<|ZI k<|Z0<|ZK ⟨k+1,(L2.grow x1 0 (-1)),wa1,wb1,wc1,ob,(WT.grow Zk),(by simp [Zy.grow];omega),(by rw [Yc Z3,KZ] at Yz;first|(rw [Zg (by assumption)] at Yz;exact Yz)|(rw [Z8 (by assumption)] at Yz;exact Yz)),rfl,rfl,rfl⟩<|ZH 4<|ZM k fl
 refine ax 0<|ZB ?_;have hNl:L2=T8 rt:=by rw [<-Yz,Xk om];rfl
 exact ZC<|r1 [0,0,0,0] ⟨b3,ka,kb,kc,rfl,rfl⟩ (eq:=(rc<|rv (xs:=L2.1) (by rw [hNl])<|rv (xs:=L2.2) (by rw [hNl])<|rv (xs:=L2.6) (by rw [hNl]) rz))
def Zei (n:Zm) (f:Nat) (rt:Y9) (hn:YZ n:=by exact ob) (hty:Jb n:=by exact ob) (hlt:CQ n:=by exact ob) (hz:WF n:=by exact ob) (hs:VV n=true:=by exact ob) (hr:n.2[f]? = some rt:=by exact ob) (ht:0<=YY n rt.1 rt.4:=by exact ob) (hrr:rt.4.rng:=by exact ob):Zj 51 [Yq n,.i f] [] (Yr<|.b<|KD n rt):=by
 have hfl:=(Xv.1 hr).1;have hpl:=hn.params_at hr;have hll:=hn.lent_at hr;have hrm:=Y0 hr;have hbd:=hz.body rt hrm;have hbz:=rt.4.sz_eq;obtain ⟨hk,hkv⟩:=N0 n.1 rt;obtain ⟨vs,t0,hvs,hres,hrt⟩:=DE ht;have hri:=KC hres;have hsl:=Ii hvs;rw [rt.4.rng_eq] at hrr;refine ZF 25 Tryz.func51<|ar (iA (YI n) fun b1=>Z0<|Zt 2 [0]<|ic [] (Z7f n f rt) ?_);rintro _ _ ⟨c1,wa1,wb1,wc1,rfl,rfl⟩;refine Z0<|Zt 3 [4]<|Zo (Zl none (f:Int) 5<|WG hr)<|Z1 2 (iA [nl,.i 0] fun b2=>ZD 0 b2 (Xb rt.4)<|ie<|Zt 3 [0]<|ic [1,1,1,1] (Z7h c1 wa1 wb1 wc1 n (T8 rt) rt.2 [] rt.4.steps 1 vs ob ob ob ob hk (Z0y rt) (by rw [hkv];exact hvs) (by rw [hkv];exact hty.params rt hrm) (by rw [hkv,Xx];omega) ob ob) ?_);rintro _ _ (⟨wa2,wb2,wc2,M'1,rfl,rfl,ZX⟩|⟨rfl,rfl,Yf⟩)
 .have hP:=ZX;have kx:=Ij hn hk om (Z0y rt) (by rw [hkv];exact hvs) hP;have kl:=kx.1.len;refine ZL 3 [4]<|ic [0,0,0,0] (IY c1 wa2 wb2 wc2 n M'1 rt.2 [] rt.4 0 (hlk:=kl) (hlb:=(by rw [kx.2.1];omega)) (hr:=(by rw [kx.2.1];omega)) (hq:=(fun y hy=>by have h1:=kx.1.nn y hy;have h2:=kx.1.bd y hy;omega))) ?_;rintro _ _ (⟨rfl,rfl,YK⟩|⟨rfl,rfl,YW⟩)
  .have hB:=YK;exact Zp<|ZW (.b true)<|lb (by rw [Z2s hP (by rw [kl.own,kl.tok]),hB];rfl)
  have hB:=YW;exact Zp<|ZW (.b false)<|lb (by rw [Z2s hP (by rw [kl.own,kl.tok]),hB];rfl)
 have hP:=Yf;exact Zp<|ZW (.b false)<|lb (by rw [Zjh hP])
def Zed (n:Zm) (hz:WF n:=by exact ob) (hr:∀r∈n.2,r.4.rng):Zj 19 [Yq n] [] (Yr<|.b<|UQ n):=by
 have hzl:=hz.len;refine ZF 18 Tryz.func19<|ar (iA (YI n) fun b1=>Z0<|Yh 1 [0]<|Zx [] (Sm n (hr:=hr)) (YH (!Wo n) (p:=¬(Wo n=true)) (Yp Iff.rfl) (fun Za=>?_) fun Za=>?_))
 .exact ar<|Zp<|ZW (.b false)<|lb<|by first|rfl|omega|grind [UQ]
 have hV:Wo n=true:=Wp.1 Za;obtain ⟨hok,hall⟩:=EE hz hV;have hsg:VV n=true:=by rw [Wo,We] at hV;exact hV.1
 have hty:=Z11 hsg;have hlt:=Zhf hsg;refine ak<|Yh 2 [0]<|iw (U1 n.2)<|Z0<|ab 0<|Y2 (fun fz gz m F h=>∃(k:Nat),(k<=n.2.length)/\(JN n (n.2.drop k)=JN n n.2)/\F=sF [1,9] fz [(10,.i k)]/\h=gz/\m=n.2.length-k) _ _ _ ⟨0,ob,ob,U,U,U⟩ (wk [0]<|Y7 fl) ?_;rintro m F h ⟨k,Ye,Zk,rfl,rfl,rfl⟩;refine ZB<|aq (XK ((k:Int)<(n.2.length:Int)) (fun Zf=>?_) fun Zf=>?_)
 .obtain ⟨rt,hrt⟩:=Zs n.2 k om;have hrm:=Y0 hrt;refine ak (aq (ab 1 (ZB (Zt 2 [0] (Zx [] (Zei n k rt (hr:=hrt) (ht:=(hall rt hrm)) (hrr:=(hr rt hrm))) (YH (!KD n rt) (p:=¬(KD n rt=true)) (Yp Iff.rfl) (fun ZA=>?_) fun ZA=>?_))))))
  .refine ZB ?_;rw [Yc hrt] at Zk;exact ZC<|ZW (.b false)<|lb (by first|rfl|omega|grind [JN,UQ])
  refine ak<|az<|ZI k<|Z0 ?_;have hdr:=Yc hrt;exact ZK ⟨k+1,ob,(by rw [hdr] at Zk;clear hdr ;grind [JN]),rfl,rfl,rfl⟩<|wk [0]<|ZM k fl
 refine ax 0 (ZB ?_)
 try rw [Xk (xs:=n.2) (k:=k) om] at Zk
 exact ZC<|ZW (.b true)<|lb<|by first|rfl|omega|grind [JN,UQ]
def Zf2 (s:Z4) (ys:List XP) (kv:Value) (hl:s.args.length<=4294967296:=by exact ob):Zj 57 [YL s,Df ys kv] [] (fun r h=>∃(u:Value),r=.agg [.i s.op,.i s.num,.i s.into,ZT s.args u,Df ys kv]/\h=[.tail u 1]):=by
 refine ZF 12 Tryz.func57<|ar (iA (Xp s) fun b1=>iA [.i 0,.i 0,.i 0,nl,nl] fun b2=>ie<|Zt 2 [1]<|ic [] (EV s.args) ?_);rintro _ _ ⟨v1,rfl,rfl⟩;exact Z1 2<|ZD 2 b1 [.i s.op,.i s.num,.i s.into,ZT s.args v1,W4 s.kids]<|Z1 1<|ZD 0 b1 [.i s.op,.i s.num,.i s.into,ZT s.args v1,Df ys kv]<|ie<|Zt 1 [0]<|ZD 2 b2 [.i s.op,.i s.num,.i s.into,ZT s.args v1,Df ys kv]<|ie<|ZC<|r3 [2] [.agg [.i s.op,.i s.num,.i s.into,ZT s.args v1,Df ys kv]] [0] [(b2,b2)] ⟨v1,U,U⟩<|lr _
def Z82 (ds:List Zh) (hl_ds:ds.length<=4294967296:=by exact ob):Zj 99 [ZQ ds] [] (fun r h=>∃(v:Hd),r=.h v/\h=[rK v 3 (Zc<|YF ds)]):=by
 refine ZF 8 Tryz.func99<|ZB<|YE 1<|iN (YF ds) (fun hz1=>?_) ?_
 .have hz1:=Za3 hz1;refine ie<|Wc<|ZB<|T0 (ED (k:=3)) ?_;subst hz1;exact ZC<|r2 [0] [nl] ⟨hN,U,U⟩ (Zd.hd (v:=hN)) (eq:=(rr (ls:=[]) rfl rz))
 exact ie<|Ww<|ak<|ar (By 3 fun g1=>Z1 1 (E5 0 g1 3 (YF ds) none (Jl _) (by simp<;>omega) fun v1=>Zp<|r1 [0] ⟨v1,rfl,rfl⟩))
def Z81 (cs:List Yo) (hl_cs:cs.length<=4294967296:=by exact ob):Zj 100 [Jt cs] [] (fun r h=>∃(v:Hd),r=.h v/\h=[rK v 1 (Zc<|XW cs)]):=by
 refine ZF 8 Tryz.func100<|ZB<|YE 1<|iN (XW cs) (fun hz1=>?_) ?_
 .have hz1:=Za0 hz1;refine ie<|Wc<|ZB<|T0 (ED (k:=1)) ?_;subst hz1;exact ZC<|r2 [0] [nl] ⟨hN,U,U⟩ (Zd.hd (v:=hN)) (eq:=(rr (ls:=[]) rfl rz))
 exact ie<|Ww<|ak<|ar (By 1 fun g1=>Z1 1 (E5 0 g1 1 (XW cs) none (F7 _) (by simp<;>omega) fun v1=>Zp<|r1 [0] ⟨v1,rfl,rfl⟩))
def Zel (ds:List Zh) (hd:Wq ds:=by exact ob):Zj 53 [ZQ ds] [] (fun r h=>∃(ys:List VA) (w:Value),r=Dg ys w/\h=[.many (Ue ys),.tail w 3]/\ys.map VA.er=ds):=by
 have hdl:=hd.len;refine ZF 46 Tryz.func53<|ZB<|Y5 1<|ic [] (Z82 ds) ?_;rintro _ _ ⟨v1,rfl,rfl⟩;refine Z0<|YE 1<|Zo (SQ 0 ds.length v1 3 (Zc<|YF ds)<|by rw [RB])<|Z0<|ab 0<|T0 (tB [] [] [] (Ue [])<|by simp [QH,QC,K3,K4,K5,K6,K1,Vt,WY,QG,Vs,Um,Ue,Un,QD,QE,QF,TE])<|Y2 (fun fz gz m F h=>∃(k:Nat) (v:Hd) (ys:List VA),(k<=ds.length)/\(ys.map VA.er=ds.take k)/\(ys.length=k)/\F=sF [11] fz [(3,.h v),(10,.h v),(12,.i k)]/\h=[rK v 3 (Zc (VJ ys++YF (ds.drop k))),.many<|Ue ys]/\m=ds.length-k) _ _ _ ⟨0,v1,[],ob,rfl,rfl,rfl,rfl,rfl⟩ (wk [1,0] (fw<|Y7 fl) (e:=(rr (ls:=Zc (YF ds)) (by rfl)<|rc rz))) ?_;rintro m F h ⟨k,v,ys,Ye,Zk,Zw,rfl,rfl,rfl⟩;refine ZB<|aq (XK ((k:Int)<(ds.length:Int)) (fun Za=>?_) fun Za=>?_)
 .obtain ⟨x1,Z3⟩:=Zs ds k om;have hcl:=hd.cons_at Z3;refine SN 0 ds.length (v:=v) (Z2v Zw Ye) om fun g1 c1 he1=>?_
  subst he1;refine ak<|aq<|ab 1<|Y5 1<|Zo (W9 g1 ds.length c1 k 3 (k:Int))<|WW (Vj 0 g1 ds.length c1 3 (k*3) (Zc (VJ ys++YF (ds.drop k))) (Qf x1) 106 (Ba x1)<|by rw [Z2w Z3];exact HV<|by rw [D4,Zw]) (iA [.i 0,.i 0,nl] fun b1=>Z1 1<|ZD 0 b1 (Qf x1)<|ie<|Zt 4 [0]<|ic [] (Z81 x1.cons) ?_);rintro _ _ ⟨v2,rfl,rfl⟩;refine Zo (W9 g1 ds.length c1 k 3 (k:Int))<|Z1 1<|Bz 2 g1 ds.length c1 3 (k*3+2) [.h v2] (Zc (VJ ys++YF (ds.drop k))) (Zc (VJ ys)++([.i x1.frm,.i x1.to_,.h v2]++Zc (YF<|ds.drop (k+1)))) (by rw [Z2v Zw Ye];simp;omega) (by rw [Z2w Z3];exact Zjo<|by rw [D4,Zw])<|ie<|Zt 2 [2]<|iw (UJ x1.cons)<|Z0<|ab 2<|T0 (tB [] [] [] (Um [])<|by simp [QH,QC,K3,K4,K5,K6,K1,Vt,WY,QG,Vs,Um,Ue,Un,QD,QE,QF,TE])<|Y2 (fun fz gz m F h=>∃(j:Nat) (u:Hd) (zs:List VQ),(j<=x1.cons.length)/\(zs.map VQ.er=x1.cons.take j)/\(zs.length=j)/\F=sF [3,4,10,11,12,25,26] fz [(27,.i j)]/\h=[Ze gz 4,rK u 1<|Zc (UK zs++XW (x1.cons.drop j)),.row (.slice (some ⟨g1,0,none⟩) ds.length c1) 3 (Zc (VJ ys)++([.i x1.frm,.i x1.to_,.h u]++Zc (YF<|ds.drop (k+1)))),.many<|Um zs]/\m=x1.cons.length-j) _ _ _ ⟨0,v2,[],ob,rfl,rfl,rfl,rfl,rfl⟩ (wk [4,2,1,0] (Y7 fl) (e:=(rc<|rr (ls:=Zc (XW x1.cons)) (by rfl)<|rc<|rc rz))) ?_;rintro m F h ⟨j,u,zs,VZ,XB,Xw,rfl,rfl,rfl⟩;refine ZB<|aq (XK ((j:Int)<(x1.cons.length:Int)) (fun Zf=>?_) fun Zf=>?_)
  .obtain ⟨x2,Zr⟩:=Zs x1.cons j om;have hfl:=hd.fields_at Z3 Zr;refine SN 1 x1.cons.length (v:=u) (Z2u Xw VZ) om fun g2 c2 he2=>?_
   subst he2;refine ak<|aq<|ab 3<|Y5 1<|Zo (Zl none (j:Int) 1<|Bh Zr)<|Z1 1 (iA [nl] fun b2=>Z1 1<|ZD 0 b2 (Ee x2)<|ie<|aE 12<|Zi 10 12 [0,1]<|dx 2 (W9 g1 ds.length c1 k 3 (k:Int))<|Zi 8 9 [3]<|Us 4 (Vj 3 g1 ds.length c1 3 (k*3+2) (Zc (VJ ys)++([.i x1.frm,.i x1.to_,.h ⟨some ⟨g2,0,none⟩,x1.cons.length,c2⟩]++Zc (YF<|ds.drop (k+1)))) [.h ⟨some ⟨g2,0,none⟩,x1.cons.length,c2⟩] 104 (.ms g2 0 x1.cons.length c2)<|Zjp<|by rw [D4,Zw])<|ZJ 4 7 [5,6,7] [0]<|Z9 8<|dc 8 [] [2] [g1] (EV x2.fields) ?_);rintro _ _ ⟨v3,rfl,rfl⟩;exact dx 9 (W9 g2 x1.cons.length c2 j 1 (j:Int))<|Zi 1 2 [10]<|Z9 11<|C9 11 3 [] [] g2 x1.cons.length c2 1 (j*1) [ZT x2.fields v3] (Zc (UK zs++XW (x1.cons.drop j))) (Zc (UK zs)++([ZT x2.fields v3]++Zc (XW<|x1.cons.drop (j+1)))) (by rw [Z2u Xw VZ];simp;omega) (by rw [Zjl Zr];exact Cu (by rw [RC,Xw,Kg]) rfl)<|JP (tB [5,1] [.many (Um zs),.tail v3 1] (Um zs++((v3,1)::[])) (Um (zs++[VQ.mk x2.fields v3]))<|by simp [QH,QC,K3,K4,K5,K6,K1,Vt,WY,QG,Vs,Um,Ue,Un,QD,QE,QF,TE])<|de<|az<|ZI j<|Z0<|ZK ⟨j+1,⟨some ⟨g2,0,none⟩,x1.cons.length,c2⟩,(zs++[VQ.mk x2.fields v3]),ob,(by rw [List.map_append,XB,WO Zr];rfl),(by simp [Xw]),rfl,rfl,rfl⟩<|wk [3,1,2,0] (ZM j fl) (e:=(rc<|rr (ls:=(Zc (UK zs)++([ZT x2.fields v3]++Zc (XW<|x1.cons.drop (j+1))))) Zjk<|rr (ls:=(Zc (VJ ys)++([.i x1.frm,.i x1.to_,.h ⟨some ⟨g2,0,none⟩,x1.cons.length,c2⟩]++Zc (YF<|ds.drop (k+1))))) ob<|rc rz))
  refine T0 (EA 1 u.v 1 (Zc (UK zs++XW (x1.cons.drop j))) (Zc<|UK zs)<|Zjj om)<|T0 (Zn8 0 1 (k*3+2) u.v (.slice (some ⟨g1,0,none⟩) ds.length c1) 1 3 (UK zs) (Zc (VJ ys)++([.i x1.frm,.i x1.to_,.h u]++Zc (YF<|ds.drop (k+1)))) (Ra _)<|by rw [Ds (by rw [D4];omega),D4,Zw];simp) ?_;exact T0 (EA 0 (.slice (some ⟨g1,0,none⟩) ds.length c1) 3 (List.set ((Zc (VJ ys)++([.i x1.frm,.i x1.to_,.h u]++Zc (YF<|ds.drop (k+1)))):List AV) (k*3+2)<|FB zs u.v) (Zc (VJ ys)++([.i x1.frm,.i x1.to_,FB zs u.v]++Zc (YF<|ds.drop (k+1))))<|Zjq<|by rw [D4,Zw])<|T0 (tB [2,2,1] [.many (Ue ys),.many<|Um zs,.tail u.v 1] (Ue ys++(Um zs++((u.v,1)::[]))) (Ue (ys++[VA.mk x1.frm x1.to_ zs u.v]))<|by simp [QH,QC,K3,K4,K5,K6,K1,Vt,WY,QG,Vs,Um,Ue,Un,QD,QE,QF,TE])<|ax 2<|az<|ZI k<|Z0<|ZK ⟨k+1,(⟨some ⟨g1,0,none⟩,ds.length,c1⟩:Hd),(ys++[VA.mk x1.frm x1.to_ zs u.v]),ob,(by rw [List.map_append,Zk,WO Z3,Z61<|XB.trans<|Vc om]),(by simp [Zw]),rfl,rfl,rfl⟩<|wk [1,0] (fw<|ZM k fl) (e:=(rr (ls:=(Zc (VJ ys)++([.i x1.frm,.i x1.to_,FB zs u.v]++Zc (YF<|ds.drop (k+1))))) Zjn<|rc rz))
 exact ax 0 (ZB<|T0 (EA 0 v.v 3 (Zc (VJ ys++YF (ds.drop k))) (Zc<|VJ ys)<|Zjm om)<|SP 2 0 (v:=v) (VJ ys) (Rb _)<|ZC<|r1 [1,0] ⟨ys,v.v,rfl,rfl,(by rw [Zk,Vc om])⟩)
open Go.Proofs
open Go.Proofs
def Z93 (s:Z4) (cc:Nat) (g:Hd) (c0:LI) (q:Int) (hcb:CB c0 q:=by exact ob) (hq:0<=q/\q<=4000000000000:=by exact ob):Zj 33 [YL s,.p cc 0] [.obj cc [.h g],rV g c0] (fun r h=>h=[.obj cc [.h g],rV g<|UR s.op c0]):=by
 refine ZF 14 Tryz.func33<|ar (iA (Xp s) fun b1=>ie<|Zt 2 [0]<|Zx [] (E6 s.op)<|ie (ac (Yv s.op) Iff.rfl (fun Za=>?_) fun Za=>?_))
 .have hr:=PR Za;have hgx:0<=gI c0 (s.op-14)/\gI c0 (s.op-14)<=q:=hcb.at om;have hlc:=hcb.len;refine az<|ZL 3 [1,0]<|ia ((s.op-14)) ((s.op)-(14))<|Zo (Wg 2 g c0 (s.op-14) ((s.op-14).toNat) (hq:=rfl)) ?_;obtain ⟨x1,Z3⟩:=Zs c0 ((s.op-14).toNat) om;have hgy:=WH Z3;exact WW (VO 2 g c0 ((s.op-14).toNat) x1 Z3)<|ia ((x1+1)) ((x1)+(1))<|Zo (Wg 2 g c0 (s.op-14) ((s.op-14).toNat) (hq:=rfl))<|D9 2 g c0 ((s.op-14).toNat) (x1+1)<|ie<|r2 [2,0] [] rfl (lr _) (eq:=(rc<|rv (xs:=(c0.set ((s.op-14).toNat) (x1+1))) (by rw [Pq Za,hgy]) rz))
 exact ak<|r2 [1,1] [] rfl (lr _) (eq:=(rc<|rv (xs:=c0) (Pp Za).symm rz))
def Zf1 (b:Z6) (cc:Nat) (g:Hd) (c0:LI) (q:Int) (hcb:CB c0 q) (hq:0<=q/\q+b.sz<=4000000000000) (hz:b.sz<=1000000000) (ih:∀(b2:Z6) (cc:Nat) (g:Hd) (c2:LI) (q2:Int),(CB c2 q2)->(0<=q2/\q2+b2.sz<=4000000000000)->(b2.sz<=1000000000)->(b2.sz<b.sz)->Zj 32 [ZV b2,.val<|.func (.func 33) #[] #[.pointer (some ⟨cc,0,none⟩)]] [.obj cc [.h g],rV g c2] fun r h=>h=[.obj cc [.h g],rV g<|VE b2 c2]):Zj 32 [ZV b,.val<|.func (.func 33) #[] #[.pointer (some ⟨cc,0,none⟩)]] [.obj cc [.h g],rV g c0] (fun r h=>h=[.obj cc [.h g],rV g<|VE b c0]):=by
 have hbz:=U7 b;have hbe:=b.sz_eq;refine ZF 30 Tryz.func32<|ar (iA (Xb b) fun b1=>?_);refine ie<|Zt 2 [0]<|iw (V8 b.steps)<|Z0<|ab 0<|Y2 (fun fz gz m F h=>∃(k:Nat) (c:LI),(k<=b.steps.length)/\(CB c (q+Ya (b.steps.take k)))/\(WV (b.steps.drop k) c=WV b.steps c0)/\F=sF [1,9,10] fz [(11,.i k)]/\h=[Ze gz 1,rV g c]/\m=b.steps.length-k) _ _ _ ⟨0,c0,ob,(hcb.le<|by rw [List.take_zero,Ya];omega),rfl,rfl,rfl,rfl⟩ (wk [1,1]<|Y7 fl) ?_;rintro m F h ⟨k,c,Ye,Zk,Zw,rfl,rfl,rfl⟩;refine ZB<|aq (XK ((k:Int)<(b.steps.length:Int)) (fun Za=>?_) fun Za=>?_)
 .refine ak<|aq<|ab 1<|ar ?_;obtain ⟨x1,Z3⟩:=Zs b.steps k om;have Xg:=BQ Z3;have hkz:=T6 x1;have htk:=G5 Z3;have htl:=Ku b.steps (k+1);have hse:=x1.sz_eq;refine Zo (Zl none (k:Int) 5<|Wi Z3)<|Z1 1 (iA [.i 0,.i 0,.i 0,nl,nl] fun b2=>ZD 0 b2 (Xp x1)<|ie<|Zt 2 [0]<|ic [1,1] (Z93 x1 cc g c (q+Ya (b.steps.take k)) (hcb:=Zk)) ?_);rintro _ _ rfl;refine ie<|Zt 2 [2]<|iw (U0 x1.kids)<|Z0<|ab 2<|Y2 (fun fz gz m F h=>∃(j:Nat) (c2:LI),(j<=x1.kids.length)/\(CB c2 (q+Ya (b.steps.take k)+1+YT (x1.kids.take j)))/\(V5 (x1.kids.drop j) c2=V5 x1.kids (UR x1.op c))/\F=sF [1,9,10,11,19,20] fz [(21,.i j)]/\h=[Ze gz 0,rV g c2]/\m=x1.kids.length-j) _ _ _ ⟨0,(UR x1.op c),ob,((Zk.one om x1.op).le<|by rw [List.take_zero,YT];omega),rfl,rfl,rfl,rfl⟩ (wk [0,0]<|Y7 fl) ?_;rintro m F h ⟨j,c2,VZ,XB,Xw,rfl,rfl,rfl⟩;refine ZB<|aq (XK ((j:Int)<(x1.kids.length:Int)) (fun Zf=>?_) fun Zf=>?_)
  .refine ak<|aq<|ab 3<|ar ?_;obtain ⟨x2,Zr⟩:=Zs x1.kids j om;have hks:=T5 Zr;have hbt:=DG Zr;refine Zo (Zl none (j:Int) 2<|Ux Zr)<|Z1 1 (iA [nl,.i 0] fun b3=>ZD 0 b3 (Xb x2)<|ie<|az<|ZL 2 [0]<|ic [1,1] (ih x2 cc g c2 (q+Ya (b.steps.take k)+1+YT (x1.kids.take j)) XB ob ob ob) ?_);rintro _ _ rfl;exact ie<|az<|ZI j<|Z0<|ZK ⟨j+1,(VE x2 c2),ob,(by rw [WO Zr,L4];exact ((XB.b x2 om).le om)),(Ps Zr Xw),rfl,rfl,rfl⟩<|wk [0,0]<|ZM j fl
  have hKe:=Pr om Xw;have hbj:=ET (xs:=x1.kids) (k:=j) om;exact ax 2<|az<|ZI k<|Z0<|ZK ⟨k+1,(V5 x1.kids<|UR x1.op c),ob,(by rw [<-hKe];exact XB.le om),(Pz Z3 Zw),rfl,rfl,rfl⟩<|wk [0,0] (ZM k fl) (e:=(rc<|rv (xs:=c2) hKe rz))
 exact ax 0<|r2 [0,0] [] rfl (lr _) (eq:=(rc<|rv (xs:=c) (by rw [Lc];exact Py om Zw) rz))
def Zgg (s:Z4) (q:Nat) :Zj 105 [YL s,.p q 0] [.obj q [.val (.func (.func 34) #[] #[])]] (fun r h=>r=.b (!Yv s.op)/\h=[.obj q [.val (.func (.func 34) #[] #[])]]):=by
 exact ZF 9 Tryz.func105<|ar (iA (Xp s) fun b1=>Z0<|Zt 3 [1,0]<|Zx [] (E6 s.op)<|Zp<|r1 [1] ⟨U,U⟩)
def Zf6 (xs:List Z4) (q:Nat) (hl:xs.length<=1000000000:=by exact ob):Zj 61 [WE xs,.val<|.func (.func 105) #[] #[.pointer (some ⟨q,0,none⟩)]] [.obj q [.val (.func (.func 34) #[] #[])]] (fun r h=>(r=.i (((Yk xs):Nat):Int)/\h=[.obj q [.val (.func (.func 34) #[] #[])]]/\Yk xs<xs.length)∨(r=.i (-1)/\h=[.obj q [.val (.func (.func 34) #[] #[])]]/\Yk xs=xs.length)):=by
 refine ZF 19 Tryz.func61<|ZB<|YE 1<|iw (V8 xs)<|Z0<|ab 0<|Y2 (fun fz gz m F h=>∃(k:Nat),(k<=xs.length)/\(k+Yk (xs.drop k)=Yk xs)/\F=sF [0,1,7] fz [(8,.i k)]/\h=gz/\m=xs.length-k) _ _ _ ⟨0,ob,(by simp),rfl,rfl,rfl⟩ (wk [0]<|Y7 fl) ?_;rintro m F h ⟨k,Ye,Zk,rfl,rfl,rfl⟩;refine ZB<|aq (XK ((k:Int)<(xs.length:Int)) (fun Za=>?_) fun Za=>?_)
 .refine ak<|aq<|ab 1<|ZB<|Y5 3 ?_;obtain ⟨x1,Z3⟩:=Zs xs k om;refine Zo (Zl none (k:Int) 5<|Wi Z3)<|Z1 1<|Zx [0] (Zgg x1 q)<|ie (ac (!Yv x1.op) (p:=¬(Yv x1.op=true)) (Yp Iff.rfl) (fun Zf=>?_) fun Zf=>?_)
  .refine ZB ?_;have hE:=Z0f Z3 Zf Zk;exact ZC<|r2 [0] [.i k] (.inl ⟨U,U,ob⟩) li
  exact ak<|az<|ZI k<|Z0<|ZK ⟨k+1,ob,(Z0e Z3 (Wp.1 Zf) Zk),U,U,U⟩<|wk [0]<|ZM k fl
 refine ax 0<|ZB ?_;have hE:=Z0d om Zk;exact ZC<|r1 [0]<|.inr ⟨U,U,ob⟩
def Zim (b:Z6) (hz:b.steps.length<=1000000000:=by exact ob):Zj 60 [ZV b,.val<|.func (.func 34) #[] #[]] [] (Yr<|.i (((Yk b.steps):Nat):Int)):=by
 refine ZF 16 Tryz.func60<|ar (iA (Xb b) fun b1=>iA [.val (.func (.func 34) #[] #[])] fun b2=>Z0<|Zt 3 [1]<|ic [0] (Zf6 b.steps b2) ?_);rintro _ _ (⟨rfl,rfl,ZX⟩|⟨rfl,rfl,Yf⟩)
 .refine Z0<|X6 (Y4 ((((Yk b.steps):Nat):Int)<0) (fun Za=>?_) fun Za=>?_)
  .exact Zt 2 [1]<|iw (V8 b.steps)<|Zp<|ZW (.i b.steps.length) li
  exact ak<|ar<|Zp<|EC
 refine Z0<|X6 (Y4 ((-1)<0) (fun Zf=>?_) fun Zf=>?_)
 .exact Zt 2 [1]<|iw (V8 b.steps)<|Zp<|ZW (.i b.steps.length) li
 exact ak<|ar<|Zp<|ZW (.i (-1)) li
def Zk5 (s:Z4) (a:Yn) (q:Nat) (ha:s.op=16->∃v,s.args=[v]:=by exact ob):Zj 62 [YL s,.p q 0] [.obj q [.i a.mat,.i a.fst,Z5 a.fds,.b a.chg]] (fun r h=>r=.b ((s.op==16)&&(gI s.args 0==a.mat))/\h=[.obj q [.i a.mat,.i a.fst,Z5 a.fds,.b a.chg]]):=by
 refine ZF 16 Tryz.func62<|ar (iA (Xp s) fun b1=>Z0<|aD 13<|ZJ 9 13 [0,1,2,3] [0] (db (b:=(s.op==16)) 7 (fun Zb=>?_) fun Zb=>?_))
 .have ZX:s.op=16:=(Zq).1 Zb;refine ZJ 7 9 [4,5] [0] ?_;obtain ⟨x1,Z3⟩:=Zs s.args 0 (by obtain ⟨v,hv⟩:=ha (by assumption);rw [hv];simp);have hg0:=Jn Z3;exact dx 6 (Zl none 0 1<|Y3 Z3)<|ZJ 0 6 [7,8,9,10,11,12] [1]<|de<|ZC<|r2 [1] [.b (x1==a.mat)] ⟨rfl,rfl⟩<|lb (by rw [hg0];simp [ZX])
 have Yf:¬(s.op=16):=Y8 Zq Zb;exact Zi 0 9 [4,5,6,7,8,9,10,11,12]<|de<|ZC<|r2 [1] [.b false] ⟨U,U⟩ lb
def Zf7 (xs:List Z4) (a:Yn) (q:Nat) (hl:xs.length<=1000000000:=by exact ob) (ha:∀s∈xs,s.op=16->∃v,s.args=[v]):Zj 61 [WE xs,.val<|.func (.func 62) #[] #[.pointer (some ⟨q,0,none⟩)]] [.obj q [.i a.mat,.i a.fst,Z5 a.fds,.b a.chg]] (fun r h=>r=.i (XA 16 a.mat xs 0)/\h=[.obj q [.i a.mat,.i a.fst,Z5 a.fds,.b a.chg]]):=by
 refine ZF 19 Tryz.func61<|ZB<|YE 1<|iw (V8 xs)<|Z0<|ab 0<|Y2 (fun fz gz m F h=>∃(k:Nat),(k<=xs.length)/\(XA 16 a.mat (xs.drop k) k=XA 16 a.mat xs 0)/\F=sF [0,1,7] fz [(8,.i k)]/\h=gz/\m=xs.length-k) _ _ _ ⟨0,ob,U,U,U,U⟩ (wk [0]<|Y7 fl) ?_;rintro m F h ⟨k,Ye,Zk,rfl,rfl,rfl⟩;refine ZB<|aq (XK ((k:Int)<(xs.length:Int)) (fun Za=>?_) fun Za=>?_)
 .refine ak<|aq<|ab 1<|ZB<|Y5 3 ?_;obtain ⟨x1,Z3⟩:=Zs xs k om;refine Zo (Zl none (k:Int) 5<|Wi Z3)<|Z1 1<|Zx [0] (Zk5 x1 a q (ha:=(ha _<|Y0 Z3)))<|ie (ac ((x1.op==16)&&(gI x1.args 0==a.mat)) (p:=(x1.op=16)/\(gI x1.args 0=a.mat)) (YN Zq Zq) (fun Zf=>?_) fun Zf=>?_)
  .exact ar<|Zp<|r2 [0] [.i k] ⟨rfl,rfl⟩<|li (by have h:=OZ Z3 Zf Zk;omega)
  exact ak<|az<|ZI k<|Z0<|ZK ⟨k+1,ob,(IW Z3 Zf Zk),U,U,U⟩<|wk [0]<|ZM k fl
 exact ax 0<|ar<|Zp<|r2 [0] [.i (-1)] ⟨rfl,rfl⟩<|li (by have h:=OU om Zk;omega)
def Zk4 (s:Z4) (a:Yn) (q:Nat) (hl:s.args.length<=1000000000:=by exact ob) (hf:a.fds.length<=3:=by exact ob):Zj 63 [YL s,.p q 0] [.obj q [.i a.mat,.i a.fst,Z5 a.fds,.b a.chg]] (fun r h=>r=.b (((s.op==6)&&(s.into==0))&&((s.args.length:Int)==(a.fds.length:Int)))/\h=[.obj q [.i a.mat,.i a.fst,Z5 a.fds,.b a.chg]]):=by
 refine ZF 21 Tryz.func63<|ar (iA (Xp s) fun b1=>Z0<|ar (XD 8 [1,2] [(11,.b ((s.op==6)&&(s.into==0)))] (fun gz=>gz) ?_ fun hj1=>?_))
 .refine XD 17 [] [(20,.b (((s.op==6)&&(s.into==0))&&((s.args.length:Int)==(a.fds.length:Int))))] (fun gz=>gz) ?_ fun hj2=>?_
  .exact Zp<|r1 [1] ⟨U,U⟩
  refine Z1 1 (ib (b:=((s.op==6)&&(s.into==0))) 12 (fun Zb=>?_) fun Zb=>?_)
  .have ZX:(s.op=6)/\(s.into=0):=((YN Zq Zq)).1 Zb;exact ZL 2 [0]<|iw (Yg s.args)<|ZL 2 [1]<|iw (Yg a.fds)<|Z1 2<|Yt (wk [0,0]<|Zu ((s.args.length:Int)==(a.fds.length:Int)) Zb fl) hj2
  have Yf:¬((s.op=6)/\(s.into=0)):=Y8 (YN Zq Zq) Zb;exact Z1 8<|Yt (wk [0,0]<|Zu false Zb fl) hj2
 refine ZL 4 [0] (ib (b:=(s.op==6)) 7 (fun ZE=>?_) fun ZE=>?_)
 .have YK:s.op=6:=(Zq).1 ZE;exact ZL 4 [0]<|Yt (wk [0,0]<|Zu (s.into==0) ZE fl) hj1
 have YW:¬(s.op=6):=Y8 Zq ZE;exact Z1 4<|Yt (wk [0,0]<|Zu false ZE fl) hj1
def Zf5 (xs:List Z4) (a:Yn) (q:Nat) (hl:xs.length<=1000000000:=by exact ob) (hf:a.fds.length<=3:=by exact ob) (hs:∀s∈xs,s.args.length<=1000000000):Zj 61 [WE xs,.val<|.func (.func 63) #[] #[.pointer (some ⟨q,0,none⟩)]] [.obj q [.i a.mat,.i a.fst,Z5 a.fds,.b a.chg]] (fun r h=>r=.i (Xy a.fds.length xs 0)/\h=[.obj q [.i a.mat,.i a.fst,Z5 a.fds,.b a.chg]]):=by
 refine ZF 19 Tryz.func61<|ZB<|YE 1<|iw (V8 xs)<|Z0<|ab 0<|Y2 (fun fz gz m F h=>∃(k:Nat),(k<=xs.length)/\(Xy a.fds.length (xs.drop k) k=Xy a.fds.length xs 0)/\F=sF [0,1,7] fz [(8,.i k)]/\h=gz/\m=xs.length-k) _ _ _ ⟨0,ob,U,U,U,U⟩ (wk [0]<|Y7 fl) ?_;rintro m F h ⟨k,Ye,Zk,rfl,rfl,rfl⟩;refine ZB<|aq (XK ((k:Int)<(xs.length:Int)) (fun Za=>?_) fun Za=>?_)
 .refine ak<|aq<|ab 1<|ZB<|Y5 3 ?_;obtain ⟨x1,Z3⟩:=Zs xs k om;refine Zo (Zl none (k:Int) 5<|Wi Z3)<|Z1 1<|Zx [0] (Zk4 x1 a q (hl:=(hs _<|Y0 Z3)))<|ie (ac (((x1.op==6)&&(x1.into==0))&&((x1.args.length:Int)==(a.fds.length:Int))) (p:=((x1.op=6)/\(x1.into=0))/\((x1.args.length:Int)=(a.fds.length:Int))) (YN (YN Zq Zq) Zq) (fun Zf=>?_) fun Zf=>?_)
  .exact ar<|Zp<|r2 [0] [.i k] ⟨rfl,rfl⟩<|li (by have h:=PM Z3 (show KI a.fds.length x1 from ⟨Zf.1,by omega⟩) Zk;omega)
  exact ak<|az<|ZI k<|Z0<|ZK ⟨k+1,ob,(PL Z3 (fun z=>Zf ⟨z.1,by have:=z.2;omega⟩) Zk),rfl,rfl,rfl⟩<|wk [0]<|ZM k fl
 exact ax 0<|ar<|Zp<|r2 [0] [.i (-1)] ⟨rfl,rfl⟩<|li (by have h:=PI om Zk;omega)
def Zk6 (o a:Yn) (q:Nat) :Zj 59 [.agg [.i o.mat,.i o.fst,Z5 o.fds,.b o.chg],.p q 0] [.obj q [.i a.mat,.i a.fst,Z5 a.fds,.b a.chg]] (fun r h=>r=.b (o.chg&&(o.mat==a.mat))/\h=[.obj q [.i a.mat,.i a.fst,Z5 a.fds,.b a.chg]]):=by
 refine ZF 13 Tryz.func59<|ar (iA [.i o.mat,.i o.fst,Z5 o.fds,.b o.chg] fun b1=>Z0<|ar (XD 9 [] [(12,.b (o.chg&&(o.mat==a.mat)))] (fun gz=>gz) ?_ fun hj1=>?_))
 .exact Zp<|r1 [1] ⟨U,U⟩
 refine ZL 3 [0] (ib (b:=o.chg) 6 (fun Zb=>?_) fun Zb=>?_)
 .have ZX:o.chg=true:=(Iff.rfl).1 Zb;exact ZL 6 [0,1]<|Yt (wk [0,0]<|Zu (o.mat==a.mat) Zb fl) hj1
 have Yf:¬(o.chg=true):=Y8 Iff.rfl Zb;exact Z1 6<|Yt (wk [0,0]<|Zu false Zb fl) hj1
def Zf4 (ys:List Yn) (a:Yn) (q g l mq c:Nat) (hl:ys.length<=1000000000:=by exact ob) (hm:mq<=ys.length:=by exact ob):Zj 104 [.ms g 0 mq c,.val<|.func (.func 59) #[] #[.pointer (some ⟨q,0,none⟩)]] [.row (.slice (some ⟨g,0,none⟩) l c) 4 (Zc<|X2 ys),.obj q [.i a.mat,.i a.fst,Z5 a.fds,.b a.chg]] (fun r h=>(∃(i:Nat),r=.i i/\h=[.row (.slice (some ⟨g,0,none⟩) l c) 4 (Zc<|X2 ys),.obj q [.i a.mat,.i a.fst,Z5 a.fds,.b a.chg]]/\TF (ys.take mq) a.mat=true)∨(r=.i (-1)/\h=[.row (.slice (some ⟨g,0,none⟩) l c) 4 (Zc<|X2 ys),.obj q [.i a.mat,.i a.fst,Z5 a.fds,.b a.chg]]/\TF (ys.take mq) a.mat=false)):=by
 refine ZF 19 Tryz.func104<|ZB<|YE 1<|io (.i mq) (.i mq) (lr _)<|Z0<|ab 0<|Y2 (fun fz gz m F h=>∃(k:Nat),(k<=mq)/\(∀o∈(ys.take mq).take k,¬(o.chg=true/\o.mat=a.mat))/\F=sF [0,1,7] fz [(8,.i k)]/\h=gz/\m=mq-k) _ _ _ ⟨0,ob,(by simp),rfl,rfl,rfl⟩ (wk [0,0]<|Y7 fl) ?_;rintro m F h ⟨k,Ye,Zk,rfl,rfl,rfl⟩;refine ZB<|aq (XK ((k:Int)<(mq:Int)) (fun Za=>?_) fun Za=>?_)
 .obtain ⟨x1,Z3⟩:=Zs ys k om;have Zr:(ys.take mq)[k]? = some x1:=by rw [List.getElem?_take_of_lt om];exact Z3
  refine ak<|aq<|ab 1<|ZB<|Y5 3<|Zo (W9 g mq c k 4 (k:Int))<|WW (Vj 0 g l c 4 (k*4) (Zc<|X2 ys) (AR x1) 93 (.agg [.i x1.mat,.i x1.fst,Z5 x1.fds,.b x1.chg])<|RA Z3)<|Zx [1] (Zk6 x1 a q)<|ie (ac (x1.chg&&(x1.mat==a.mat)) (p:=(x1.chg=true)/\(x1.mat=a.mat)) (YN Iff.rfl Zq) (fun Zf=>?_) fun Zf=>?_)
  .exact ar<|Zp<|r1 [1,0]<|.inl ⟨k,U,U,(SU.2 ⟨x1,Y0 Zr,Zf⟩)⟩
  exact ak<|az<|ZI k<|Z0<|ZK ⟨k+1,ob,(Zn9 Zr Zk Zf),U,U,U⟩<|wk [1,0]<|ZM k fl
 exact ax 0<|ar<|Zp<|r1 [0,0]<|.inr ⟨rfl,rfl,(Zfy<|by rw [Vc (by rw [WK];omega)] at Zk;exact Zk)⟩
def Z8w (ys:List Yn) (a:Yn) (q g l mq c:Nat) (hl:ys.length<=1000000000:=by exact ob) (hm:mq<=ys.length:=by exact ob):Zj 58 [.ms g 0 mq c,.val<|.func (.func 59) #[] #[.pointer (some ⟨q,0,none⟩)]] [.row (.slice (some ⟨g,0,none⟩) l c) 4 (Zc<|X2 ys),.obj q [.i a.mat,.i a.fst,Z5 a.fds,.b a.chg]] (fun r h=>r=.b (TF (ys.take mq) a.mat)/\h=[.row (.slice (some ⟨g,0,none⟩) l c) 4 (Zc<|X2 ys),.obj q [.i a.mat,.i a.fst,Z5 a.fds,.b a.chg]]):=by
 refine ZF 9 Tryz.func58<|ZB<|Y5 2<|ic [0,0] (Zf4 ys a q g l mq c) ?_;rintro _ _ (⟨i1,rfl,rfl,ZX⟩|⟨rfl,rfl,Yf⟩)
 .exact Zp<|r2 [0,0] [.b (decide ((i1:Int)>=0))] ⟨U,U⟩ lb
 exact Zp<|r2 [0,0] [.b (decide ((-1)>=0))] ⟨U,U⟩ lb
def Z83 (xs:List Z4) (hl_xs:xs.length<=4294967296):Zj 64 [WE xs] [] (fun r h=>∃(v:Hd),r=.h v/\h=[rK v 5 (Zc<|Zv xs)]):=by
 refine ZF 8 Tryz.func64<|ZB<|YE 1<|iN (Zv xs) (fun hz1=>?_) ?_
 .have hz1:=Zah hz1;refine ie<|Wc<|ZB<|T0 (ED (k:=5)) ?_;subst hz1;exact ZC<|r2 [0] [nl] ⟨hN,rfl,rfl⟩ (Zd.hd (v:=hN)) (eq:=(rr (ls:=[]) (by rw [U2];rfl) rz))
 exact ie<|Ww<|ak<|ar (By 5 fun g1=>Z1 1 (E5 0 g1 5 (Zv xs) none (Xr _) (by simp<;>omega) fun v1=>Zp<|r1 [0] ⟨v1,rfl,rfl⟩))
def Z84 (xs:List Z4) (hl_xs:xs.length<=4294967296:=by exact ob) (h0:0<xs.length:=by exact ob):Zj 64 [WE xs] [] (fun r h=>∃(g:Nat) (c:Nat),r=.ms g 0 xs.length c/\h=[.row (.slice (some ⟨g,0,none⟩) xs.length c) 5 (Zc<|Zv xs)]):=(Z83 xs hl_xs).form (T:=fun v=>.h v) (m:=xs.length) (Qb _) om h0
def Po (am:List Yn) (hl:am.length<=1000000000:=by exact ob):Zj 103 [Xc am] [] (fun r h=>∃(v:Hd),r=.h v/\h=[rK v 4 (Zc<|X2 am)]):=by
 refine ZF 8 Tryz.func103<|ZB<|YE 1<|iN (X2 am) (fun hz1=>?_) ?_
 .have hz1:=R7 hz1;refine ie<|Wc<|ZB<|T0 (ED (k:=4)) ?_;subst hz1;exact ZC<|r2 [0] [nl] ⟨hN,U,U⟩ (Zd.hd (v:=hN)) (eq:=(rr (ls:=[]) rfl rz))
 exact ie<|Ww<|ak<|ar (By 4 fun g1=>Z1 1 (E5 0 g1 4 (X2 am) none (JQ _) (by simp<;>omega) fun v1=>Zp<|r1 [0] ⟨v1,rfl,rfl⟩))
def Z74 (am:List Yn) (a:Yn) (hl:am.length<=900000000):Zj 56 [Xc am,.agg [.i a.mat,.i a.fst,Z5 a.fds,.b a.chg]] [] (fun r h=>∃(v:Hd),r=.h v/\h=[rK v 4 (Zc<|X2 (am++[a]))]):=by
 refine ZF 10 Tryz.func56<|ar (iA [.i a.mat,.i a.fst,Z5 a.fds,.b a.chg] fun b1=>?_);refine Z0<|aD 6<|ZJ 4 6 [0,2] [0]<|Ji (fun fz gz F h=>∃(v3:Hd),F=sF [] fz [(4,.h v3)]/\h=[rK v3 4 (Zc (X2 am)++Zc (X2 [a])),Ze gz 0]) ?_ ?_
 .refine VR 1 3 ?_ ?_
  .refine dc 1 [] [0] [b1] (Po am) ?_;rintro _ _ ⟨v1,rfl,rfl⟩;exact Z9 3 (dL 3 [] [] (X2 [a]) 1 4 fun v2=>Yw 2 2 [] [(8,Xc [a])]<|Z9 4 (EY 4 1 am.length [] [] v1 4 (Zc<|X2 am) (X2 [a]) none (DV am) (JQ _) (F6 _) (by simp [X2]) (by simp<;>omega) fun v3=>Zi 0 1 [5]<|de<|ZU ⟨v3,rfl,rfl⟩<|wk [0,1] fl))
  refine dL 3 [] [] (X2 [a]) 1 4 fun v4=>Z9 1<|dc 1 [] [] [] (Po am) ?_
  rintro _ _ ⟨v5,rfl,rfl⟩;exact Yw 2 2 [] [(8,Xc [a])] (Z9 4 (EY 4 0 am.length [] [] v5 4 (Zc (X2 am)) (X2 [a]) none (DV am) (JQ _) (F6 _) (by simp [X2]) (by simp<;>omega) fun v6=>Zi 0 1 [5] (de (ZU ⟨v6,rfl,rfl⟩ (wk [0,1] fl)))))
 rintro F h ⟨v3,rfl,rfl⟩;exact ZC (r1 [0] ⟨v3,U,U⟩ (eq:=(rr (ls:=Zc (X2 am)++Zc (X2 [a])) (Zb2 am a) rz)))
def OS (am:List Yn) (a:Yn) (hl:am.length<=900000000:=by exact ob):Zj 56 [Xc am,.agg [.i a.mat,.i a.fst,Z5 a.fds,.b a.chg]] [] (fun r h=>∃(g:Nat) (c:Nat),r=.ms g 0 (am.length+1) c/\h=[.row (.slice (some ⟨g,0,none⟩) (am.length+1) c) 4 (Zc<|X2 (am++[a]))]):=(Z74 am a hl).form (T:=fun v=>.h v) (m:=am.length+1) (by rw [DV];simp) om om
def Zk3 (ds:List Zh) (am:List Yn) (a:Yn) (g c:Nat) (b:Z6) (hal:am.length<=900000000:=by exact ob) (hw:wB ds b:=by exact ob) (hf:a.fds.length<=3:=by exact ob) (hm:0<=a.mat/\a.mat<=900000000:=by exact ob) (hz:b.pz<=900000000:=by exact ob):Zj 24 [.ms g 0 (am.length+1) c,ZV b] [.row (.slice (some ⟨g,0,none⟩) (am.length+1) c) 4 (Zc<|X2 (am++[a]))] (fun r h=>r=ZV (Au am a b)/\h=[.row (.slice (some ⟨g,0,none⟩) (am.length+1) c) 4 (Zc<|X2 (am++[Af am a b]))]):=by
 have ZO:=(Tv b).1 hw;have hbz:=Np b;have hrl:=Ef b.steps;have hal2:=Z70 am a;have hlen:(am++[a]).length=am.length+1:=by simp
 have hsa:∀s∈b.steps,s.args.length<=1000000000:=fun s hs=>by
  obtain ⟨k,hk⟩:=IB hs;have h1:=Z25 hk;have h2:=Z24 s;omega
 have htk:(am++[a]).take am.length=am:=by simp
 refine ZF 71 Tryz.func24<|ar (iA (Xb b) fun b1=>iA [nl,.i 0] fun b2=>ie<|Y5 2<|io (.i (((am.length+1):Nat):Int)) (.i (((am.length+1):Nat):Int)) (lr _)<|ia ((am.length:Int)) (((((am.length+1):Nat):Int))-(1))<|Zo (W9 g (am.length+1) c am.length 4 (am.length:Int))<|WW (Vj 2 g (am.length+1) c 4 (am.length*4) (Zc<|X2 (am++[a])) (AR a) 93 (.agg [.i a.mat,.i a.fst,Z5 a.fds,.b a.chg])<|RA hal2) (iA [.i 0,.i 0,nl,.b false] fun b3=>ZD 0 b3 [.i a.mat,.i a.fst,Z5 a.fds,.b a.chg]<|ie<|YE 2<|io (.i (((am.length+1):Nat):Int)) (.i (((am.length+1):Nat):Int)) (lr _)<|ia ((am.length:Int)) (((((am.length+1):Nat):Int))-(1))<|Zo (Ht 3 g (am.length+1) c am.length 4<|Zc<|X2 (am++[a]))<|Z1 1<|Zx [3,0] (Z8w (am++[a]) a b3 g (am.length+1) am.length c)<|ie (ac (TF ((am++[a]).take am.length) a.mat) Iff.rfl (fun Za=>?_) fun Za=>?_)))
 .have hN:QK am a b:=.inl (by rw [htk] at Za;exact Za);exact Zt 1 [3]<|ZD 2 b2 (Xb b)<|ie<|ZC<|r3 [1] [ZV b] [0] [(b2,b2)] ⟨rfl,rfl⟩ (Zd.agg<|.cons (Zd.sl _<|Ys Zv<|by rw [Er hN])<|.cons (li<|by rw [Er hN]) .nil) (eq:=(rr (ls:=Zc (X2 (am++[a]))) (by rw [IU hN]) rz))
 have hk0:¬TF am a.mat=true:=by rw [htk] at Za;exact Za
 refine ak<|Zt 1 [3]<|Zx [] (Zim b)<|Z0<|Zt 3 [3]<|Zo (JC (es:=Zv b.steps) (hv:=none) (l:=0) (m:=(((Yk b.steps):Nat):Int)) (sz:=5) (es':=Zv (b.steps.take<|Yk b.steps)) kr om (by simp<;>omega) (by simp<;>omega) (Xr _)<|by first|(simp only [Ua,VP,Kj,Ki];done)|(simp only [Ua,VP,Kj,Ki];rfl)|(simp [Kj,Ki];done))<|Z1 1<|Zx [1] (Zf7 (b.steps.take<|Yk b.steps) a b3 (ha:=(fun s hs h16=>IF<|Dy ZO s (Qr hs)<|by rw [h16];rfl)))<|Z0<|Zt 3 [3]<|Zo (JC (es:=Zv b.steps) (hv:=none) (l:=(((Yk b.steps):Nat):Int)) (m:=(((Zv b.steps).length:Nat):Int)) (sz:=5) (es':=Zv (b.steps.drop<|Yk b.steps)) kr om (by simp<;>omega) (by simp<;>omega) (Xr _)<|by first|(simp only [Ua,VP,Kj,Ki];done)|(simp only [Ua,VP,Kj,Ki];rfl)|(simp [Kj,Ki];done))<|Z1 1<|Zx [0] (Zf5 (b.steps.drop<|Yk b.steps) a b3 (hs:=(fun s hs=>hsa s<|List.mem_of_mem_drop hs)))<|Z0<|X6<|Xu [0,3,4,5,6,7,8] [(43,.b ((decide ((XA 16 a.mat (b.steps.take<|Yk b.steps) 0)<0))||(decide ((Xy a.fds.length (b.steps.drop<|Yk b.steps) 0)<0))))] (fun gz=>gz) ?_ ?_
 .refine Z1 3 (ib (b:=(decide ((XA 16 a.mat (b.steps.take<|Yk b.steps) 0)<0))) 40 (fun Zb=>?_) fun Zb=>?_)
  .have ZX:(XA 16 a.mat (b.steps.take<|Yk b.steps) 0)<0:=(dq).1 Zb;exact Z0<|ZH 4<|Zu true Zb fl
  have Yf:¬((XA 16 a.mat (b.steps.take<|Yk b.steps) 0)<0):=Y8 dq Zb;exact Z0<|ZH 4<|Zu (decide ((Xy a.fds.length (b.steps.drop<|Yk b.steps) 0)<0)) Zb fl
 refine ac ((decide ((XA 16 a.mat (b.steps.take<|Yk b.steps) 0)<0))||(decide ((Xy a.fds.length (b.steps.drop<|Yk b.steps) 0)<0))) (p:=((XA 16 a.mat (b.steps.take<|Yk b.steps) 0)<0)∨((Xy a.fds.length (b.steps.drop<|Yk b.steps) 0)<0)) (Yi dq dq) (fun Zf=>?_) fun Zf=>?_
 .have hN:QK am a b:=.inr (Zf.elim .inl fun z=>.inr<|Z8m z);exact Zt 1 [3]<|ZD 2 b2 (Xb b)<|ie<|ZC<|r3 [2] [ZV b] [0] [(b2,b2)] ⟨rfl,rfl⟩ (Zd.agg<|.cons (Zd.sl _<|Ys Zv<|by rw [Er hN])<|.cons (li<|by rw [Er hN]) .nil) (eq:=(rr (ls:=Zc (X2 (am++[a]))) (by rw [IU hN]) rz))
 have ho:¬Wn b.steps a.mat<0:=fun z=>Zf<|.inl z
 obtain ⟨hce,hcn⟩:=Z8n (xs:=b.steps) (many:=a.fds.length) fun z=>Zf (.inr z)
 have hcc:¬(Wn b.steps a.mat<0∨XX b.steps a.fds.length<0):=fun z=>z.elim ho hcn
 have hN:¬QK am a b:=fun z=>z.elim hk0 hcc
 obtain ⟨o1,o2,so,o3,o4⟩:=BH ho;obtain ⟨p1,p2,sc,p3,p4,p5⟩:=KJ hcn;have hsoe:so=Zz 16 a.mat:=Qs (o3.symm.trans (HO ZO ho));have p6:=BK hcc (t:=Z4.mk 17 so.num so.into so.args so.kids) p3;rw [show Wn b.steps a.mat=(XA 16 a.mat (b.steps.take (Yk b.steps)) 0) from rfl] at o1 o2;rw [hce] at p1 p2 p3 p6;refine ak (Zt 2 [3] (ic [] (Z84 b.steps) ?_));rintro _ _ ⟨g1,c1,rfl,rfl⟩;exact Z0 (Y5 2 (Zo (W9 g1 b.steps.length c1 ((XA 16 a.mat (b.steps.take (Yk b.steps)) 0).toNat) 5 (XA 16 a.mat (b.steps.take (Yk b.steps)) 0)) (Z1 1 (Bz 0 g1 b.steps.length c1 5 (((XA 16 a.mat (b.steps.take (Yk b.steps)) 0).toNat)*5) [.i 17] (Zc (Zv b.steps)) (Zc (Zv (b.steps.set (XA 16 a.mat (b.steps.take (Yk b.steps)) 0).toNat (Z4.mk 17 so.num so.into so.args so.kids)))) (by rw [Qb];simp only [YR,Xx];omega) (Zbg 17 o3) (ie (Y5 3 (ia (((((Yk b.steps):Nat):Int)+(Xy a.fds.length (b.steps.drop (Yk b.steps)) 0))) (((((Yk b.steps):Nat):Int))+((Xy a.fds.length (b.steps.drop (Yk b.steps)) 0))) (ZL 2 [1] (ia ((1+a.mat)) ((1)+(a.mat)) (Zo (W9 g1 b.steps.length c1 (((((Yk b.steps):Nat):Int)+(Xy a.fds.length (b.steps.drop (Yk b.steps)) 0)).toNat) 5 ((((Yk b.steps):Nat):Int)+(Xy a.fds.length (b.steps.drop (Yk b.steps)) 0))) (Z1 1 (Bz 0 g1 b.steps.length c1 5 ((((((Yk b.steps):Nat):Int)+(Xy a.fds.length (b.steps.drop (Yk b.steps)) 0)).toNat)*5+2) [.i (1+a.mat)] (Zc (Zv (b.steps.set (XA 16 a.mat (b.steps.take (Yk b.steps)) 0).toNat (Z4.mk 17 so.num so.into so.args so.kids)))) (Zc (Zv ((b.steps.set (XA 16 a.mat (b.steps.take (Yk b.steps)) 0).toNat (Z4.mk 17 so.num so.into so.args so.kids)).set (((Yk b.steps:Nat):Int)+(Xy a.fds.length (b.steps.drop (Yk b.steps)) 0)).toNat (Uo (1+a.mat) sc)))) (by rw [Qb,UO];simp only [YR,Xx];omega) (Zbf (1+a.mat) p6) (ie (Y5 2 (io (.i (((am.length+1):Nat):Int)) (.i (((am.length+1):Nat):Int)) (lr _) (ia ((am.length:Int)) (((((am.length+1):Nat):Int))-(1)) (Zo (W9 g (am.length+1) c am.length 4 (am.length:Int)) (Z1 1 (Bz 2 g (am.length+1) c 4 (am.length*4+3) [.b true] (Zc (X2 (am++[a]))) (Zc (X2 (am++[Yn.mk a.mat a.fst a.fds true]))) (by rw [DV,hlen];simp only [YR,Xx];omega) (Zb1 true) (ie (Zt 4 [4] (ZD 3 b2 [.ms g1 0 b.steps.length c1,.i b.result] (W8 (TI 2 0 0 (.slice (some ⟨g1,0,none⟩) b.steps.length c1) 5 b2 (Zv ((b.steps.set (XA 16 a.mat (b.steps.take (Yk b.steps)) 0).toNat (Z4.mk 17 so.num so.into so.args so.kids)).set (((Yk b.steps:Nat):Int)+(Xy a.fds.length (b.steps.drop (Yk b.steps)) 0)).toNat (Uo (1+a.mat) sc))) [.ms g1 0 b.steps.length c1,.i b.result] (Xr _) rfl) (ie (ZC (r3 [2] [.agg [X7 ((b.steps.set (XA 16 a.mat (b.steps.take (Yk b.steps)) 0).toNat (Z4.mk 17 so.num so.into so.args so.kids)).set (((Yk b.steps:Nat):Int)+(Xy a.fds.length (b.steps.drop (Yk b.steps)) 0)).toNat (Uo (1+a.mat) sc)) (.slice (some ⟨g1,0,none⟩) b.steps.length c1),.i b.result]] [0] [(b2,b2)] ⟨rfl,rfl⟩ (Zd.agg (.cons (Zd.sl _ (Ys Zv (by rw [NA hN];show _=V4 b.steps a.mat a.fds.length;rw [<-Z2l hcc p5,hce,hsoe];rfl))) (.cons (li (by rw [NA hN];rfl)) .nil))) (eq:=(rr (ls:=(Zc (X2 (am++[Yn.mk a.mat a.fst a.fds true])))) (by rw [OM hN]) rz))))))))))))))))))))))))))))
def Z39 (ds:List Zh) (am:List Yn) (x:Int) (qm:Nat) (fs:LI) (g c:Nat) (b:Z6) (hal:am.length<=900000000:=by exact ob) (hw:wB ds b:=by exact ob) (hf:fs.length<=3:=by exact ob) (hm:0<=x/\x<=900000000:=by exact ob) (hz:b.pz<=900000000:=by exact ob):Zj 24 [.ms g 0 (am.length+1) c,ZV b] [.row (.slice (some ⟨g,0,none⟩) (am.length+1) c) 4 (Zc<|X2 (am++[Yn.mk x qm fs false]))] (fun r h=>r=ZV (Au am (Yn.mk x qm fs false) b)/\h=[.row (.slice (some ⟨g,0,none⟩) (am.length+1) c) 4 (Zc<|X2 (am++[Af am (Yn.mk x qm fs false) b]))]):=Zk3 ds am ⟨x,qm,fs,false⟩ g c b hal hw hf hm hz
def Zeu (n:Zm) (b:Z6) (mm:Nat) (am:List Yn) (kept:LI) (hn:YZ n) (hw:wB n.1 b) (hal:am.length+b.pz<=800000000) (hb:mm+4*b.pz<=900000000) (hkp:∀x,x∈kept↔TF am x=true) (ih:∀(b2:Z6) (m2:Nat) (a2:List Yn) (K2:LI),(wB n.1 b2)->(a2.length+b2.pz<=800000000)->(m2+4*b2.pz<=900000000)->(∀x,x∈K2↔TF a2 x=true)->(b2.pz<b.pz)->Zj 23 [.agg [ZQ n.1,YV n],ZV b2,.i m2,Xc a2,.val<|.func (.func 24) #[] #[]] [] fun r h=>∃(y:XP),r=Qu y/\h=[.many (Vs y)]/\y.er=ruB n.1 K2 b2):Zj 23 [.agg [ZQ n.1,YV n],ZV b,.i mm,Xc am,.val<|.func (.func 24) #[] #[]] [] (fun r h=>∃(y:XP),r=Qu y/\h=[.many (Vs y)]/\y.er=ruB n.1 kept b):=by
 have Xz:=hn.decls;have hbz:=Np b;refine ZF 98 Tryz.func23<|ar (iA [ZQ n.1,YV n] fun b1=>iA (Xb b) fun b2=>iA [nl,.i 0] fun b3=>ie<|Zt 3 [1] (iA [nl,.i 0] fun b4=>?_));refine ZD 0 b4 [nl,.i b.result]<|ie<|Yh 2 [2]<|iw (V8 b.steps)<|Z0<|ab 0<|Qv 5<|T0 (tB [] [] [] (Vt [])<|by simp [QH,QC,K3,K4,K5,K6,K1,Vt,WY,QG,Vs,Um,Ue,Un,QD,QE,QF,TE])<|Y2 (fun fz gz m F h=>∃(k:Nat) (q:Nat) (xs:List WA) (v:Value),(k<=b.steps.length)/\(q<=mm+k)/\(xs.length=k)/\(Jm xs++ruSs n.1 kept (b.steps.drop k)=ruSs n.1 kept b.steps)/\F=sF [3,4,5,10,11,23,24] fz [(2,.i q),(25,.i k)]/\h=[.obj b4 [El xs v,.i b.result],Ze gz 3,Ze gz 5,.tail v 5,.many<|Vt xs]/\m=b.steps.length-k) _ _ _ ⟨0,mm,[],(.slice none 0 0),ob,ob,ob,rfl,rfl,rfl,rfl⟩ (wk [2,2,3,1,0]<|fr<|Y7 fl) ?_;rintro m F h ⟨k,q,xs,v,Ye,Zk,Zw,Yz,rfl,rfl,rfl⟩;refine ZB<|aq (XK ((k:Int)<(b.steps.length:Int)) (fun Za=>?_) fun Za=>?_)
 .refine ak<|aq<|ab 1<|ar ?_;obtain ⟨x1,Z3⟩:=Zs b.steps k om;have Xg:=Z25 Z3;have hws:=Og hw Z3;have hkz:=Zis x1;have haz:=Z24 x1;refine Zo (Zl none (k:Int) 5<|Wi Z3)<|Z1 1 (iA [.i 0,.i 0,.i 0,nl,nl] fun b5=>?_);refine ZD 0 b5 (Xp x1)<|ie<|ZB<|Yh 2 [0]<|iw (U0 x1.kids)<|Z0<|ab 2<|Qv 2<|T0 (tB [] [] [] (WY [])<|by simp [QH,QC,K3,K4,K5,K6,K1,Vt,WY,QG,Vs,Um,Ue,Un,QD,QE,QF,TE])<|Y2 (fun fz gz m F h=>∃(j:Nat) (ys:List XP) (u:Value),(j<=x1.kids.length)/\(ys.length=j)/\(KN ys++ruKs n.1 kept x1.op x1.num x1.args (x1.kids.drop j) j=ruKs n.1 kept x1.op x1.num x1.args x1.kids 0)/\F=sF [2,3,4,5,10,11,13,23,24,25,30,31] fz [(14,Df ys u),(32,.i j)]/\h=[Ze gz 2,Ze gz 3,Ze gz 4,Ze gz 5,Ze gz 7,.tail u 2,Ze gz 6,.many<|WY ys]/\m=x1.kids.length-j) _ _ _ ⟨0,[],(.slice none 0 0),ob,ob,(by simp [KN]),rfl,rfl,rfl⟩ (wk [2,2,2,2,3,1,1,0]<|fc (x:=nl) (Zd.slh _<|by first|rfl|(subst_vars;rfl))<|Y7 fl) ?_;rintro m F h ⟨j,ys,u,VZ,XB,Xw,rfl,rfl,rfl⟩;refine ZB<|aq (XK ((j:Int)<(x1.kids.length:Int)) (fun Zf=>?_) fun Zf=>?_)
  .refine ak<|aq<|ab 3<|Y5 1 ?_;obtain ⟨x2,Zr⟩:=Zs x1.kids j om;have hkb:=Zr;have hks:=Zir Zr;have hwk:=Iu hws Zr;have hst:=Np x2;refine Zo (Zl none (j:Int) 2<|Ux Zr)<|Z1 1 (iA [nl,.i 0] fun b6=>Z1 1<|ZD 0 b6 (Xb x2)<|ie<|X6<|U6 [1] (ac (x1.op != 8) Yb (fun ZA=>?_) fun ZA=>?_))
   .refine Zt 6 [4,0]<|ic [] (ih x2 q am _ (by first|exact hwk|exact Oi hwk) (by first|omega|(rw [BL hwk];simp only [Yy,YR,Xx];omega)) (by first|omega|(rw [BL hwk];omega)) (by first|exact hkp|exact MC hkp rfl)<|by first|omega|(rw [BL hwk];omega)) ?_;rintro _ _ ⟨y1,rfl,rfl,ZX⟩;have hy:(y1).er=TH n.1 kept x1.op x1.num x1.args j x2:=by
     first
     | (rw [<-Es (fun z=>absurd z.1 om)];exact ZX)
     | exact Eq.trans ZX (NB om hg1 hfk hkp)
    exact iL [Qu y1] 1 2 fun v1=>ZY 0 [(47,.sl [Qu y1] none)] (ip 8 (TT (ys++[y1])) (TT ys) [Qu y1] u none 2 (LE _) (Qh rfl) rfl (by simp<;>omega) (by simp [LD,CW]) fun v2=>W8 (tB [10,2] [.many (WY ys),.many<|Vs y1] (WY ys++(Vs y1++[])) (WY (ys++[y1]))<|by simp [QH,QC,K3,K4,K5,K6,K1,Vt,WY,QG,Vs,Um,Ue,Un,QD,QE,QF,TE])<|Z0<|ax 3<|az<|ZI j<|Z0<|ZK ⟨j+1,(ys++[y1]),v2,ob,ob,(by rw [LO,LQ,hy];exact HX hkb Xw),rfl,rfl,rfl⟩<|wk [4,4,4,4,4,1,3,0]<|fr<|ZM j fl)
   refine ak<|aD 15<|ZJ 13 15 [0,1] [1] ?_;obtain ⟨x3,YG⟩:=Zs x1.args 0 (by obtain ⟨⟨a,ha2,_⟩,_⟩:=BS hws om;rw [ha2];simp);have hg1:=Jn YG;have hxb:0<=x3/\x3<=900000000:=by obtain ⟨⟨a,ha2,ha3⟩,_⟩:=BS hws om;rw [ha2] at hg1;have:a=x3:=hg1;omega
   refine dx 2 (Zl none 0 1<|Y3 YG)<|ZJ 6 12 [3,4,5,6,7,9] [4,1]<|VR 8 13 ?_ ?_
   .refine Yu 8 [] [1] [b5] (Hm _ x1.num) ?_;obtain ⟨x4,WM⟩:=Zs ((Y1 n.1 x1.num).map<|ZZ n.1) j (by have h:=(BS hws om).2;rw [Qq];omega);have hfk:=GZ WM;have hxl:(x4).length<=3:=by rw [<-hfk];exact LS Xz _ _
    refine dx 10 (Zl none (j:Int) 1<|AL WM)<|Zi 2 4 [11,12]<|Z9 13 (dA 13 [1] [b5] [.i 0,.i 0,nl,.b false] fun b7=>Z9 14<|YO 14 0 [] [] b7 [.i x3,.i q,Z5 x4,.b false]<|de<|Zt 2 [0]<|ic [] (OS am<|Yn.mk x3 (q:Int) x4 false) ?_);rintro _ _ ⟨g1,c1,rfl,rfl⟩;refine Z0<|aE 17<|ZJ 9 17 [0,1,2,3,4,6,7,8] [6,2,1]<|dw 9 (Yg x4)<|da 10 (((q+x4.length:Nat):Int)) (((q:Int))+((x4.length:Int)))<|Zi 5 7 [11,12]<|Z9 5<|Yu 5 [0] [0,5] [b7,b1] (Z39 n.1 am _ q _ g1 c1 x2 (hw:=hwk) (hm:=hxb))<|R0 76 0 (v:=(.slice (some ⟨g1,0,none⟩) (am.length+1) c1)) (X2 (am++[Af am (Yn.mk x3 q x4 false) x2])) (JQ _)<|Yw 4 4 [] [(76,Xc (am++[Af am (Yn.mk x3 q x4 false) x2]))]<|Z9 13<|dc 13 [] [] [] (ih (Au am (Yn.mk x3 q x4 false) x2) (q+x4.length) (am++[Af am (Yn.mk x3 q x4 false) x2]) _ (by first|exact hwk|exact Oi hwk) (by first|omega|(rw [BL hwk];simp only [Yy,YR,Xx];omega)) (by first|omega|(rw [BL hwk];omega)) (by first|exact hkp|exact MC hkp rfl)<|by first|omega|(rw [BL hwk];omega)) ?_;rintro _ _ ⟨y2,rfl,rfl,Yf⟩;have hy:(y2).er=TH n.1 kept x1.op x1.num x1.args j x2:=by
     first
     | (rw [<-Es (fun z=>absurd z.1 om)];exact Yf)
     | exact Eq.trans Yf (NB om hg1 hfk hkp)
    exact Z9 14 (dL 14 [] [] [Qu y2] 1 2 fun v3=>Yw 2 2 [] [(79,.sl [Qu y2] none)]<|Z9 15 (dp 15 10 [] [] (TT (ys++[y2])) (TT ys) [Qu y2] u none 2 (LE _) (Qh rfl) rfl (by simp<;>omega) (by simp [LD,CW]) fun v4=>JP (tB [12,2] [.many (WY ys),.many<|Vs y2] (WY ys++(Vs y2++[])) (WY (ys++[y2]))<|by simp [QH,QC,K3,K4,K5,K6,K1,Vt,WY,QG,Vs,Um,Ue,Un,QD,QE,QF,TE])<|Zi 0 1 [16]<|de<|az<|ZI j<|Z0<|ZK ⟨j+1,(ys++[y2]),v4,ob,ob,(by rw [LO,LQ,hy];exact HX hkb Xw),rfl,rfl,rfl⟩<|wk [6,6,6,6,6,1,5,0]<|fr<|ZM j fl))
   refine dA 13 [1,4,1] [b5,b1,b5] [.i 0,.i 0,nl,.b false] fun b8=>Z9 8<|Yu 8 [] [2] [b5] (Hm _ x1.num) ?_
   obtain ⟨x5,VU⟩:=Zs ((Y1 n.1 x1.num).map (ZZ n.1)) j (by have h:=(BS hws om).2;rw [Qq];omega);have hfk:=GZ VU;have hxl:(x5).length<=3:=by rw [<-hfk];exact LS Xz _ _
   refine dx 10 (Zl none (j:Int) 1<|AL VU)<|Zi 1 3 [11,12]<|Z9 14<|YO 14 0 [] [] b8 [.i x3,.i q,Z5 x5,.b false]<|de<|Zt 2 [0]<|ic [] (OS am<|Yn.mk x3 (q:Int) x5 false) ?_;rintro _ _ ⟨g2,c2,rfl,rfl⟩;refine Z0<|aE 17<|ZJ 9 17 [0,1,2,3,4,6,7,8] [6,2,1]<|dw 9 (Yg x5)<|da 10 (((q+x5.length:Nat):Int)) (((q:Int))+((x5.length:Int)))<|Zi 5 7 [11,12]<|Z9 5<|Yu 5 [0] [0,5] [b8,b1] (Z39 n.1 am _ q _ g2 c2 x2 (hw:=hwk) (hm:=hxb))<|R0 76 0 (v:=(.slice (some ⟨g2,0,none⟩) (am.length+1) c2)) (X2 (am++[Af am (Yn.mk x3 q x5 false) x2])) (JQ _)<|Yw 4 4 [] [(76,Xc (am++[Af am (Yn.mk x3 q x5 false) x2]))]<|Z9 13<|dc 13 [] [] [] (ih (Au am (Yn.mk x3 q x5 false) x2) (q+x5.length) (am++[Af am (Yn.mk x3 q x5 false) x2]) _ (by first|exact hwk|exact Oi hwk) (by first|omega|(rw [BL hwk];simp only [Yy,YR,Xx];omega)) (by first|omega|(rw [BL hwk];omega)) (by first|exact hkp|exact MC hkp rfl)<|by first|omega|(rw [BL hwk];omega)) ?_;rintro _ _ ⟨y3,rfl,rfl,YK⟩;have hy:(y3).er=TH n.1 kept x1.op x1.num x1.args j x2:=by
    first
    | (rw [<-Es (fun z=>absurd z.1 om)];exact YK)
    | exact Eq.trans YK (NB om hg1 hfk hkp)
   exact Z9 14 (dL 14 [] [] [Qu y3] 1 2 fun v5=>Yw 2 2 [] [(79,.sl [Qu y3] none)]<|Z9 15 (dp 15 10 [] [] (TT (ys++[y3])) (TT ys) [Qu y3] u none 2 (LE _) (Qh rfl) rfl (by simp<;>omega) (by simp [LD,CW]) fun v6=>JP (tB [12,2] [.many (WY ys),.many<|Vs y3] (WY ys++(Vs y3++[])) (WY (ys++[y3]))<|by simp [QH,QC,K3,K4,K5,K6,K1,Vt,WY,QG,Vs,Um,Ue,Un,QD,QE,QF,TE])<|Zi 0 1 [16]<|de<|az<|ZI j<|Z0<|ZK ⟨j+1,(ys++[y3]),v6,ob,ob,(by rw [LO,LQ,hy];exact HX hkb Xw),rfl,rfl,rfl⟩<|wk [6,6,6,6,6,1,5,0]<|fr<|ZM j fl))
  have hK:=Z30 om Xw;refine ax 2<|aD 9<|ZJ 5 9 [0,1,2,3] [1,0]<|Z9 4<|dc 4 [] [1] [b4] (Zf2 x1 ys u) ?_;rintro _ _ ⟨u1,rfl,rfl⟩;refine Z9 5 (dL 5 [1] [b4] [EO (WA.mk x1.op x1.num x1.into x1.args u1 ys u)] 1 5 fun v7=>Yw 3 3 [] [(87,.sl [EO (WA.mk x1.op x1.num x1.into x1.args u1 ys u)] none)]<|Z9 6 (dp 6 8 [] [] (QW (xs++[WA.mk x1.op x1.num x1.into x1.args u1 ys u])) (QW xs) [EO (WA.mk x1.op x1.num x1.into x1.args u1 ys u)] v none 5 (Zac _) (Qh rfl) rfl (by simp<;>omega) (by simp [Zab,F8]) fun v8=>?_));refine JP (tB [7,2,7,6] [.many (Vt xs),.tail u1 1,.many<|WY ys,.tail u 2] (Vt xs++((u1,1)::(WY ys++((u,2)::[])))) (Vt (xs++[WA.mk x1.op x1.num x1.into x1.args u1 ys u]))<|by simp [QH,QC,K3,K4,K5,K6,K1,Vt,WY,QG,Vs,Um,Ue,Un,QD,QE,QF,TE])<|Zi 1 2 [7]<|Z9 8<|YO 8 4 [] [] b4 [El (xs++[WA.mk x1.op x1.num x1.into x1.args u1 ys u]) v8,.i b.result]<|de<|Zt 2 [4]<|Zx [] (E6 x1.op)<|Z0<|Ak (fun fz gz F h=>F=sF [3,4,5,10,11,23,24,25] fz [(2,.i (((if Yv x1.op=true then q else q+1):Nat):Int))]/\h=[Ze gz 0,Ze gz 1,Ze gz 5,Ze gz 6,Ze gz 2]) (fun _ _=>rfl) ?_ ?_
  .refine ac (!Yv x1.op) (p:=¬(Yv x1.op=true)) (Yp Iff.rfl) (fun Ym=>?_) fun Ym=>?_
   .exact az<|Z1 1<|ZI q<|Z0<|ZU ⟨rfl,rfl⟩<|wk [0,0,3,3,0]<|fc (x:=.i (q+1:Nat)) (li<|by rw [Z8 Ym]) fl
   exact ak<|ZU ⟨rfl,rfl⟩<|wk [0,0,3,3,0]<|fc (x:=.i q) (li<|by rw [Zg (Wp.1 Ym)]) fl
  rintro F h ⟨rfl,rfl⟩;exact az (ZI k (Z0 (ZK ⟨k+1,(if Yv x1.op=true then q else q+1),(xs++[WA.mk x1.op x1.num x1.into x1.args u1 ys u]),v8,ob,(by split<;>omega),ob,(by rw [Zap,Zaq,WA.er,hK];exact Z3b Z3 Yz),rfl,rfl,rfl⟩ (wk [0,1,1,1,0] (fr (ZM k fl))))))
 exact ax 0<|Zt 1 [0]<|ZD 1 b3 [El xs v,.i b.result]<|ie<|T0 (tB [4,3] [.many (Vt xs),.tail v 5] (Vt xs++((v,5)::[])) (Vs<|XP.mk xs v b.result)<|by simp [QH,QC,K3,K4,K5,K6,K1,Vt,WY,QG,Vs,Um,Ue,Un,QD,QE,QF,TE])<|ZC<|r3 [0] [.agg [El xs v,.i b.result]] [1] [(b3,b3)] ⟨(XP.mk xs v b.result),rfl,rfl,(by rw [XP.er,FT,Z3a om Yz])⟩<|lr _
def Zes (n:Zm) (hn:YZ n) (k:Nat):∀(b2:Z6) (m2:Nat) (a2:List Yn) (K2:LI),(wB n.1 b2)->(a2.length+b2.pz<=800000000)->(m2+4*b2.pz<=900000000)->(∀x,x∈K2↔TF a2 x=true)->(b2.pz<k)->Zj 23 [.agg [ZQ n.1,YV n],ZV b2,.i m2,Xc a2,.val<|.func (.func 24) #[] #[]] [] (fun r h=>∃(y:XP),r=Qu y/\h=[.many (Vs y)]/\y.er=ruB n.1 K2 b2):=by
 induction k with
 | zero=>intro b mm am K _ _ _ _ h;omega
 | succ k ih=>intro b mm am K h1 h2 h3 h4 h5;exact Zeu n b mm am K hn h1 h2 h3 h4 fun b2 m2 a2 K2 k1 k2 k3 k4 k5=>ih b2 m2 a2 K2 k1 k2 k3 k4 om
def Zet (n:Zm) (b:Z6) (mm:Nat) (am:List Yn) (kept:LI) (hn:YZ n:=by exact ob) (hw:wB n.1 b:=by exact ob) (hal:am.length+b.pz<=800000000:=by exact ob) (hb:mm+4*b.pz<=900000000:=by exact ob) (hkp:∀x,x∈kept↔TF am x=true):Zj 23 [.agg [ZQ n.1,YV n],ZV b,.i mm,Xc am,.val<|.func (.func 24) #[] #[]] [] (fun r h=>∃(y:XP),r=Qu y/\h=[.many (Vs y)]/\y.er=ruB n.1 kept b):=Zes n hn (b.pz+1) b mm am kept hw hal hb hkp om
def Zev (n:Zm) (rt:Y9) (b:Z6) (bs:Nat) (hn:YZ n:=by exact ob) (hw:wB n.1 b:=by exact ob) (hp:rt.1.length<=4:=by exact ob) (hb:b.pz<=200000000:=by exact ob):Zj 22 [Kh rt,ZV b,.p bs 0] [.obj bs [ZQ n.1,YV n]] (fun r h=>∃(y:XP),r=Qu y/\h=[.many (Vs y),.obj bs [ZQ n.1,YV n]]/\y.er=ruB n.1 [] b):=by
 refine ZF 12 Tryz.func22<|ar (iA (Qg rt) fun b1=>iA (Xb b) fun b2=>iA [nl,.i 0] fun b3=>ie<|Zt 4 [3,1,2]<|iw (Yg rt.1)<|ic [] (Wf.args_le (Zet n b rt.1.length [] [] (hkp:=(fun x=>by simp [TF])))<|.cons (lr _)<|.cons (lr _)<|.cons (lr _)<|.cons (Zd.forget []<|some Z0z)<|.cons (lr _) .nil) ?_);rintro _ _ ⟨y1,rfl,rfl,ZX⟩;exact ZD 1 b3 (MH y1)<|ie<|ZC<|r3 [1,3] [Qu y1] [0] [(b3,b3)] ⟨y1,U,U,ob⟩<|lr _
def Zer (n:Zm) (bs:Nat) (hn:YZ n:=by exact ob) (hz:WF n:=by exact ob) (hbt:∀r∈n.2,0<=YY n r.params r.body):Zj 21 [Yq n,.val<|.func (.func 22) #[] #[.pointer (some ⟨bs,0,none⟩)]] [.obj bs [ZQ n.1,YV n]] (fun r h=>∃(y:QR),r=Gi y/\h=[.many (TE y),.obj bs [ZQ n.1,YV n]]/\y.er=Zm.mk n.1 (n.2.map<|VM n.1)):=by
 have hzl:=hn.len;refine ZF 40 Tryz.func21<|ar (iA (YI n) fun b1=>iA [nl,nl] fun b2=>ie<|Zt 2 [1]<|ic [] (Zel n.1 (hd:=hn.decls)) ?_);rintro _ _ ⟨ys1,w1,rfl,rfl,ZX⟩;have hde:=ZX;refine Z1 1 (iA [nl,nl] fun b3=>?_);refine ZD 0 b3 [Dg ys1 w1,nl]<|ie<|Yh 2 [4]<|iw (U1 n.2)<|Z0<|ab 0<|Qv 5<|T0 (tB [] [] [] (Un [])<|by simp [QH,QC,K3,K4,K5,K6,K1,Vt,WY,QG,Vs,Um,Ue,Un,QD,QE,QF,TE])<|Y2 (fun fz gz m F h=>∃(k:Nat) (xs:List Vn) (v:Value),(k<=n.2.length)/\(xs.map Vn.er=(n.2.take k).map (VM n.1))/\(xs.length=k)/\F=sF [1,4,5,13,14] fz [(15,.i k)]/\h=[.obj b3 [Dg ys1 w1,FC xs v],Ze gz 3,Ze gz 5,Ze gz 7,.tail v 5,Ze gz 4,.many<|Un xs]/\m=n.2.length-k) _ _ _ ⟨0,[],(.slice none 0 0),ob,rfl,rfl,rfl,rfl,rfl⟩ (wk [2,2,3,4,1,1,0]<|Y7 fl) ?_;rintro m F h ⟨k,xs,v,Ye,Zk,Zw,rfl,rfl,rfl⟩;refine ZB<|aq (XK ((k:Int)<(n.2.length:Int)) (fun Za=>?_) fun Za=>?_)
 .refine ak<|aq<|ab 1<|ar ?_;obtain ⟨x1,Z3⟩:=Zs n.2 k om;have hrm:=Y0 Z3;have hbz:=hz.body _ hrm;have hpl:=hn.params_at Z3;have hll:=hn.lent_at Z3;have hwb:=Ir hn hz hbt _ hrm;have hpb:=Z6.pz_le (x1).body;refine Zo (Zl none (k:Int) 5<|WG Z3)<|Z1 1 (iA [nl,nl,.i 0,nl,.i 0] fun b4=>ZD 0 b4 (Qg x1)<|ie<|aE 20<|ZJ 8 20 [0,1,2,3,5,6,8,9,10,11,12,13] [1,0,0,0,0,0]<|Z9 4<|dc 4 [] [0,0,0,0,1] [b4,b4,b4,b4,b3] (EV x1.params) ?_);rintro _ _ ⟨v1,rfl,rfl⟩;refine Z9 7<|dc 7 [] [0,0,0,1] [b4,b4,b4,b3] (EV x1.lent) ?_;rintro _ _ ⟨v2,rfl,rfl⟩;refine Z9 14<|dc 14 [6] [0,1] [b4,b3] (Zev _ x1 x1.body bs (hw:=hwb)) ?_;rintro _ _ ⟨y1,rfl,rfl,Yf⟩;exact Zi 4 5 [15]<|Z9 16 (dL 16 [2] [b3] (Qm [Vn.mk x1.params v1 x1.lent v2 x1.result (XP.mk y1.steps y1.sv y1.result)]) 1 5 fun v3=>Yw 3 3 [] [(35,Zhc [Vn.mk x1.params v1 x1.lent v2 x1.result (XP.mk y1.steps y1.sv y1.result)])]<|Z9 17 (dp 17 9 [] [] (Qm (xs++[Vn.mk x1.params v1 x1.lent v2 x1.result (XP.mk y1.steps y1.sv y1.result)])) (Qm xs) (Qm [Vn.mk x1.params v1 x1.lent v2 x1.result (XP.mk y1.steps y1.sv y1.result)]) v none 5 (Rc _) (Rc _) (Zaa _) (by simp<;>omega) (by simp [Za9,Qm]) fun v4=>JP (tB [11,5,4,2] [.many (Un xs),.tail v1 1,.tail v2 1,.many<|Vs y1] (Un xs++((v1,1)::((v2,1)::(Vs y1++[])))) (Un (xs++[Vn.mk x1.params v1 x1.lent v2 x1.result (XP.mk y1.steps y1.sv y1.result)]))<|by simp [QH,QC,K3,K4,K5,K6,K1,Vt,WY,QG,Vs,Um,Ue,Un,QD,QE,QF,TE,Zdm,XP.steps,XP.sv])<|Zi 1 2 [18]<|Z9 19<|YO 19 5 [] [] b3 [Dg ys1 w1,FC (xs++[Vn.mk x1.params v1 x1.lent v2 x1.result (XP.mk y1.steps y1.sv y1.result)]) v4]<|de<|az<|ZI k<|Z0<|ZK ⟨k+1,(xs++[Vn.mk x1.params v1 x1.lent v2 x1.result (XP.mk y1.steps y1.sv y1.result)]),v4,ob,(Zh8 Zk Z3<|by show Y9.mk _ _ _ (XP.er<|XP.mk y1.steps y1.sv y1.result)=Y9.mk _ _ _ _;rw [XP.eta];exact Ys (Y9.mk x1.params x1.lent x1.result)<|by assumption),(by simp [Zw]),rfl,rfl,rfl⟩<|wk [0,5,5,3,1,3,0]<|ZM k fl))
 exact ax 0<|Zt 1 [0]<|ZD 2 b2 [Dg ys1 w1,FC xs v]<|ie<|T0 (tB [2,4,4,3] [.many (Ue ys1),.tail w1 3,.many<|Un xs,.tail v 5] (Ue ys1++((w1,3)::(Un xs++((v,5)::[])))) (TE<|QR.mk ys1 w1 xs v)<|by simp [QH,QC,K3,K4,K5,K6,K1,Vt,WY,QG,Vs,Um,Ue,Un,QD,QE,QF,TE])<|ZC<|r3 [0,2] [.agg [Dg ys1 w1,FC xs v]] [1] [(b2,b2)] ⟨(QR.mk ys1 w1 xs v),rfl,rfl,(by show Zm.mk (ys1.map VA.er) (xs.map Vn.er)=_;rw [hde,Zk,Vc om])⟩<|lr _
def Zez (k:Nat):∀(b2:Z6) (cc:Nat) (g:Hd) (c2:LI) (q2:Int),(CB c2 q2)->(0<=q2/\q2+b2.sz<=4000000000000)->(b2.sz<=1000000000)->(b2.sz<k)->Zj 32 [ZV b2,.val<|.func (.func 33) #[] #[.pointer (some ⟨cc,0,none⟩)]] [.obj cc [.h g],rV g c2] (fun r h=>h=[.obj cc [.h g],rV g<|VE b2 c2]):=by
 induction k with
 | zero=>intro b cc g c q _ _ _ h;omega
 | succ k ih=>intro b cc g c q h1 h2 h3 h4;exact Zf1 b cc g c q h1 h2 h3 fun b2 cc2 g2 c2 q2 k1 k2 k3 k4=>ih b2 cc2 g2 c2 q2 k1 k2 k3 om
def Zf0 (b:Z6) (cc:Nat) (g:Hd) (c0:LI) (q:Int) (hcb:CB c0 q:=by exact ob) (hq:0<=q/\q+b.sz<=4000000000000:=by exact ob) (hz:b.sz<=1000000000:=by exact ob):Zj 32 [ZV b,.val<|.func (.func 33) #[] #[.pointer (some ⟨cc,0,none⟩)]] [.obj cc [.h g],rV g c0] (fun r h=>h=[.obj cc [.h g],rV g<|VE b c0]):=Zez (b.sz+1) b cc g c0 q hcb hq hz om
def Sk (n:Zm) (hz:WF n:=by exact ob) (hr:∀r∈n.2,r.4.rng):Zj 9 [Yq n] [] (fun r h=>∃(w:Hd),r=.h w/\h=[rV w (if Wo n=true then Ti n else [])]):=by
 refine ZF 23 Tryz.func9<|ar (iA (YI n) fun b1=>Z0<|Yh 1 [0]<|Zx [] (Sm n (hr:=hr)) (YH (!Wo n) (p:=¬(Wo n=true)) (Yp Iff.rfl) (fun Za=>?_) fun Za=>?_))
 .exact ZB<|T0 A8<|ZC<|r2 [0] [nl] ⟨hN,rfl,rfl⟩ (Zd.hd (v:=hN)) (eq:=(rv (xs:=[]) (by rw [Z8 Za]) rz))
 have hV:Wo n=true:=Wp.1 Za;obtain ⟨hn,hvt⟩:=EE hz hV;have hzl:=hn.len;refine ak<|ar (iVM 4 fun v1=>iA [nl] fun b2=>?_);refine ZD 0 b2 [.h v1]<|ie<|Yh 2 [2]<|iw (U1 n.2)<|Z0<|ab 0<|Y2 (fun fz gz m F h=>∃(k:Nat) (c:LI),(k<=n.2.length)/\(CB c (10000000*k))/\(Th (n.2.drop k) c=Ti n)/\F=sF [3,11,12] fz [(13,.i k)]/\h=[Ze gz 0,rV v1 c]/\m=n.2.length-k) _ _ _ ⟨0,(List.replicate 4 0),ob,⟨rfl,fun x hx=>by simp at hx;omega⟩,rfl,rfl,rfl,rfl⟩ (wk [0,0]<|Y7 fl) ?_;rintro m F h ⟨k,c,Ye,Zk,Zw,rfl,rfl,rfl⟩;refine ZB<|aq (XK ((k:Int)<(n.2.length:Int)) (fun Zf=>?_) fun Zf=>?_)
 .refine ak<|aq<|ab 1<|ar ?_;obtain ⟨x1,Z3⟩:=Zs n.2 k om;have hrm:=Y0 Z3;have hbz:=hz.body _ hrm;refine Zo (Zl none (k:Int) 5<|WG Z3)<|Z1 1 (iA [nl,nl,.i 0,nl,.i 0] fun b3=>ZD 0 b3 (Qg x1)<|ie<|az<|ZL 3 [0]<|ic [1,1] (Zf0 x1.4 b2 v1 c (10000000*(k:Int)) (hcb:=Zk)) ?_);rintro _ _ rfl;exact ie<|az<|ZI k<|Z0<|ZK ⟨k+1,(VE x1.4 c),ob,((Zk.b x1.4 om).le om),(Pw Z3 Zw),U,U,U⟩<|wk [0,0]<|ZM k fl
 exact ax 0<|Bn [0]<|ZC<|r1 [1] ⟨v1,rfl,rfl⟩ (eq:=(rv (xs:=c) (by rw [Zg hV];exact Pv om Zw) rz))
def Zee (n:Zm) (hz:WF n) (hr:∀r∈n.2,r.body.rng):Zj 6 [Yq n] [] (fun r h=>∃(y:QR),r=.tup [Gi y,.b<|(ZP n).2]/\h=[.many (TE y)]/\y.er=(ZP n).1):=by
 refine ZF 25 Tryz.func6<|ar (iA (YI n) fun b1=>iA [nl,nl] fun b2=>Z0<|Yh 1 [1]<|Zx [] (Zed n (hr:=hr))<|Z1 2 (ib (b:=(!UQ n)) 9 (fun Zb=>?_) fun Zb=>?_))
 .have ZX:¬(UQ n=true):=((Yp Iff.rfl)).1 Zb;refine Z0<|Wc<|Y5 1<|ZD 0 b2 [nl,nl]<|Z0 ?_;have hE:ZP n=(Ck,false):=Z8 fun z=>ZX z.1
  exact Qv 5<|Qv 3<|T0 (tB [0,0] [.tail (.slice none 0 0) 3,.tail (.slice none 0 0) 5] (((.slice none 0 0),3)::(((.slice none 0 0),5)::[])) (TE<|QR.mk [] (.slice none 0 0) []<|.slice none 0 0)<|by simp [QH,QC,K3,K4,K5,K6,K1,Vt,WY,QG,Vs,Um,Ue,Un,QD,QE,QF,TE])<|ZC<|r3 [0] [.agg [nl,nl],.b false] [1] [(b2,b2)] ⟨(QR.mk [] (.slice none 0 0) []<|.slice none 0 0),rfl,rfl,(by rw [hE];rfl)⟩<|Zd.tup<|.cons (lr _)<|.cons (lb<|by rw [hE]) .nil
 have Yf:¬(¬(UQ n=true)):=Y8 (Yp Iff.rfl) Zb;refine ZL 1 [1]<|ic [] (Sk n (hr:=hr)) ?_;rintro _ _ ⟨w1,rfl,rfl⟩;have hB:UQ n=true:=Wp.1 Yf;obtain ⟨hn,hsg,hbt⟩:=Gp hz hB;have hV:Wo n=true:=by rw [UQ,We] at hB;exact hB.1
 have hcl:(if Wo n=true then Ti n else []).length=4:=by rw [Zg hV];exact (Gy n.2 rfl).1
 refine Zo (Wg 0 w1 (if Wo n=true then Ti n else []) 3 3) ?_;obtain ⟨x1,Z3⟩:=Zs (if Wo n=true then Ti n else []) 3 om;have hgc:gI (Ti n) 3=x1:=by have h:=WH (i:=3) Z3;rw [Zg hV] at h;exact h
 refine WW (VO 0 w1 (if Wo n=true then Ti n else []) 3 x1 Z3) (Y4 (x1>0) (fun Za=>?_) fun Za=>?_)
 .refine Y5 1<|ZD 1 b2 [nl,nl]<|Z0 ?_;have hE:ZP n=(Ck,false):=Z8 fun z=>z.2 (by rw [hgc];exact Za)
  exact Qv 5<|Qv 3<|T0 (tB [0,0] [.tail (.slice none 0 0) 3,.tail (.slice none 0 0) 5] (((.slice none 0 0),3)::(((.slice none 0 0),5)::[])) (TE<|QR.mk [] (.slice none 0 0) []<|.slice none 0 0)<|by simp [QH,QC,K3,K4,K5,K6,K1,Vt,WY,QG,Vs,Um,Ue,Un,QD,QE,QF,TE])<|ZC<|r3 [0] [.agg [nl,nl],.b false] [1] [(b2,b2)] ⟨(QR.mk [] (.slice none 0 0) []<|.slice none 0 0),rfl,rfl,(by rw [hE];rfl)⟩<|Zd.tup<|.cons (lr _)<|.cons (lb<|by rw [hE]) .nil
 refine ak<|Zt 1 [2]<|Zx [] (Ss n ob ob)<|Z1 3 (iA [nl,nl] fun b3=>ZD 0 b3 [ZQ n.1,YV n]<|Z0<|Zt 2 [3]<|ic [0] (Zer n b3 (hbt:=hbt)) ?_);rintro _ _ ⟨y1,rfl,rfl,YK⟩;have hy:y1.er=Va n:=YK;refine ZD 3 b2 (MI y1)<|Z0 ?_;have hE:ZP n=(Va n,true):=Zg ⟨hB,by rw [hgc];exact Za⟩;exact ZC<|r3 [1] [Gi y1,.b true] [0] [(b2,b2)] ⟨y1,rfl,rfl,(by rw [hE];exact hy)⟩<|Zd.tup<|.cons (lr _)<|.cons (lb<|by rw [hE]) .nil
def Zll (b:Z6) (c0:LI) (q:Int) (hcb:CB c0 q) (hq:0<=q/\q+b.sz<=4000000000000) (hz:b.sz<=1000000000) (ih:∀(b2:Z6) (c2:LI) (q:Int),(CB c2 q)->(0<=q/\q+b2.sz<=4000000000000)->(b2.sz<=1000000000)->(b2.sz<b.sz)->Zj 67 [ZV b2,Z5 c2] [] fun r h=>∃(w:Hd),r=.h w/\h=[rV w (VE b2 c2)]):Zj 67 [ZV b,Z5 c0] [] (fun r h=>∃(w:Hd),r=.h w/\h=[rV w (VE b c0)]):=by
 have hbz:=U7 b;have hbe:=b.sz_eq;have hlc0:=hcb.len;refine ZF 67 Tryz.func67<|ar (iA (Xb b) fun b1=>Z0<|Y5 1<|ic [] (BO c0) ?_);rintro _ _ ⟨v1,rfl,rfl⟩;refine Z0<|Yj<|ab 0<|Y2 (fun fz gz m F h=>∃(k:Nat) (c:LI) (w:Hd),(k<=b.steps.length)/\(CB c (q+Ya (b.steps.take k)))/\(WV (b.steps.drop k) c=WV b.steps c0)/\F=sF [2] fz [(5,.h w),(6,.i k)]/\h=[Ze gz 1,rV w c]/\m=b.steps.length-k) _ _ _ ⟨0,c0,v1,ob,(hcb.le<|by rw [List.take_zero,Ya];omega),rfl,rfl,rfl,rfl⟩ (wk [1,0]<|fr<|Y7 fl) ?_;rintro m F h ⟨k,c,w,Ye,Zk,Zw,rfl,rfl,rfl⟩;refine Yh 3 [0]<|iw (V8 b.steps) (Y4 ((k:Int)<(b.steps.length:Int)) (fun Za=>?_) fun Za=>?_)
 .refine ak<|aq<|ab 1<|Yh 3 [0] ?_;obtain ⟨x1,Z3⟩:=Zs b.steps k om;have Xg:=BQ Z3;have hlc:=Zk.len;have hkz:=T6 x1;have htk:=G5 Z3;have htl:=Ku b.steps (k+1);have hse:=x1.sz_eq;refine Zo (Zl none (k:Int) 5<|Wi Z3)<|Z1 2<|Zx [] (NV x1.op)<|ie<|XY (fun fz gz F h=>∃(w2:Hd),F=sF [2,6] fz [(5,.h w2)]/\h=[Ze gz 0,rV w2<|UR x1.op c]) ?_ ?_
  .refine ac (Yv x1.op) Iff.rfl (fun Zf=>?_) fun Zf=>?_
   .have hr:=PR Zf;have hgx:0<=gI c (x1.op-14)/\gI c (x1.op-14)<=q+Ya (b.steps.take k):=Zk.at om;refine aE 21<|ZJ 17 21 [0,1,2,3] [0]<|dx 4 (Zl none (k:Int) 5<|Wi Z3)<|Zi 14 16 [5,6]<|da 7 ((x1.op-14)) ((x1.op)-(14))<|ZJ 9 13 [8,9,10,11] [0]<|dx 12 (Zl none (k:Int) 5<|Wi Z3)<|Zi 6 8 [13,14]<|da 15 ((x1.op-14)) ((x1.op)-(14))<|dx 16 (Wg 1 w c (x1.op-14) ((x1.op-14).toNat) (hq:=rfl)) ?_;obtain ⟨x2,Zr⟩:=Zs c ((x1.op-14).toNat) om;have hgy:=WH Zr;exact Us 17 (VO 1 w c ((x1.op-14).toNat) x2 Zr)<|da 18 ((x2+1)) ((x2)+(1))<|dx 19 (Wg 1 w c (x1.op-14) ((x1.op-14).toNat) (hq:=rfl))<|Z9 20<|Al 20 1 [] [] w c ((x1.op-14).toNat) (x2+1)<|de<|ZU ⟨w,rfl,rfl⟩<|wk [1,0] fl (e:=(rc<|rv (xs:=(c.set ((x1.op-14).toNat) (x2+1))) (by rw [Pq Zf,hgy]) rz))
   exact ak<|ZU ⟨w,U,U⟩<|wk [0,0] fl (e:=(rc<|rv (xs:=c) (Pp Zf).symm rz))
  rintro F h ⟨w2,rfl,rfl⟩;refine ZB (ab 2 (Y2 (fun fz gz m F h=>∃(j:Nat) (c2:LI) (u:Hd),(j<=x1.kids.length)/\(CB c2 (q+Ya (b.steps.take k)+1+YT (x1.kids.take j)))/\(V5 (x1.kids.drop j) c2=V5 x1.kids (UR x1.op c))/\F=sF [2,6] fz [(5,.h u),(7,.i j)]/\h=[Ze gz 0,rV u c2]/\m=x1.kids.length-j) _ _ _ ⟨0,(UR x1.op c),w2,ob,((Zk.one om x1.op).le (by rw [List.take_zero,YT];omega)),rfl,rfl,rfl,rfl⟩ (wk [0,0] (fr (Y7 fl))) ?_));rintro m F h ⟨j,c2,u,VZ,XB,Xw,rfl,rfl,rfl⟩;refine Yh 4 [0] (Zo (Zl none (k:Int) 5 (Wi Z3)) (Z1 2 (iw (U0 x1.kids) (Y4 ((j:Int)<(x1.kids.length:Int)) (fun ZA=>?_) fun ZA=>?_))))
  .refine ak<|aq<|ab 3<|az<|ZL 3 [0]<|Zo (Zl none (k:Int) 5<|Wi Z3)<|Z1 3 ?_;obtain ⟨x3,YG⟩:=Zs x1.kids j om;have hks:=T5 YG;have hbt:=DG YG;refine Zo (Zl none (j:Int) 2<|Ux YG)<|Z1 2<|Sh [1] [rV u c2] (ih x3 c2 (q+Ya (b.steps.take k)+1+YT (x1.kids.take j)) XB ob ob ob) Jh (gS<|gL (v:=u) 0 gN) (Uu T7) ?_;rintro _ _ ⟨w1,rfl,rfl⟩;exact Z0<|az<|Z1 1<|ZI j<|Z0<|ZK ⟨j+1,(VE x3 c2),w1,ob,(by rw [WO YG,L4];exact ((XB.b x3 om).le om)),(Ps YG Xw),rfl,rfl,rfl⟩<|wk [2,0]<|fr<|ZM j fl
  have hKe:=Pr om Xw;have hbj:=ET (xs:=x1.kids) (k:=j) om;exact ax 2<|az<|Z1 1<|ZI k<|Z0<|ZK ⟨k+1,(V5 x1.kids<|UR x1.op c),u,ob,(by rw [<-hKe];exact XB.le om),(Pz Z3 Zw),rfl,rfl,rfl⟩<|wk [0,0] (fr<|ZM k fl) (e:=(rc<|rv (xs:=c2) hKe rz))
 exact ax 0<|ar<|Zp<|r1 [1] ⟨w,rfl,rfl⟩ (eq:=(rv (xs:=c) (by rw [Lc];exact Py om Zw) rz))
def Zlj (k:Nat):∀(b2:Z6) (c2:LI) (q:Int),(CB c2 q)->(0<=q/\q+b2.sz<=4000000000000)->(b2.sz<=1000000000)->(b2.sz<k)->Zj 67 [ZV b2,Z5 c2] [] (fun r h=>∃(w:Hd),r=.h w/\h=[rV w (VE b2 c2)]):=by
 induction k with
 | zero=>intro b c q _ _ _ h;omega
 | succ k ih=>intro b c q h1 h2 h3 h4;exact Zll b c q h1 h2 h3 fun b2 c2 q2 k1 k2 k3 k4=>ih b2 c2 q2 k1 k2 k3 om
def Zlk (b:Z6) (c0:LI) (q:Int) (hcb:CB c0 q:=by exact ob) (hq:0<=q/\q+b.sz<=4000000000000:=by exact ob) (hz:b.sz<=1000000000:=by exact ob):Zj 67 [ZV b,Z5 c0] [] (fun r h=>∃(w:Hd),r=.h w/\h=[rV w (VE b c0)]):=Zlj (b.sz+1) b c0 q hcb hq hz om
def Zlm (n:Zm) (hn:YZ n:=by exact ob) (hz:WF n:=by exact ob):Zj 26 [Yq n] [] (fun r h=>∃(w:Hd),r=.h w/\h=[rV w (Ti n)]):=by
 have hzl:=hn.len;refine ZF 22 Tryz.func26<|ar (iA (YI n) fun b1=>Z0<|ar (Mr [0,0,0,0] 4 fun v1=>?_));refine Z0<|Yj<|ab 0<|Y2 (fun fz gz m F h=>∃(k:Nat) (c:LI) (w:Hd),(k<=n.2.length)/\(CB c (10000000*k))/\(Th (n.2.drop k) c=Ti n)/\F=sF [1] fz [(3,.h w),(4,.i k)]/\h=[Ze gz 1,rV w c]/\m=n.2.length-k) _ _ _ ⟨0,[0,0,0,0],v1,ob,⟨rfl,fun x hx=>by simp at hx;omega⟩,rfl,rfl,rfl,rfl⟩ (wk [1,0]<|fr<|Y7 fl) ?_;rintro m F h ⟨k,c,w,Ye,Zk,Zw,rfl,rfl,rfl⟩;refine Yh 3 [0]<|iw (U1 n.2) (Y4 ((k:Int)<(n.2.length:Int)) (fun Za=>?_) fun Za=>?_)
 .refine ak<|aq<|ab 1<|az<|ZL 3 [0] ?_;obtain ⟨x1,Z3⟩:=Zs n.2 k om;have hrm:=Y0 Z3;have hbz:=hz.body _ hrm;refine Zo (Zl none (k:Int) 5<|WG Z3)<|Z1 3<|Sh [1] [rV w c] (Zlk x1.4 c (10000000*(k:Int)) (hcb:=Zk)) Jh (gS<|gL (v:=w) 0 gN) (Uu T7) ?_;rintro _ _ ⟨w1,rfl,rfl⟩;exact Z0<|az<|Z1 1<|ZI k<|Z0<|ZK ⟨k+1,(VE x1.4 c),w1,ob,((Zk.b x1.4 om).le om),(Pw Z3 Zw),U,U,U⟩<|wk [2,0]<|fr<|ZM k fl
 exact ax 0<|ar<|Zp<|r1 [1] ⟨w,U,U⟩ (eq:=(rv (xs:=c) (Pv om Zw) rz))
def Zlu (n:Zm) (hn:YZ n:=by exact ob) (hz:WF n:=by exact ob) (hbt:∀r∈n.2,0<=YY n r.1 r.4) (hnr:∀r∈n.2,T9 r.4):Zj 27 [Yq n] [] (Yr<|Yq<|Va n):=by
 have hzl:=hn.len;refine ZF 38 Tryz.func27<|ar (iA (YI n) fun b1=>iA [nl,nl] fun b2=>ie<|Zt 2 [1]<|Zx [] (Cy n.1 (hd:=hn.decls)) (iL (YS []) 0 5 fun v1=>Z1 1 (iA [nl,nl] fun b3=>?_)));refine ZD 0 b3 [ZQ n.1,WJ [] v1]<|ie<|Yj<|ab 0<|Y2 (fun fz gz m F h=>∃(k:Nat) (v:Value),(k<=n.2.length)/\F=sF [1,2,3] fz [(4,.i k)]/\h=[.obj b3 [ZQ n.1,WJ ((n.2.take k).map<|VM n.1) v],Ze gz 2,Ze gz 3,.tail v 5]/\m=n.2.length-k) _ _ _ ⟨0,v1,ob,U,U,U⟩ (wk [0,1,1,0]<|Y7 fl) ?_;rintro m F h ⟨k,v,Ye,rfl,rfl,rfl⟩;refine Yh 3 [2]<|iw (U1 n.2) (Y4 ((k:Int)<(n.2.length:Int)) (fun Za=>?_) fun Za=>?_)
 .refine ak<|aq<|ab 1<|aE 21<|ZJ 16 21 [0,1,2,3,4] [0,2] ?_;obtain ⟨x1,Z3⟩:=Zs n.2 k om;have hrm:=Y0 Z3;have hbz:=hz.body _ hrm;have hpl:=hn.params_at Z3;have hll:=hn.lent_at Z3;have hwb:=Ir hn hz hbt _ hrm;exact dx 5 (Zl none (k:Int) 5<|WG Z3)<|ZJ 10 15 [6,7,8,9,10] [2,2]<|dx 11 (Zl none (k:Int) 5<|WG Z3)<|Zi 7 9 [12,13]<|Z9 14 (dL 14 [2,2,2,0] [b1,b1,b1,b3] (Z7 []) 0 1 fun v2=>Yw 6 6 [] [(31,Z5 [])]<|Z9 15<|Yu 15 [] [2,0] [b1,b3] (Z4e n x1.4 [] (hw:=hwb) (hn2:=(Cl<|hnr _ hrm)))<|Z9 16<|Yu 16 [] [0] [b3] (Dm x1<|ruB n.1 [] x1.4)<|Z9 17 (dL 17 [0] [b3] (YS [Y9.mk x1.1 x1.2 x1.result (ruB n.1 [] x1.4)]) 1 5 fun v3=>Yw 3 3 [] [(34,KV [Y9.mk x1.1 x1.2 x1.result (ruB n.1 [] x1.4)])]<|Z9 18 (dp 18 5 [] [] (YS<|(n.2.take (k+1)).map<|VM n.1) (YS<|(n.2.take k).map<|VM n.1) (YS [Y9.mk x1.1 x1.2 x1.result (ruB n.1 [] x1.4)]) v none 5 (T2 _) (T2 _) (Bj _) (by simp<;>omega) (by rw [WO Z3];simp [YS,VM]) fun v4=>Zi 1 2 [19]<|Z9 20<|YO 20 3 [] [] b3 [ZQ n.1,WJ ((n.2.take (k+1)).map<|VM n.1) v4]<|de<|az<|Z1 1<|ZI k<|Z0<|ZK ⟨k+1,v4,ob,rfl,rfl,rfl⟩<|wk [0,3,3,0]<|ZM k fl)))
 exact ax 0<|Zt 1 [0]<|ZD 1 b2 [ZQ n.1,WJ ((n.2.take k).map<|VM n.1) v]<|ie<|ZC<|r3 [] [.agg [ZQ n.1,WJ ((n.2.take k).map<|VM n.1) v]] [0] [(b2,b2)] ⟨rfl,rfl⟩<|Zd.agg<|.cons (Zd.sl _<|Ys YF ob)<|.cons (Zd.sl _<|Ys YS<|by rw [Vc om];rfl) .nil
def Z42 (n:Zm) (hz:WF n:=by exact ob):Zj 7 [Yq n] [] (Yr<|.tup [Yq ((ZP n).1),.b<|(ZP n).2]):=by
 refine ZF 17 Tryz.func7<|ar (iA (YI n) fun b1=>iA [nl,nl] fun b2=>Z0<|Yh 1 [1]<|Zx [] (Zlc n)<|Z1 2 (ib (b:=(!UQ n)) 7 (fun Zb=>?_) fun Zb=>?_))
 .have ZX:¬(UQ n=true):=((Yp Iff.rfl)).1 Zb;refine Z0<|Wc<|Y5 1<|ZD 0 b2 [nl,nl]<|Z0 ?_;have hE:ZP n=(Ck,false):=Z8 fun z=>ZX z.1
  exact ZC<|r3 [] [.agg [nl,nl],.b false] [0] [(b2,b2)] ⟨rfl,rfl⟩<|Zd.tup<|.cons (Zd.agg<|.cons (Zd.sl _<|by rw [hE];rfl)<|.cons (Zd.sl _<|by rw [hE];rfl) .nil)<|.cons (lb<|by rw [hE]) .nil
 have Yf:¬(¬(UQ n=true)):=Y8 (Yp Iff.rfl) Zb;refine ZL 1 [1]<|ic [] (Zlm n (hn:=(Gp hz<|Wp.1 Yf).1)) ?_;rintro _ _ ⟨w1,rfl,rfl⟩;have hB:UQ n=true:=Wp.1 Yf;obtain ⟨hn,hsg,hbt⟩:=Gp hz hB;have hcl:(Ti n).length=4:=(Gy n.2 rfl).1;refine Zo (Wg 0 w1 (Ti n) 3 3) ?_;obtain ⟨x1,Z3⟩:=Zs (Ti n) 3 om;have hgc:gI (Ti n) 3=x1:=WH (i:=3) Z3;refine WW (VO 0 w1 (Ti n) 3 x1 Z3) (Y4 (x1>0) (fun Za=>?_) fun Za=>?_)
 .refine Y5 1<|ZD 1 b2 [nl,nl]<|Z0 ?_;have hE:ZP n=(Ck,false):=Z8 fun z=>z.2 (by rw [hgc];exact Za)
  exact ZC<|r3 [] [.agg [nl,nl],.b false] [0] [(b2,b2)] ⟨rfl,rfl⟩<|Zd.tup<|.cons (Zd.agg<|.cons (Zd.sl _<|by rw [hE];rfl)<|.cons (Zd.sl _<|by rw [hE];rfl) .nil)<|.cons (lb<|by rw [hE]) .nil
 refine ak<|Zt 1 [2]<|Zx [] (Zlu n (hbt:=hbt) (hnr:=(PE<|by rw [hgc];exact Za)))<|ZD 1 b2 (YI<|Va n)<|Z0 ?_;have hE:ZP n=(Va n,true):=Zg ⟨hB,by rw [hgc];exact Za⟩;exact ZC<|r3 [] [Yq (Va n),.b true] [0] [(b2,b2)] ⟨rfl,rfl⟩<|Zd.tup<|.cons (Zd.agg<|.cons (Zd.sl _<|Ys YF<|by rw [hE])<|.cons (Zd.sl _<|Ys YS<|by rw [hE]) .nil)<|.cons (lb<|by rw [hE]) .nil
def Mt (n:Zm) (hz:WF n:=by exact ob) (hr:∀r∈n.2,r.4.rng):Zj 6 [Yq n] [] (Yr<|.tup [Yq ((ZP n).1),.b<|(ZP n).2]):=((Zee n hz hr).alone fun r h ⟨y,e1,e2,e3⟩=>by rw [e1,<-e3];exact Zd.tup<|.cons (Z77 y)<|.cons (Zd.refl _) .nil)
def Ms (n:Zm) (hz:WF n:=by exact ob) (hr:∀r∈n.2,r.4.rng):Zj 9 [Yq n] [] (Yr<|Z5<|cF n):=(Wf.frzI<|Sk n hz hr)
def Hy (xs ys:LI) (hxl:xs.length<=1000000000:=by exact ob) (hyl:ys.length<=1000000000:=by exact ob):Zj 29 [Z5 xs,Z5 ys] [] (Yr<|.b<|decide (xs=ys)):=by
 refine ZF 26 Tryz.func29<|ZB<|YE 1<|iw (Yg xs)<|Z1 1<|iw (Yg ys) (YH ((xs.length:Int) != (ys.length:Int)) Yb (fun Za=>?_) fun Za=>?_)
 .exact ar<|Zp<|ZW (.b false)<|lb (decide_eq_false fun z=>Za<|by rw [z]).symm
 refine ak<|Yj<|ab 0<|Y2 (fun fz gz m F h=>∃(k:Nat),(k<=xs.length)/\(∀i,i<k->xs[i]? = ys[i]?)/\F=sF [0,1] fz [(5,.i k)]/\h=gz/\m=xs.length-k) _ _ _ ⟨0,ob,(fun i h=>absurd h om),U,U,U⟩ (wk []<|Y7 fl) ?_;rintro m F h ⟨k,Ye,Zk,rfl,rfl,rfl⟩;refine YE 2<|iw (Yg xs) (Y4 ((k:Int)<(xs.length:Int)) (fun Zf=>?_) fun Zf=>?_)
 .refine ak<|aq<|ab 1<|aD 9<|Zi 7 9 [0,1] ?_;obtain ⟨x1,Z3⟩:=Zs xs k om;refine dx 2 (Zl none (k:Int) 1<|Y3 Z3)<|Zi 3 6 [3,4,5] ?_;obtain ⟨x2,Zr⟩:=Zs ys k om;refine dx 6 (Zl none (k:Int) 1<|Y3 Zr)<|Zi 0 2 [7,8]<|de (ac (x1 != x2) Yb (fun ZA=>?_) fun ZA=>?_)
  .exact ar<|Zp<|ZW (.b false)<|lb (decide_eq_false fun z=>ZA<|by rw [z,Zr] at Z3;cases Z3;rfl).symm
  exact ak<|az<|Z1 1<|ZI k<|Z0<|ZK ⟨k+1,ob,(fun i h=>(Nat.lt_succ_iff_lt_or_eq.1 h).elim (Zk i) fun z=>by rw [z,Z3,Zr,Wp.1 ZA]),rfl,rfl,rfl⟩<|wk []<|ZM k fl
 exact ax 0<|ar<|Zp<|ZW (.b true)<|lb (decide_eq_true (Zao om fun i hi=>Zk i om)).symm
def Zge (ds es:List Zh) (hd:Ja ds:=by exact ob) (he:Ja es:=by exact ob):Zj 28 [ZQ ds,ZQ es] [] (Yr<|.b<|decide (ds=es)):=by
 have hdl:=hd.len;have hel:=he.len;refine ZF 87 Tryz.func28<|ZB<|YE 1<|iw (Uy ds)<|Z1 1<|iw (Uy es) (YH ((ds.length:Int) != (es.length:Int)) Yb (fun Za=>?_) fun Za=>?_)
 .exact ar<|Zp<|ZW (.b false)<|lb (decide_eq_false fun z=>Za<|by rw [z]).symm
 refine ak<|Yj<|ab 0<|Y2 (fun fz gz m F h=>∃(k:Nat),(k<=ds.length)/\(∀i,i<k->ds[i]? = es[i]?)/\F=sF [0,1] fz [(5,.i k)]/\h=gz/\m=ds.length-k) _ _ _ ⟨0,ob,Gc,U,U,U⟩ (wk []<|Y7 fl) ?_;rintro m F h ⟨k,Ye,Zk,rfl,rfl,rfl⟩;refine YE 2<|iw (Uy ds) (Y4 ((k:Int)<(ds.length:Int)) (fun Zf=>?_) fun Zf=>?_)
 .refine ak<|aq<|ab 1<|aq<|aD 39<|Zi 37 39 [0,1] ?_;obtain ⟨x1,Z3⟩:=Zs ds k om;have hcl:=hd.cons_at Z3;refine dx 2 (Zl none (k:Int) 3<|V6 Z3)<|Zi 32 36 [3,4,5,6] ?_;obtain ⟨x2,Zr⟩:=Zs es k om;refine dx 7 (Zl none (k:Int) 3<|V6 Zr)<|AH [0,1,5] [(56,.b ((x1.frm != x2.frm)||((x1.to_ != x2.to_)||((x1.cons.length:Int) != (x2.cons.length:Int)))))] (fun gz=>gz) ?_ ?_
  .refine Zi 27 31 [8,9,10,11] (db (b:=(x1.frm != x2.frm)) 29 (fun Zb=>?_) fun Zb=>?_)
   .have ZX:x1.frm≠x2.frm:=(Yb).1 Zb;exact Zi 0 27 [12,13,14,15,16,17,18,19,20,21,22,23,24,25,26,27,28,29,30,31,32,33,34,35,36,37,38]<|de<|wk []<|Zu true Zb fl
   have Yf:¬(x1.frm≠x2.frm):=Y8 Yb Zb;refine Zi 25 27 [12,13]<|dx 14 (Zl none (k:Int) 3<|V6 Z3)<|Zi 20 24 [15,16,17,18]<|dx 19 (Zl none (k:Int) 3<|V6 Zr)<|Zi 14 19 [20,21,22,23,24] (db (b:=(x1.to_ != x2.to_)) 42 (fun ZE=>?_) fun ZE=>?_)
   .have YK:x1.to_≠x2.to_:=(Yb).1 ZE;exact Zi 0 14 [25,26,27,28,29,30,31,32,33,34,35,36,37,38]<|de<|wk []<|Zu true (And.intro Zb ZE) fl
   have YW:¬(x1.to_≠x2.to_):=Y8 Yb ZE;exact Zi 12 14 [25,26]<|dx 27 (Zl none (k:Int) 3<|V6 Z3)<|Zi 9 11 [28,29]<|dw 30 (UJ x1.cons)<|Zi 6 8 [31,32]<|dx 33 (Zl none (k:Int) 3<|V6 Zr)<|Zi 3 5 [34,35]<|dw 36 (UJ x2.cons)<|Zi 0 2 [37,38]<|de<|wk []<|Zu ((x1.cons.length:Int) != (x2.cons.length:Int)) (And.intro Zb ZE) fl
  refine ac ((x1.frm != x2.frm)||((x1.to_ != x2.to_)||((x1.cons.length:Int) != (x2.cons.length:Int)))) (p:=(x1.frm≠x2.frm)∨((x1.to_≠x2.to_)∨((x1.cons.length:Int)≠(x2.cons.length:Int)))) (Yi Yb<|Yi Yb Yb) (fun ZA=>?_) fun ZA=>?_
  .exact ar<|Zp<|ZW (.b false)<|lb (decide_eq_false (DB Z3 Zr fun z=>by rw [z] at ZA;simp at ZA)).symm
  simp only [not_or,ne_eq,Wp,decide_eq_true_eq] at ZA;obtain ⟨hq1,hq2,hq3⟩:=ZA;refine ak<|ZB<|ab 2<|Y2 (fun fz gz m F h=>∃(j:Nat),(j<=x1.cons.length)/\(∀i,i<j->x1.cons[i]? = x2.cons[i]?)/\F=sF [0,1,5] fz [(6,.i j)]/\h=gz/\m=x1.cons.length-j) _ _ _ ⟨0,ob,Gc,U,U,U⟩ (wk []<|Y7 fl) ?_;rintro m F h ⟨j,VZ,XB,rfl,rfl,rfl⟩;refine YE 3<|Zo (Zl none (k:Int) 3<|V6 Z3)<|Z1 2<|iw (UJ x1.cons) (Y4 ((j:Int)<(x1.cons.length:Int)) (fun Ym=>?_) fun Ym=>?_)
  .refine ak<|aq<|ab 3<|aD 20<|Zi 18 20 [0,1]<|dx 2 (Zl none (k:Int) 3<|V6 Z3)<|Zi 14 17 [3,4,5] ?_;obtain ⟨x3,YG⟩:=Zs x1.cons j om;refine dx 6 (Zl none (j:Int) 1<|Bh YG)<|Zi 9 13 [7,8,9,10]<|dx 11 (Zl none (k:Int) 3<|V6 Zr)<|Zi 5 8 [12,13,14] ?_;obtain ⟨x4,WM⟩:=Zs x2.cons j om;refine dx 15 (Zl none (j:Int) 1<|Bh WM)<|Zi 2 4 [16,17]<|Z9 18<|Yu 18 [] [] [] (Hy x3.fields x4.fields (hxl:=(Vy (hd.fields_at Z3 YG)<|by decide)) (hyl:=(Vy (he.fields_at Zr WM)<|by decide)))<|Zi 0 1 [19]<|de (ac (!(decide (x3.fields=x4.fields))) (p:=¬(x3.fields=x4.fields)) (Yp dq) (fun Xm=>?_) fun Xm=>?_)
   .exact ar<|Zp<|ZW (.b false)<|lb (decide_eq_false (DB Z3 Zr fun z=>DB YG WM (fun w=>Xm<|Ys Yo.fields w)<|Ys Zh.cons z)).symm
   exact ak<|az<|Z1 1<|ZI j<|Z0<|ZK ⟨j+1,ob,(Gd XB YG WM<|Yo.ext1<|Wp.1 Xm),U,U,U⟩<|wk []<|ZM j fl
  have hE:=Fb (xs:=x1.cons) (ys:=x2.cons) om fun i hi=>XB i om
  exact ax 2<|az<|Z1 1<|ZI k<|Z0<|ZK ⟨k+1,ob,(Gd Zk Z3 Zr<|Zh.ext3 hq1 hq2 hE),U,U,U⟩<|wk []<|ZM k fl
 exact ax 0<|ar<|Zp<|ZW (.b true)<|lb (decide_eq_true (Fb om fun i hi=>Zk i om)).symm
def Zgf (z:Nat) (s t:Z4) (hz:s.sz<=z+1:=by exact ob) (hs:s.sz<=1000000000:=by exact ob) (ht:t.sz<=1000000000:=by exact ob) (ih:∀(a2 b2:Z6),(a2.sz<=z)->(a2.sz<=1000000000)->(b2.sz<=1000000000)->Zj 30 [ZV a2,ZV b2] [] (Yr<|.b<|decide (a2=b2))):Zj 69 [YL s,YL t] [] (Yr<|.b<|decide (s=t)):=by
 have hsa:=Qw s;have hta:=Qw t;have hsk:=T6 s;have htk:=T6 t;refine ZF 61 Tryz.func69<|ar (iA (Xp s) fun b1=>iA (Xp t) fun b2=>Z0<|X6 (XD 12 [2,3] [(17,.b ((s.op != t.op)||(s.num != t.num)))] (fun gz=>gz) ?_ fun hj1=>?_))
 .refine XD 19 [2,3] [(24,.b (((s.op != t.op)||(s.num != t.num))||(s.into != t.into)))] (fun gz=>gz) ?_ fun hj2=>?_
  .refine XD 27 [2,3] [(32,.b ((((s.op != t.op)||(s.num != t.num))||(s.into != t.into))||(!(decide (s.args=t.args)))))] (fun gz=>gz) ?_ fun hj3=>?_
   .refine Xu [2,3] [(41,.b (((((s.op != t.op)||(s.num != t.num))||(s.into != t.into))||(!(decide (s.args=t.args))))||((s.kids.length:Int) != (t.kids.length:Int))))] (fun gz=>gz) ?_ ?_
    .refine Z1 1 (ib (b:=((((s.op != t.op)||(s.num != t.num))||(s.into != t.into))||(!(decide (s.args=t.args))))) 33 (fun Zb=>?_) fun Zb=>?_)
     .have ZX:(((s.op≠t.op)∨(s.num≠t.num))∨(s.into≠t.into))∨(¬(s.args=t.args)):=((Yi (Yi (Yi Yb Yb) Yb)<|Yp dq)).1 Zb;exact Z0<|wk [0,0]<|Zu true Zb fl
     have Yf:¬((((s.op≠t.op)∨(s.num≠t.num))∨(s.into≠t.into))∨(¬(s.args=t.args))):=Y8 (Yi (Yi (Yi Yb Yb) Yb)<|Yp dq) Zb;exact ZL 2 [1]<|iw (U0 s.kids)<|ZL 2 [0]<|iw (U0 t.kids)<|Z0<|wk [0,0]<|Zu ((s.kids.length:Int) != (t.kids.length:Int)) Zb fl
    refine ac (((((s.op != t.op)||(s.num != t.num))||(s.into != t.into))||(!(decide (s.args=t.args))))||((s.kids.length:Int) != (t.kids.length:Int))) (p:=((((s.op≠t.op)∨(s.num≠t.num))∨(s.into≠t.into))∨(¬(s.args=t.args)))∨((s.kids.length:Int)≠(t.kids.length:Int))) (Yi (Yi (Yi (Yi Yb Yb) Yb)<|Yp dq) Yb) (fun Za=>?_) fun Za=>?_
    .exact ar<|Zp<|ZW (.b false)<|lb (decide_eq_false fun z=>by rw [z] at Za;simp at Za).symm
    simp only [not_or,ne_eq,Wp,decide_eq_true_eq] at Za;obtain ⟨⟨⟨⟨hq1,hq2⟩,hq3⟩,hq4⟩,hq5⟩:=Za;refine ak<|Yj<|ab 0<|Y2 (fun fz gz m F h=>∃(k:Nat),(k<=s.kids.length)/\(∀i,i<k->s.kids[i]? = t.kids[i]?)/\F=sF [2,3] fz [(5,.i k)]/\h=gz/\m=s.kids.length-k) _ _ _ ⟨0,ob,Gc,U,U,U⟩ (wk [0,0]<|Y7 fl) ?_;rintro m F h ⟨k,Ye,Zk,rfl,rfl,rfl⟩;refine Yh 3 [1]<|iw (U0 s.kids) (Y4 ((k:Int)<(s.kids.length:Int)) (fun Zf=>?_) fun Zf=>?_)
    .refine ak<|aq<|ab 1<|aD 12<|ZJ 9 12 [0,1,2] [1] ?_;obtain ⟨x1,Z3⟩:=Zs s.kids k om;have hk1:=T5 Z3;refine dx 3 (Zl none (k:Int) 2<|Ux Z3)<|ZJ 4 8 [4,5,6,7] [0] ?_;obtain ⟨x2,Zr⟩:=Zs t.kids k om;have hk2:=T5 Zr;refine dx 8 (Zl none (k:Int) 2<|Ux Zr)<|Zi 2 3 [9]<|Z9 10<|Yu 10 [] [] [] (ih x1 x2 ob ob ob)<|Zi 0 1 [11]<|de (ac (!(decide (x1=x2))) (p:=¬(x1=x2)) (Yp dq) (fun ZA=>?_) fun ZA=>?_)
     .exact ar<|Zp<|ZW (.b false)<|lb (decide_eq_false fun z=>DB Z3 Zr ZA<|Ys Z4.kids z).symm
     exact ak<|az<|Z1 1<|ZI k<|Z0<|ZK ⟨k+1,ob,(Gd Zk Z3 Zr<|Wp.1 ZA),U,U,U⟩<|wk [0,0]<|ZM k fl
    exact ax 0<|ar<|Zp<|ZW (.b true)<|lb (decide_eq_true<|Z4.ext4 hq1 hq2 hq3 hq4 (Fb om fun i hi=>Zk i om)).symm
   refine Z1 1 (ib (b:=(((s.op != t.op)||(s.num != t.num))||(s.into != t.into))) 25 (fun ZE=>?_) fun ZE=>?_)
   .have YK:((s.op≠t.op)∨(s.num≠t.num))∨(s.into≠t.into):=((Yi (Yi Yb Yb) Yb)).1 ZE;exact Z1 7<|Yt (wk [0,0]<|Zu true ZE fl) hj3
   have YW:¬(((s.op≠t.op)∨(s.num≠t.num))∨(s.into≠t.into)):=Y8 (Yi (Yi Yb Yb) Yb) ZE;exact ZL 4 [1,0]<|Zx [] (Hy s.args t.args)<|Z1 2<|Yt (wk [0,0]<|Zu (!(decide (s.args=t.args))) ZE fl) hj3
  refine Z1 1 (ib (b:=((s.op != t.op)||(s.num != t.num))) 18 (fun Yx=>?_) fun Yx=>?_)
  .have Xl:(s.op≠t.op)∨(s.num≠t.num):=((Yi Yb Yb)).1 Yx;exact Z1 6<|Yt (wk [0,0]<|Zu true Yx fl) hj2
  have XS:¬((s.op≠t.op)∨(s.num≠t.num)):=Y8 (Yi Yb Yb) Yx;exact ZL 6 [1,0]<|Yt (wk [0,0]<|Zu (s.into != t.into) Yx fl) hj2
 refine ZL 6 [1,0] (ib (b:=(s.op != t.op)) 11 (fun Xa=>?_) fun Xa=>?_)
 .have Wv:s.op≠t.op:=(Yb).1 Xa;exact Z1 6<|Yt (wk [0,0]<|Zu true Xa fl) hj1
 have WS:¬(s.op≠t.op):=Y8 Yb Xa;exact ZL 6 [1,0]<|Yt (wk [0,0]<|Zu (s.num != t.num) Xa fl) hj1
def Zgc (z:Nat) (a b:Z6) (hz:a.sz<=z+1:=by exact ob) (ha:a.sz<=1000000000:=by exact ob) (hb:b.sz<=1000000000:=by exact ob) (ih:∀(a2 b2:Z6),(a2.sz<=z)->(a2.sz<=1000000000)->(b2.sz<=1000000000)->Zj 30 [ZV a2,ZV b2] [] (Yr<|.b<|decide (a2=b2))):Zj 30 [ZV a,ZV b] [] (Yr<|.b<|decide (a=b)):=by
 have hsa:=U7 a;have hsb:=U7 b;refine ZF 39 Tryz.func30<|ar (iA (Xb a) fun b1=>iA (Xb b) fun b2=>Z0<|X6<|Xu [2,3] [(19,.b ((a.result != b.result)||((a.steps.length:Int) != (b.steps.length:Int))))] (fun gz=>gz) ?_ ?_)
 .refine ZL 6 [1,0] (ib (b:=(a.result != b.result)) 11 (fun Zb=>?_) fun Zb=>?_)
  .have ZX:a.result≠b.result:=(Yb).1 Zb;exact Z0<|wk [0,0]<|Zu true Zb fl
  have Yf:¬(a.result≠b.result):=Y8 Yb Zb;exact ZL 2 [1]<|iw (V8 a.steps)<|ZL 2 [0]<|iw (V8 b.steps)<|Z0<|wk [0,0]<|Zu ((a.steps.length:Int) != (b.steps.length:Int)) Zb fl
 refine ac ((a.result != b.result)||((a.steps.length:Int) != (b.steps.length:Int))) (p:=(a.result≠b.result)∨((a.steps.length:Int)≠(b.steps.length:Int))) (Yi Yb Yb) (fun Za=>?_) fun Za=>?_
 .exact ar<|Zp<|ZW (.b false)<|lb (decide_eq_false fun z=>by rw [z] at Za;simp at Za).symm
 simp only [not_or,ne_eq,Wp,decide_eq_true_eq] at Za;obtain ⟨hq1,hq2⟩:=Za;refine ak<|Yj<|ab 0<|Y2 (fun fz gz m F h=>∃(k:Nat),(k<=a.steps.length)/\(∀i,i<k->a.steps[i]? = b.steps[i]?)/\F=sF [2,3] fz [(5,.i k)]/\h=gz/\m=a.steps.length-k) _ _ _ ⟨0,ob,Gc,U,U,U⟩ (wk [0,0]<|Y7 fl) ?_;rintro m F h ⟨k,Ye,Zk,rfl,rfl,rfl⟩;refine Yh 3 [1]<|iw (V8 a.steps) (Y4 ((k:Int)<(a.steps.length:Int)) (fun Zf=>?_) fun Zf=>?_)
 .refine ak<|aq<|ab 1<|aD 12<|ZJ 9 12 [0,1,2] [1] ?_;obtain ⟨x1,Z3⟩:=Zs a.steps k om;have hk1:=A7 Z3;refine dx 3 (Zl none (k:Int) 5<|Wi Z3)<|ZJ 4 8 [4,5,6,7] [0] ?_;obtain ⟨x2,Zr⟩:=Zs b.steps k om;have hk2:=A7 Zr;refine dx 8 (Zl none (k:Int) 5<|Wi Zr)<|Zi 2 3 [9]<|Z9 10<|Yu 10 [] [] [] (Zgf z x1 x2 (ih:=ih))<|Zi 0 1 [11]<|de (ac (!(decide (x1=x2))) (p:=¬(x1=x2)) (Yp dq) (fun ZA=>?_) fun ZA=>?_)
  .exact ar<|Zp<|ZW (.b false)<|lb (decide_eq_false fun z=>DB Z3 Zr ZA<|Ys Z6.steps z).symm
  exact ak<|az<|Z1 1<|ZI k<|Z0<|ZK ⟨k+1,ob,(Gd Zk Z3 Zr<|Wp.1 ZA),U,U,U⟩<|wk [0,0]<|ZM k fl
 exact ax 0<|ar<|Zp<|ZW (.b true)<|lb (decide_eq_true<|Z6.ext2 (Fb om fun i hi=>Zk i om) hq1).symm
def Zgd (m:Nat):∀(a2:Z6) (b2:Z6),(a2.sz<=m)->(a2.sz<=1000000000)->(b2.sz<=1000000000)->Zj 30 [ZV a2,ZV b2] [] (Yr<|.b<|decide (a2=b2)):=by
 induction m with
 | zero=>intro a b h;have:=a.sz_pos;omega
 | succ m ih=>intro a b h1 h2 h3;exact Zgc m a b h1 h2 h3 ih
def Zgb (a b:Z6) (ha:a.sz<=1000000000:=by exact ob) (hb:b.sz<=1000000000:=by exact ob):Zj 30 [ZV a,ZV b] [] (Yr<|.b<|decide (a=b)):=Zgd a.sz a b (X8 _) ha hb
def Fw (n t:Zm) (hn:WF n:=by exact ob) (ht:WF t:=by exact ob):Zj 8 [Yq n,Yq t] [] (Yr<|.b<|decide (n=t)):=by
 have hnl:=hn.len;have htl:=ht.len;refine ZF 69 Tryz.func8<|ar (iA (YI n) fun b1=>iA (YI t) fun b2=>Z0<|Yh 4 [1,0]<|Zx [] (Zge n.1 t.decls (hd:=hn.decls) (he:=ht.decls))<|Xu [2,3] [(22,.b ((!(decide (n.1=t.decls)))||((n.2.length:Int) != (t.routines.length:Int))))] (fun gz=>gz) ?_ ?_)
 .refine Z1 2 (ib (b:=(!(decide (n.1=t.decls)))) 14 (fun Zb=>?_) fun Zb=>?_)
  .have ZX:¬(n.1=t.decls):=((Yp dq)).1 Zb;exact Z0<|wk [0,0]<|Zu true Zb fl
  have Yf:¬(¬(n.1=t.decls)):=Y8 (Yp dq) Zb;exact ZL 2 [1]<|iw (U1 n.2)<|ZL 2 [0]<|iw (U1 t.routines)<|Z0<|wk [0,0]<|Zu ((n.2.length:Int) != (t.routines.length:Int)) Zb fl
 refine ac ((!(decide (n.1=t.decls)))||((n.2.length:Int) != (t.routines.length:Int))) (p:=(¬(n.1=t.decls))∨((n.2.length:Int)≠(t.routines.length:Int))) (Yi (Yp dq) Yb) (fun Za=>?_) fun Za=>?_
 .exact ar<|Zp<|ZW (.b false)<|lb (decide_eq_false fun z=>by rw [z] at Za;simp at Za).symm
 simp only [not_or,ne_eq,Wp,decide_eq_true_eq] at Za;obtain ⟨hq1,hq2⟩:=Za;refine ak<|Yj<|ab 0<|Y2 (fun fz gz m F h=>∃(k:Nat),(k<=n.2.length)/\(∀i,i<k->n.2[i]? = t.routines[i]?)/\F=sF [2,3] fz [(5,.i k)]/\h=gz/\m=n.2.length-k) _ _ _ ⟨0,ob,Gc,U,U,U⟩ (wk [0,0]<|Y7 fl) ?_;rintro m F h ⟨k,Ye,Zk,rfl,rfl,rfl⟩;refine Yh 3 [1]<|iw (U1 n.2) (Y4 ((k:Int)<(n.2.length:Int)) (fun Zf=>?_) fun Zf=>?_)
 .refine ak<|aq<|ab 1<|Zt 3 [1] ?_;obtain ⟨x1,Z3⟩:=Zs n.2 k om;have hm1:=Y0 Z3;have ha1:=hn.params _ hm1;have ha2:=hn.lent _ hm1;have ha3:=hn.body _ hm1;refine Zo (Zl none (k:Int) 5<|WG Z3)<|Z1 1 (iA [nl,nl,.i 0,nl,.i 0] fun b3=>ZD 0 b3 (Qg x1)<|ie<|Zt 3 [1] ?_);obtain ⟨x2,Zr⟩:=Zs t.routines k om;have hm2:=Y0 Zr;have ha4:=ht.params _ hm2;have ha5:=ht.lent _ hm2;have ha6:=ht.body _ hm2;refine Zo (Zl none (k:Int) 5<|WG Zr)<|Z1 1 (iA [nl,nl,.i 0,nl,.i 0] fun b4=>ZD 0 b4 (Qg x2)<|ie<|Zt 4 [1,0]<|Zx [] (Hy x1.1 x2.1) (XD 14 [2,3,5,6,7] [(53,.b ((!(decide (x1.1=x2.1)))||(!(decide (x1.2=x2.2)))))] (fun gz=>gz) ?_ fun hj1=>?_))
  .refine XD 21 [2,3,5,6,7] [(60,.b (((!(decide (x1.1=x2.1)))||(!(decide (x1.2=x2.2))))||(x1.result != x2.result)))] (fun gz=>gz) ?_ fun hj2=>?_
   .refine Xu [2,3,5] [(68,.b ((((!(decide (x1.1=x2.1)))||(!(decide (x1.2=x2.2))))||(x1.result != x2.result))||(!(decide (x1.4=x2.4)))))] (fun gz=>gz) ?_ ?_
    .refine Z1 1 (ib (b:=(((!(decide (x1.1=x2.1)))||(!(decide (x1.2=x2.2))))||(x1.result != x2.result))) 61 (fun ZE=>?_) fun ZE=>?_)
     .have YK:((¬(x1.1=x2.1))∨(¬(x1.2=x2.2)))∨(x1.result≠x2.result):=((Yi (Yi (Yp dq)<|Yp dq) Yb)).1 ZE;exact Z0<|ZH 4<|Zu true ZE fl
     have YW:¬(((¬(x1.1=x2.1))∨(¬(x1.2=x2.2)))∨(x1.result≠x2.result)):=Y8 (Yi (Yi (Yp dq)<|Yp dq) Yb) ZE;exact ZL 4 [1,0]<|Zx [] (Zgb x1.4 x2.4)<|Z0<|ZH 4<|Zu (!(decide (x1.4=x2.4))) ZE fl
    refine ac ((((!(decide (x1.1=x2.1)))||(!(decide (x1.2=x2.2))))||(x1.result != x2.result))||(!(decide (x1.4=x2.4)))) (p:=(((¬(x1.1=x2.1))∨(¬(x1.2=x2.2)))∨(x1.result≠x2.result))∨(¬(x1.4=x2.4))) (Yi (Yi (Yi (Yp dq)<|Yp dq) Yb)<|Yp dq) (fun ZA=>?_) fun ZA=>?_
    .exact ar<|Zp<|ZW (.b false)<|lb (decide_eq_false fun z=>DB Z3 Zr (fun w=>by rw [w] at ZA;simp at ZA)<|Ys Zm.routines z).symm
    simp only [not_or,ne_eq,Wp,decide_eq_true_eq] at ZA;obtain ⟨⟨⟨hw1,hw2⟩,hw3⟩,hw4⟩:=ZA;exact ak<|az<|Z1 1<|ZI k<|Z0<|ZK ⟨k+1,ob,(Gd Zk Z3 Zr<|Y9.ext4 hw1 hw2 hw3 hw4),U,U,U⟩<|wk [2,2]<|ZM k fl
   refine Z1 1 (ib (b:=((!(decide (x1.1=x2.1)))||(!(decide (x1.2=x2.2))))) 54 (fun Yx=>?_) fun Yx=>?_)
   .have Xl:(¬(x1.1=x2.1))∨(¬(x1.2=x2.2)):=((Yi (Yp dq)<|Yp dq)).1 Yx;exact Z1 6<|Yt (ZH 4<|Zu true Yx fl) hj2
   have XS:¬((¬(x1.1=x2.1))∨(¬(x1.2=x2.2))):=Y8 (Yi (Yp dq)<|Yp dq) Yx;exact ZL 6 [1,0]<|Yt (ZH 4<|Zu (x1.result != x2.result) Yx fl) hj2
  refine Z1 2 (ib (b:=(!(decide (x1.1=x2.1)))) 46 (fun Xa=>?_) fun Xa=>?_)
  .have Wv:¬(x1.1=x2.1):=((Yp dq)).1 Xa;exact Z1 7<|Yt (ZH 4<|Zu true Xa fl) hj1
  have WS:¬(¬(x1.1=x2.1)):=Y8 (Yp dq) Xa;exact ZL 4 [1,0]<|Zx [] (Hy x1.2 x2.2)<|Z1 2<|Yt (ZH 4<|Zu (!(decide (x1.2=x2.2))) Xa fl) hj1
 exact ax 0<|ar<|Zp<|ZW (.b true)<|lb (decide_eq_true<|Zm.ext2 hq1 (Fb om fun i hi=>Zk i om)).symm
def Zbl (rd:Nat) (bs:LI) (p:Nat) (ZO:∀z∈bs,0<=z/\z<=255) (hp:p+147500000<=1000000000:=by exact ob):Zj 14 [.p rd 0] [YD rd bs p] (fun r h=>∃(n2:Zm) (p2:Nat),r=Yq n2/\h=[YD rd bs p2]/\ZS n2 7330632 11/\p<=p2/\p2<=p+147500000):=by
 refine ZF 7 Tryz.func14<|ar (iA [nl,nl] fun b1=>ie<|Y5 2<|ic [1] (Zbo rd bs p (ZO:=ob)) ?_);rintro _ _ ⟨n1,p21,rfl,rfl,ZX⟩;have hbf:=ZX.1.zs;refine ic [0] (Mf rd bs p21 n1 14 7330630 10 (ZO:=ob) (hzn:=hbf)) ?_;rintro _ _ ⟨n21,p22,rfl,rfl,Yf⟩;have hsf:=Yf;exact ZD 1 b1 (YI n21)<|ie<|ZC<|r3 [1] [Yq n21] [0] [(b1,b1)] ⟨n21,p22,rfl,rfl,⟨hsf.1,by omega,by omega⟩⟩<|lr _
def RM (code:LI) (hcl:code.length<=1048576:=by exact ob) (hcb:∀z∈code,0<=z/\z<=255):Zj 5 [UD code] [] (fun r h=>∃(n2:Zm),r=Yq n2/\h=[]/\ZS n2 7330632 11):=by
 refine ZF 24 Tryz.func5<|ar (iA [nl,nl] fun b1=>ie<|Y5 1<|ic [] (Zct code (hc:=hcb)) ?_);rintro _ _ ⟨rd1,bs1,rfl,rfl,ZX⟩;have hnr:=ZX;refine Z0<|YE 1<|ic [0] (Wm rd1 bs1 0 8 (ZO:=hnr)) ?_;rintro _ _ ⟨k1,rfl,rfl,Yf⟩;refine YH (k1==0) Zq (fun Za=>?_) fun Za=>?_
 .refine Y5 1<|ic [0] (Zbl rd1 bs1 (0+1) (ZO:=hnr)) ?_;rintro _ _ ⟨n21,p21,rfl,rfl,YK⟩;have hab:=YK;exact ZD 1 b1 (YI n21)<|ie<|ZC<|r3 [] [Yq n21] [0] [(b1,b1)] ⟨n21,rfl,rfl,(by first|exact hab.1|exact hsf.1)⟩<|lr _
 refine ak<|Y5 1<|ic [0] (RS rd1 bs1 (0+1) (ZO:=hnr)) ?_;rintro _ _ ⟨n1,p22,rfl,rfl,YW⟩;have hcf:=YW.1;have hcw:=hcf.wn om;have Xg:=hcw.sp.zn;refine Zx [] (S3 n1 (hn:=hcf.fn.ok) (hz:=(hcw.zn.sz om)) (hwb:=(fun r hr=>(hcf.wl om r hr).w))) (iA [nl,nl] fun b2=>ZD 0 b2 (YI<|Dl n1)<|ie<|YE 1<|ic [1] (Wm rd1 bs1 p22 4 (ZO:=hnr)) ?_);rintro _ _ ⟨k2,rfl,rfl,Xl⟩;refine YH (k2==0) Zq (fun Zf=>?_) fun Zf=>?_
 .refine az<|ZL 2 [1]<|ic [0] (Mc rd1 bs1 (p22+1) (Dl n1) (ZO:=hnr) (hz:=(Xg.sz om)) (hl1:=(by have:=Xg.len;omega))) ?_;rintro _ _ ⟨n22,p23,rfl,rfl,XS⟩;have hho:=XS;refine ZD 1 b2 (YI n22)<|ie<|Zt 2 [0]<|ic [1] (Mf rd1 bs1 p23 n22 16 7330630 10 (ZO:=hnr) (hzn:=(by first|exact ((Xg.held hho.1).le om).zs|exact (Xg.le om).zs))) ?_;rintro _ _ ⟨n23,p24,rfl,rfl,Wv⟩;have hsf:=Wv;exact ZD 2 b1 (YI n23)<|ie<|ZC<|r3 [] [Yq n23] [0] [(b1,b1)] ⟨n23,rfl,rfl,(by first|exact hab.1|exact hsf.1)⟩<|lr _
 refine ak<|Zt 2 [1]<|ic [0] (Mf rd1 bs1 (p22+1) (Dl n1) 16 7330630 10 (ZO:=hnr) (hzn:=(by first|exact ((Xg.held hho.1).le om).zs|exact (Xg.le om).zs))) ?_;rintro _ _ ⟨n24,p25,rfl,rfl,WS⟩;have hsf:=WS;exact ZD 2 b1 (YI n24)<|ie<|ZC<|r3 [] [Yq n24] [0] [(b1,b1)] ⟨n24,rfl,rfl,(by first|exact hab.1|exact hsf.1)⟩<|lr _
def Z0c (n:Zm) (hz:WF n:=by exact ob):Zj 10 [Yq n] [] (Yr<|.i<|G0 n):=by
 have hzl:=hz.len;refine ZF 22 Tryz.func10<|ar (iA (YI n) fun b1=>?_);refine Z0<|ZB<|Yj<|ab 0<|Y2 (fun fz gz m F h=>∃(k:Nat),(k<=n.2.length)/\F=sF [1] fz [(3,.i<|UW<|n.2.take k),(4,.i k)]/\h=gz/\m=n.2.length-k) _ _ _ ⟨0,ob,U,U,U⟩ (wk [0]<|Y7<|Y7 fl) ?_;rintro m F h ⟨k,Ye,rfl,rfl,rfl⟩;refine Yh 3 [0]<|iw (U1 n.2) (Y4 ((k:Int)<(n.2.length:Int)) (fun Za=>?_) fun Za=>?_)
 .have hsb:=Z3w (xs:=n.2.take k);rw [WK,Vz Ye] at hsb;refine ak<|aq<|ab 1<|az<|ZL 4 [0] ?_;obtain ⟨x1,Z3⟩:=Zs n.2 k om;have hrm:=Y0 Z3;have hbz:=hz.body _ hrm;have hst:=Z4z (x1).body;have htk:UW (n.2.take (k+1))=UW (n.2.take k)+VG (x1).body:=by rw [WO Z3,Z3v]
  exact Zo (Zl none (k:Int) 5<|WG Z3)<|Z1 2<|Zx [] (Sl x1.4)<|ia (((UW<|n.2.take k)+(VG x1.4))) (((UW<|n.2.take k))+(VG x1.4))<|Z0<|az<|Z1 1<|ZI k<|Z0<|ZK ⟨k+1,ob,U,U,U⟩<|wk [0]<|fc (x:=.i ((UW<|n.2.take k)+(VG x1.4))) li<|ZM k fl
 exact ax 0<|ar<|Zp<|ZW (.i<|UW<|n.2.take k)<|li (by rw [Vc om];rfl)
def Zga (n:Zm) (q:Nat) (hz:WF n:=by exact ob) (hr:∀r∈n.2,r.4.rng):Zj 11 [Yq n,.i q] [] (Yr<|.i (if q<(cF n).length then gI (cF n) q else -1)):=by
 refine ZF 16 Tryz.func11<|ar (iA (YI n) fun b1=>Z0<|Zt 1 [0]<|Zx [] (Ms n (hr:=hr))<|Z0<|YE 2<|io (.i (((cF n).length:Nat):Int)) (.i (((Z7<|cF n).length:Nat):Int)) (li<|by rw [Yg]) (Y4 ((q:Int)<(((cF n).length:Nat):Int)) (fun Za=>?_) fun Za=>?_))
 .refine Y5 2 ?_;obtain ⟨x1,Z3⟩:=Zs (cF n) q om;exact Zo (Zl none (q:Int) 1<|Y3 Z3)<|Zp<|ZW (.i x1)<|li (by rw [Zg om];exact (WH (i:=(q:Int))<|by rw [Ua];exact Z3).symm)
 exact ak<|ar<|Zp<|ZW (.i (-1))<|li<|by rw [Z8 om]
def Zg8 (code:LI) (hcb:∀z∈code,0<=z/\z<=255):Zj 3 [UD code] [] (Yr<|.b true):=by
 refine ZF 100 Tryz.func3<|ZB<|YE 1<|iw (Jk code) (Y4 ((code.length:Int)>1048576) (fun Za=>?_) fun Za=>?_)
 .exact ar<|Zp<|EC
 have hcl:code.length<=1048576:=by omega
 refine ak<|Y5 1<|ic [] (RM code (hcl:=hcl) (hcb:=hcb)) ?_;rintro _ _ ⟨n21,rfl,rfl,ZX⟩;have hzs:=ZX;have hzn:=hzs.sz om om;have hln:=hzs.len;have hrn:∀r∈n21.routines,r.4.rng:=fun r hr=>(hzs.rt r hr).2.2.2
 have huz:=Z2i hzn;have hur:=Z2h hrn;refine iA [nl,nl] fun b1=>ZD 0 b1 (YI n21)<|ie<|Zt 1 [0]<|Zx [] (Mt n21 (hz:=(by first|exact hzn|exact huz)) (hr:=(by first|exact hrn|exact hur)))<|Z1 3 (iA [nl,nl] fun b2=>ZD 0 b2 (YI<|(ZP n21).1)<|Z0<|Zt 1 [1]<|Zx [] (Z42 n21)<|Z1 3 (iA [nl,nl] fun b3=>ZD 0 b3 (YI<|(ZP n21).1)<|Z0<|Yh 2 [1,0]<|Zx [] (Fw ((ZP n21).1) ((ZP n21).1) (hn:=(by first|exact huz|assumption|exact AT huz|(rw [h22];exact huz))) (ht:=(by first|exact huz|exact hzn|exact AT hzn))) (XD 9 [3,4,5,6,7] [(33,.b ((!(decide (((ZP n21).1)=((ZP n21).1))))||(((ZP n21).2) != ((ZP n21).2))))] (fun gz=>gz) ?_ fun hj1=>?_)))
 .refine Xu [3,4,5,6,7] [(37,.b (((!(decide (((ZP n21).1)=((ZP n21).1))))||(((ZP n21).2) != ((ZP n21).2)))||(!(ZP n21).2)))] (fun gz=>gz) ?_ ?_
  .refine Z1 1 (ib (b:=((!(decide (((ZP n21).1)=((ZP n21).1))))||(((ZP n21).2) != ((ZP n21).2)))) 34 (fun Zb=>?_) fun Zb=>?_)
   .have Yf:(¬(((ZP n21).1)=((ZP n21).1)))∨(((ZP n21).2)≠((ZP n21).2)):=((Yi (Yp dq) Yb)).1 Zb;exact Z0<|ZH 3<|fc (x:=.b true) (lb<|by rw [Zb];rfl) fl
   have YK:¬((¬(((ZP n21).1)=((ZP n21).1)))∨(((ZP n21).2)≠((ZP n21).2))):=Y8 (Yi (Yp dq) Yb) Zb;exact Z0<|ZH 3<|fc (x:=.b (!(ZP n21).2)) (lb<|by rw [Zb];rfl) fl
  refine ac (((!(decide (((ZP n21).1)=((ZP n21).1))))||(((ZP n21).2) != ((ZP n21).2)))||(!(ZP n21).2)) (p:=((¬(((ZP n21).1)=((ZP n21).1)))∨(((ZP n21).2)≠((ZP n21).2)))∨(¬((ZP n21).2=true))) (Yi (Yi (Yp dq) Yb)<|Yp Iff.rfl) (fun Zf=>?_) fun Zf=>?_
  .refine Zt 2 [1,0]<|Zx [] (Fw ((ZP n21).1) ((ZP n21).1) (hn:=(by first|exact huz|assumption|exact AT huz|(rw [h22];exact huz))) (ht:=(by first|exact huz|exact hzn|exact AT hzn))) (XD 8 [] [(45,.b ((decide (((ZP n21).1)=((ZP n21).1)))&&(((ZP n21).2)==((ZP n21).2))))] (fun gz=>gz) ?_ fun hj2=>?_)
   .exact Zp<|ZW (.b ((decide (((ZP n21).1)=((ZP n21).1)))&&(((ZP n21).2)==((ZP n21).2))))<|lb (by first|(simp;done)|(exfalso;omega)|(simp_all;done))
   refine Z1 1 (ib (b:=(decide (((ZP n21).1)=((ZP n21).1)))) 41 (fun ZE=>?_) fun ZE=>?_)
   .have YW:((ZP n21).1)=((ZP n21).1):=(dq).1 ZE;exact Z1 2<|Zo (SH ((ZP n21).2)<|(ZP n21).2)<|Z1 1<|Yt (ZH 3<|fc (x:=.b (((ZP n21).2)==((ZP n21).2))) (lb<|by rw [ZE];rfl) fl) hj2
   have Xl:¬(((ZP n21).1)=((ZP n21).1)):=Y8 dq ZE;exact Z1 4<|Yt (ZH 3<|fc (x:=.b false) (lb<|by rw [ZE];rfl) fl) hj2
  have hk:(ZP n21).2=true:=B0 fun z=>Zf<|.inr z
  have hE:(ZP n21).1=Va n21:=by rw [(FQ hk).2.2]
  obtain ⟨l1,l2,a0,a1,a2,a3⟩:=Z2m hzn hk;rw [<-hE] at l2 a0 a1 a2 a3;have hlu:(ZP n21).1.routines.length<=4:=by rw [hE];show (n21.routines.map _).length<=4;rw [Qq];omega
  refine ak<|Zt 1 [2]<|Zx [] (Ms n21 (hz:=(by first|exact hzn|exact huz)) (hr:=(by first|exact hrn|exact hur)))<|Z0<|Zt 1 [1]<|Zx [] (Ms ((ZP n21).1) (hz:=(by first|exact hzn|exact huz)) (hr:=(by first|exact hrn|exact hur)))<|Z0<|aD 51<|Zi 50 51 [0]<|dn 1 (.i (((cF n21).length:Nat):Int)) (.i (((Z7<|cF n21).length:Nat):Int)) (li<|by rw [Yg])<|Zi 47 49 [2,3] (db (b:=((((cF n21).length:Nat):Int)==4)) 53 (fun Yx=>?_) fun Yx=>?_)
  .have XS:(((cF n21).length:Nat):Int)=4:=(Zq).1 Yx;refine Zi 46 47 [4]<|dn 5 (.i (((cF<|(ZP n21).1).length:Nat):Int)) (.i (((Z7<|cF<|(ZP n21).1).length:Nat):Int)) (li<|by rw [Yg])<|Zi 42 45 [6,7,8] (db (b:=((((cF<|(ZP n21).1).length:Nat):Int)==4)) 58 (fun Xa=>?_) fun Xa=>?_)
   .have Wv:(((cF<|(ZP n21).1).length:Nat):Int)=4:=(Zq).1 Xa;refine Zi 41 42 [9] ?_;obtain ⟨x1,Z3⟩:=Zs (cF n21) 0 om;have hg60:gI (cF n21) 0=x1:=WH (i:=0) Z3;have Zoq:=C8 hzn om _ (Y0 Z3);refine dx 10 (Zl none 0 1<|Y3 Z3)<|Zi 38 40 [11,12] ?_;obtain ⟨x2,Zr⟩:=Zs (cF<|(ZP n21).1) 0 om;have hg63:gI (cF (ZP n21).1) 0=x2:=WH (i:=0) Zr;have Zor:=C8 huz om _ (Y0 Zr);refine dx 13 (Zl none 0 1<|Y3 Zr)<|Zi 33 37 [14,15,16,17] (db (b:=(x1==x2)) 67 (fun WI=>?_) fun WI=>?_)
    .have WS:x1=x2:=(Zq).1 WI;refine Zi 32 33 [18] ?_;obtain ⟨x3,YG⟩:=Zs (cF n21) 1 om;have hg69:gI (cF n21) 1=x3:=WH (i:=1) YG;have Zos:=C8 hzn om _ (Y0 YG);refine dx 19 (Zl none 1 1<|Y3 YG)<|Zi 29 31 [20,21] ?_;obtain ⟨x4,WM⟩:=Zs (cF<|(ZP n21).1) 1 om;have hg72:gI (cF (ZP n21).1) 1=x4:=WH (i:=1) WM;have Zot:=C8 huz om _ (Y0 WM);refine dx 22 (Zl none 1 1<|Y3 WM)<|Zi 24 28 [23,24,25,26] (db (b:=(x3==x4)) 76 (fun V2=>?_) fun V2=>?_)
     .have Vu:x3=x4:=(Zq).1 V2;refine Zi 23 24 [27] ?_;obtain ⟨x5,VU⟩:=Zs (cF n21) 2 om;have hg78:gI (cF n21) 2=x5:=WH (i:=2) VU;have Zou:=C8 hzn om _ (Y0 VU);refine dx 28 (Zl none 2 1<|Y3 VU)<|Zi 20 22 [29,30] ?_;obtain ⟨x6,Ar⟩:=Zs (cF n21) 3 om;have hg81:gI (cF n21) 3=x6:=WH (i:=3) Ar;have Zov:=C8 hzn om _ (Y0 Ar);refine dx 31 (Zl none 3 1<|Y3 Ar)<|Zi 18 19 [32]<|da 33 ((x5+x6)) ((x5)+(x6))<|Zi 16 17 [34] ?_;obtain ⟨x7,Cg⟩:=Zs (cF<|(ZP n21).1) 2 om;have hg85:gI (cF (ZP n21).1) 2=x7:=WH (i:=2) Cg;have Zow:=C8 huz om _ (Y0 Cg);refine dx 35 (Zl none 2 1<|Y3 Cg)<|Zi 13 15 [36,37] ?_;obtain ⟨x8,Mq⟩:=Zs (cF<|(ZP n21).1) 3 om;have hg88:gI (cF (ZP n21).1) 3=x8:=WH (i:=3) Mq;have Zox:=C8 huz om _ (Y0 Mq);refine dx 38 (Zl none 3 1<|Y3 Mq)<|Zi 11 12 [39]<|da 40 ((x7+x8)) ((x7)+(x8))<|Zi 7 10 [41,42,43] (db (b:=((x5+x6)==(x7+x8))) 93 (fun Vi=>?_) fun Vi=>?_)
      .have T4:(x5+x6)=(x7+x8):=(Zq).1 Vi;exact ZJ 5 7 [44,46] [2,1]<|Z9 45<|Yu 45 [] [1] [b2] (Z0c n21 (hz:=(by first|exact hzn|exact huz)))<|Z9 47<|Yu 47 [] [] [] (Z0c ((ZP n21).1) (hz:=(by first|exact hzn|exact huz)))<|Zi 0 3 [48,49,50]<|de<|ZC<|ZW (.b ((G0 n21)==(G0<|(ZP n21).1)))<|lb (by first|(simp;done)|(exfalso;omega)|(simp_all;done))
      have Tn:¬((x5+x6)=(x7+x8)):=Y8 Zq Vi;exact Zi 0 7 [44,45,46,47,48,49,50]<|de<|ZC<|ZW (.b false)<|lb (by first|(simp;done)|(exfalso;omega)|(simp_all;done))
     have To:¬(x3=x4):=Y8 Zq V2;exact Zi 0 24 [27,28,29,30,31,32,33,34,35,36,37,38,39,40,41,42,43,44,45,46,47,48,49,50]<|de<|ZC<|ZW (.b false)<|lb (by first|(simp;done)|(exfalso;omega)|(simp_all;done))
    have K7:¬(x1=x2):=Y8 Zq WI;exact Zi 0 33 [18,19,20,21,22,23,24,25,26,27,28,29,30,31,32,33,34,35,36,37,38,39,40,41,42,43,44,45,46,47,48,49,50]<|de<|ZC<|ZW (.b false)<|lb (by first|(simp;done)|(exfalso;omega)|(simp_all;done))
   have QJ:¬((((cF<|(ZP n21).1).length:Nat):Int)=4):=Y8 Zq Xa;exact Zi 0 42 [9,10,11,12,13,14,15,16,17,18,19,20,21,22,23,24,25,26,27,28,29,30,31,32,33,34,35,36,37,38,39,40,41,42,43,44,45,46,47,48,49,50]<|de<|ZC<|ZW (.b false)<|lb (by first|(simp;done)|(exfalso;omega)|(simp_all;done))
  have Jp:¬((((cF n21).length:Nat):Int)=4):=Y8 Zq Yx;exact Zi 0 47 [4,5,6,7,8,9,10,11,12,13,14,15,16,17,18,19,20,21,22,23,24,25,26,27,28,29,30,31,32,33,34,35,36,37,38,39,40,41,42,43,44,45,46,47,48,49,50]<|de<|ZC<|ZW (.b false)<|lb (by first|(simp;done)|(exfalso;omega)|(simp_all;done))
 refine Z1 2 (ib (b:=(!(decide (((ZP n21).1)=((ZP n21).1))))) 29 (fun WX=>?_) fun WX=>?_)
 .have KQ:¬(((ZP n21).1)=((ZP n21).1)):=((Yp dq)).1 WX;exact Z1 4<|Yt (ZH 3<|fc (x:=.b true) (lb<|by rw [WX];rfl) fl) hj1
 have Bw:¬(¬(((ZP n21).1)=((ZP n21).1))):=Y8 (Yp dq) WX;exact Z1 2<|Zo (SJ ((ZP n21).2)<|(ZP n21).2)<|Z1 1<|Yt (ZH 3<|fc (x:=.b (((ZP n21).2) != ((ZP n21).2))) (lb<|by rw [WX];rfl) fl) hj1
def Zg9 (code:LI) (hcb:∀z∈code,0<=z/\z<=255):Zj 4 [UD code] [] (Yr<|.b true):=by
 refine ZF 62 Tryz.func4<|ZB<|YE 1<|iw (Jk code) (Y4 ((code.length:Int)>1048576) (fun Za=>?_) fun Za=>?_)
 .exact ar<|Zp<|EC
 have hcl:code.length<=1048576:=by omega
 refine ak<|Y5 1<|ic [] (RM code (hcl:=hcl) (hcb:=hcb)) ?_;rintro _ _ ⟨n21,rfl,rfl,ZX⟩;have hzs:=ZX;have hzn:=hzs.sz om om;have hln:=hzs.len;have hrn:∀r∈n21.routines,r.4.rng:=fun r hr=>(hzs.rt r hr).2.2.2
 have huz:=Z2i hzn;have hur:=Z2h hrn;refine iA [nl,nl] fun b1=>ZD 0 b1 (YI n21)<|ie<|Zt 1 [0]<|Zx [] (Mt n21 (hz:=(by first|exact hzn|exact huz)) (hr:=(by first|exact hrn|exact hur)))<|Z1 3 (iA [nl,nl] fun b2=>ZD 0 b2 (YI<|(ZP n21).1)<|Z0<|Zt 1 [1]<|Zx [] (Z42 n21)<|Z1 3 (iA [nl,nl] fun b3=>ZD 0 b3 (YI<|(ZP n21).1)<|Z0<|Yh 2 [1,0]<|Zx [] (Fw ((ZP n21).1) ((ZP n21).1) (hn:=(by first|exact huz|assumption|exact AT huz|(rw [h22];exact huz))) (ht:=(by first|exact huz|exact hzn|exact AT hzn))) (XD 9 [3,4,5,6,7] [(33,.b ((!(decide (((ZP n21).1)=((ZP n21).1))))||(((ZP n21).2) != ((ZP n21).2))))] (fun gz=>gz) ?_ fun hj1=>?_)))
 .refine Xu [3,4,5,6,7] [(37,.b (((!(decide (((ZP n21).1)=((ZP n21).1))))||(((ZP n21).2) != ((ZP n21).2)))||(!(ZP n21).2)))] (fun gz=>gz) ?_ ?_
  .refine Z1 1 (ib (b:=((!(decide (((ZP n21).1)=((ZP n21).1))))||(((ZP n21).2) != ((ZP n21).2)))) 34 (fun Zb=>?_) fun Zb=>?_)
   .have Yf:(¬(((ZP n21).1)=((ZP n21).1)))∨(((ZP n21).2)≠((ZP n21).2)):=((Yi (Yp dq) Yb)).1 Zb;exact Z0<|ZH 3<|fc (x:=.b true) (lb<|by rw [Zb];rfl) fl
   have YK:¬((¬(((ZP n21).1)=((ZP n21).1)))∨(((ZP n21).2)≠((ZP n21).2))):=Y8 (Yi (Yp dq) Yb) Zb;exact Z0<|ZH 3<|fc (x:=.b (!(ZP n21).2)) (lb<|by rw [Zb];rfl) fl
  refine ac (((!(decide (((ZP n21).1)=((ZP n21).1))))||(((ZP n21).2) != ((ZP n21).2)))||(!(ZP n21).2)) (p:=((¬(((ZP n21).1)=((ZP n21).1)))∨(((ZP n21).2)≠((ZP n21).2)))∨(¬((ZP n21).2=true))) (Yi (Yi (Yp dq) Yb)<|Yp Iff.rfl) (fun Zf=>?_) fun Zf=>?_
  .refine Zt 2 [1,0]<|Zx [] (Fw ((ZP n21).1) ((ZP n21).1) (hn:=(by first|exact huz|assumption|exact AT huz|(rw [h22];exact huz))) (ht:=(by first|exact huz|exact hzn|exact AT hzn))) (XD 8 [] [(45,.b ((decide (((ZP n21).1)=((ZP n21).1)))&&(((ZP n21).2)==((ZP n21).2))))] (fun gz=>gz) ?_ fun hj2=>?_)
   .exact Zp<|ZW (.b ((decide (((ZP n21).1)=((ZP n21).1)))&&(((ZP n21).2)==((ZP n21).2))))<|lb (by first|(simp;done)|(rw [Zg om] at ZA;rw [Bv ZA];rfl)|(rw [Zg om] at ZA;obtain ⟨y1,y2⟩:=hys ZA;rw [y1,decide_eq_true y2];rfl))
   refine Z1 1 (ib (b:=(decide (((ZP n21).1)=((ZP n21).1)))) 41 (fun ZE=>?_) fun ZE=>?_)
   .have YW:((ZP n21).1)=((ZP n21).1):=(dq).1 ZE;exact Z1 2<|Zo (SH ((ZP n21).2)<|(ZP n21).2)<|Z1 1<|Yt (ZH 3<|fc (x:=.b (((ZP n21).2)==((ZP n21).2))) (lb<|by rw [ZE];rfl) fl) hj2
   have Xl:¬(((ZP n21).1)=((ZP n21).1)):=Y8 dq ZE;exact Z1 4<|Yt (ZH 3<|fc (x:=.b false) (lb<|by rw [ZE];rfl) fl) hj2
  have hk:(ZP n21).2=true:=B0 fun z=>Zf<|.inr z
  have hE:(ZP n21).1=Va n21:=by rw [(FQ hk).2.2]
  have hl4:(cF (ZP n21).1).length=4:=by rw [hE];exact (Z2m hzn hk).2.1
  have Bv:gI (cF (ZP n21).1) 3>0->(ZP (ZP n21).1).2=false:=by rw [hE];exact Zj6 hzn hk
  have hys:¬gI (cF (ZP n21).1) 3>0->(ZP (ZP n21).1).2=true/\(ZP n21).1=n21:=by rw [hE];exact Zj7 hzn hk
  refine ak<|Zt 1 [1]<|Zx [] (Mt ((ZP n21).1) (hz:=(by first|exact hzn|exact huz)) (hr:=(by first|exact hrn|exact hur)))<|Z1 3 (iA [nl,nl] fun b4=>ZD 0 b4 (YI<|(ZP<|(ZP n21).1).1)<|Z0<|Yh 1 [2]<|Zx [] (Zga ((ZP n21).1) 3 (hz:=huz) (hr:=hur)) (Y4 ((if 3<(cF ((ZP n21).1)).length then gI (cF<|(ZP n21).1) 3 else -1)>0) (fun ZA=>?_) fun ZA=>?_))
  .exact ar<|Zp<|ZW (.b<|!(ZP ((ZP n21).1)).2)<|lb (by first|(simp;done)|(rw [Zg om] at ZA;rw [Bv ZA];rfl)|(rw [Zg om] at ZA;obtain ⟨y1,y2⟩:=hys ZA;rw [y1,decide_eq_true y2];rfl))
  refine ak<|ar (XD 6 [] [(61,.b ((ZP<|(ZP n21).1).2&&(decide (((ZP n21).1)=n21))))] (fun gz=>gz) ?_ fun hj3=>?_)
  .exact Zp<|ZW (.b ((ZP<|(ZP n21).1).2&&(decide (((ZP n21).1)=n21))))<|lb (by first|(simp;done)|(rw [Zg om] at ZA;rw [Bv ZA];rfl)|(rw [Zg om] at ZA;obtain ⟨y1,y2⟩:=hys ZA;rw [y1,decide_eq_true y2];rfl))
  refine Z1 2 (ib (b:=(ZP<|(ZP n21).1).2) 57 (fun Yx=>?_) fun Yx=>?_)
  .have XS:(ZP ((ZP n21).1)).2=true:=(Iff.rfl).1 Yx;exact ZL 2 [2,3]<|Zx [] (Fw ((ZP n21).1) n21 (hn:=(by first|exact huz|assumption|exact AT huz|(rw [h22];exact huz))) (ht:=(by first|exact huz|exact hzn|exact AT hzn)))<|Z1 1<|Yt (ZH 4<|fc (x:=.b (decide (((ZP n21).1)=n21))) (lb<|by rw [Yx];rfl) fl) hj3
  have Wv:¬((ZP<|(ZP n21).1).2=true):=Y8 Iff.rfl Yx;exact Z1 4<|Yt (ZH 4<|fc (x:=.b false) (lb<|by rw [Yx];rfl) fl) hj3
 refine Z1 2 (ib (b:=(!(decide (((ZP n21).1)=((ZP n21).1))))) 29 (fun Xa=>?_) fun Xa=>?_)
 .have WS:¬(((ZP n21).1)=((ZP n21).1)):=((Yp dq)).1 Xa;exact Z1 4<|Yt (ZH 3<|fc (x:=.b true) (lb<|by rw [Xa];rfl) fl) hj1
 have Vu:¬(¬(((ZP n21).1)=((ZP n21).1))):=Y8 (Yp dq) Xa;exact Z1 2<|Zo (SJ ((ZP n21).2)<|(ZP n21).2)<|Z1 1<|Yt (ZH 3<|fc (x:=.b (((ZP n21).2) != ((ZP n21).2))) (lb<|by rw [Xa];rfl) fl) hj1
end Go.Abs
