/-
  A part of the proofs of several laws (see the last file): no condition.
-/
import Derived.Test.YtfjgjacklgaioaaGreatViB
import Derived.Test.YtfjgjacklgaioaaGreatProg
set_option linter.all false
set_option linter.unusedVariables false
set_option linter.unusedSimpArgs false
set_option linter.unusedSectionVars false
set_option maxRecDepth 10000
set_option maxHeartbeats 4000000
namespace Go.Abs
structure HT (g:Wc):Prop where
 gp:GP g
 body:∀f∈g.funcs,eW g.decls g.funcs.length f.params.length f.body/\f.body.sz<=30
structure GL (ds:List Zf) (k j:Nat) (rq:List Func):Prop where
 len:rq.length=4
 sigs:∀f∈rq,Qh f
 zero:∀f,rq[0]? = some f->f.params.length=0
 body:∀i f,j<=i->i<k->rq[i]? = some f->eW ds k f.params.length f.body/\f.body.sz<=30
theorem GL.gp {ds:List Zf} {k j:Nat} {rq:List Func} (h:GL ds k j rq) (hd:GD ds) (hk:1<=k/\k<=4):GP ⟨ds,rq.take k⟩:=
 ⟨hd,by show 1<=(rq.take k).length/\_;rw [WW,h.len];omega,fun f hf=>h.sigs f (Tm hf)⟩
theorem GL.len_take {ds:List Zf} {k j:Nat} {rq:List Func} (h:GL ds k j rq) (hk:k<=4):(rq.take k).length=k:=by rw [WW,h.len];omega
theorem GL.set {ds:List Zf} {k j:Nat} {rq:List Func} {f:Func} {e:Z1} (h:GL ds k j rq) (hj:1<=j) (hf:rq[j-1]? = some f) (he:eW ds k f.params.length e/\e.sz<=30):GL ds k (j-1) (rq.set (j-1) ⟨f.params,f.result,e⟩):=by
 have hl:=(Xq.1 hf).1
 refine ⟨by rw [TN];exact h.len,fun x hx=>?_,fun x hx=>?_,fun i x h1 h2 hx=>?_⟩
 ·rcases List.mem_or_eq_of_mem_set hx with hx|rfl
  ·exact h.sigs x hx
  ·exact h.sigs f (Y0 hf)
 ·rw [List.getElem?_set] at hx
  split at hx
  ·rename_i h0
   cases hx
   exact h.zero f (by rw [<-h0];exact hf)
  ·exact h.zero x hx
 ·rw [List.getElem?_set] at hx
  split at hx
  ·cases hx
   exact he
  ·exact h.body i x om h2 hx
theorem GL.done {ds:List Zf} {k:Nat} {rq:List Func} (h:GL ds k 0 rq) (hd:GD ds) (hk:1<=k/\k<=4):HT ⟨ds,rq.take k⟩:=by
 refine ⟨h.gp hd hk,fun f hf=>?_⟩
 show eW ds (rq.take k).length _ _/\_
 rw [h.len_take hk.2]
 obtain ⟨i,hi⟩:=Fu hf
 have hi2:i<(rq.take k).length:=(Xq.1 hi).1
 rw [h.len_take hk.2] at hi2
 rw [List.getElem?_take_of_lt hi2] at hi
 exact h.body i f om hi2 hi
theorem MF {l:List Func} {f:Func} {k:Nat} (h:l[k]? = some f) (hl:l.all (fun f=>decide ((f.params,f.result)∈Ah))=true):Qh f:=show (f.params,f.result)∈Ah from of_decide_eq_true (Ad.1 hl f (Y0 h))
theorem GL.start {ds:List Zf} {k:Nat} {e:Z1} {a b c:Func} (ha:Qh a) (hb:Qh b) (hc:Qh c):GL ds k k [⟨[],0,e⟩,a,b,c]:=by
 refine ⟨rfl,fun f hf=>?_,fun f hf=>?_,fun i f h1 h2=>by omega⟩
 ·rcases YH.1 hf with rfl|hf
  ·exact List.Mem.head _
  ·rcases YH.1 hf with rfl|hf
   ·exact ha
   ·rcases YH.1 hf with rfl|hf
    ·exact hb
    ·rw [XK.1 hf];exact hc
 ·cases hf;rfl
theorem Zf2 {l:LI} {k:Nat} {a b:Nat} (h:(k:Int)∈l) (hl:l.all (fun x=>decide ((a:Int)<=x/\x<=b))=true):a<=k/\k<=b:=by
 have:=of_decide_eq_true (Ad.1 hl _ h)
 omega
mutual
def JA (p:Int->Prop):Z5->Prop
 | .mk op _ _ _ kids=>p op/\J8 p kids
def J8 (p:Int->Prop):List Z6->Prop
 | []=>True
 | b::r=>Ur p b/\J8 p r
def QX (p:Int->Prop):List Z5->Prop
 | []=>True
 | s::r=>JA p s/\QX p r
def Ur (p:Int->Prop):Z6->Prop
 | .mk steps _=>QX p steps
end
section
variable {p q:Int->Prop}
theorem H7 (s:Z5):JA p s↔p s.op/\J8 p s.kids:=by cases s;rw [JA];rfl
theorem M5 (b:Z6):Ur p b↔QX p b.steps:=by cases b;rw [Ur];rfl
theorem ET:∀{xs:List Z6},J8 p xs↔∀b∈xs,Ur p b
 | []=>by simp [J8]
 | b::r=>by rw [J8,ET];simp
theorem Dx:∀{xs:List Z5},QX p xs↔∀b∈xs,JA p b
 | []=>by simp [QX]
 | b::r=>by rw [QX,Dx];simp
theorem M6 {xs ys:List Z5}:QX p (xs++ys)↔QX p xs/\QX p ys:=by simp only [Dx,Xi];exact ⟨fun h=>⟨fun b hb=>h b (.inl hb),fun b hb=>h b (.inr hb)⟩,fun h b hb=>hb.elim (h.1 b) (h.2 b)⟩
theorem Sn {xs:List Z6} {b:Z6} (h:J8 p xs) (hb:Ur p b):J8 p (xs++[b]):=ET.2 (XS (ET.1 h) hb)
theorem H8 {xs:List Z5} {b:Z5} (h:QX p xs) (hb:JA p b):QX p (xs++[b]):=Dx.2 (XS (Dx.1 h) hb)
end
def WX (op:Int):Prop:=op<=11
def JS (op:Int):Prop:=op<=15
end Go.Abs
section
namespace Go.Abs
structure LW (ds:List Zf) (nf q:Nat) (e:Z1) (ys:List Z5) (v:Int):Prop where
 fs:TT ds nf q ys
 v:0<=v/\v<(q+Xn ys:Nat)
 sz:Yf ys<=6*e.sz
 op:QX WX ys
theorem LW.dn {ds:List Zf} {nf q:Nat} {e:Z1} {ys:List Z5} {v:Int} (h:LW ds nf q e ys v):Xn ys<=6*e.sz/\ys.length<=6*e.sz:=by
 have h1:=BA ys
 have h2:=JG ys
 have h3:=h.sz
 omega
structure LB (ds:List Zf) (nf q:Nat) (e:Z1) (b:Z6):Prop where
 fb:fB ds nf q b
 sz:b.sz<=1+6*e.sz
 op:Ur WX b
section
variable {ds:List Zf} {nf q:Nat}
theorem E8:∀xs ys:List Z6,X3 (xs++ys)=X3 xs+X3 ys
 | [],ys=>by simp [X3]
 | x::r,ys=>by rw [Q2,X3,X3,E8 r];omega
theorem LW.block {e:Z1} {ys:List Z5} {v:Int} (h:LW ds nf q e ys v):LB ds nf q e ⟨ys,v⟩:=
 ⟨by rw [fB];exact ⟨h.fs,h.v⟩,by rw [Z6.sz];have:=h.sz;omega,by rw [Ur];exact h.op⟩
theorem LW.var {e:Z1} {v:Int} (hv:0<=v/\v<q):LW ds nf q e [] v:=⟨True.intro,by simpa [Xn] using hv,by simp [Yf],True.intro⟩
theorem LW.let_ {e a b:Z1} {ys zs:List Z5} {v1 v2:Int} (ha:LW ds nf q a ys v1) (hb:LW ds nf (q+Xn ys) b zs v2) (he:a.sz+b.sz<e.sz):LW ds nf q e (ys++zs) v2:=by
 refine ⟨Er.2 ⟨ha.fs,hb.fs⟩,by rw [AT,<-Bo];exact hb.v,?_,M6.2 ⟨ha.op,hb.op⟩⟩
 have h1:=ha.sz
 have h2:=hb.sz
 rw [Qe];omega
theorem Ei {ys:List Z5} {s:Z5} (h:Yx s.op=false):Xn (ys++[s])=Xn ys+1:=by
 rw [AT]
 simp [Xn,h]
theorem LW.node {e:Z1} {ys:List Z5} {as1:LI} (ho:0<=e.op/\e.op<=11/\e.op≠7/\e.op≠8) (hc:e.op=9->0<=e.num/\e.num<nf) (hn:-2000<=e.num/\e.num<=2000) (hf:TT ds nf q ys) (ha:∀a∈as1,0<=a/\a<(q+Xn ys:Nat)) (hl:as1.length<=4) (hs:Yf ys<=6*XC e.kids) (hop:QX WX ys) :
  LW ds nf q e (ys++[⟨e.op,e.num,0,as1,[]⟩]) ((q+Xn ys:Nat):Int):=by
 have hcb:Yx e.op=false:=by simp [Yx];omega
 refine ⟨G9 hf ?_,?_,?_,H8 hop (by rw [JA];exact ⟨by show e.op<=11;omega,True.intro⟩)⟩
 ·rw [fS]
  exact ⟨.inl ⟨by omega,by omega⟩,ha,fun h=>by omega,fun h=>by omega,fun h=>by omega,fun h=>by omega,hc,hn,by omega,hl,fun _=>rfl,True.intro⟩
 ·rw [Ei (show Yx (Z5.mk e.op e.num 0 as1 []).op=false from hcb)];omega
 ·rw [Qe,e.sz_eq]
  simp only [Yf,Z5.sz,X3]
  omega
theorem LW.branch {e:Z1} {ys:List Z5} {v:Int} {bs:List Z6} {s0 sr:Nat} (ho:e.op=7∨e.op=8) (h7:e.op=7->bs.length=2) (h8:e.op=8->bs.length=(ZW ds e.num).length) (hn:-2000<=e.num/\e.num<=2000) (hf:TT ds nf q ys) (hv:0<=v/\v<(q+Xn ys:Nat))
  (hb:Qm ds nf (Qz ds e.op e.num (q+Xn ys)) 0 bs) (hl:bs.length<=3) (h0:Yf ys<=6*s0) (h1:X3 bs<=bs.length+6*sr) (hs:s0+sr<=XC e.kids) (hop:QX WX ys) (hob:J8 WX bs):LW ds nf q e (ys++[⟨e.op,e.num,0,[v],bs⟩]) ((q+Xn ys:Nat):Int):=by
 have hcb:Yx e.op=false:=by simp [Yx];omega
 refine ⟨G9 hf ?_,?_,?_,H8 hop (by rw [JA];exact ⟨by show e.op<=11;omega,hob⟩)⟩
 ·rw [fS]
  exact ⟨.inl ⟨by omega,by omega⟩,fun a ha=>by rw [XK.1 ha];exact hv,fun h=>by omega,h7,h8,fun _=>⟨v,rfl⟩,fun h=>by omega,hn,by omega,by simp,fun h=>by omega,hb⟩
 ·rw [Ei (show Yx (Z5.mk e.op e.num 0 [v] bs).op=false from hcb)];omega
 ·rw [Qe,e.sz_eq]
  simp only [Yf,Z5.sz,YW,XJ]
  omega
theorem Z0q {ds:List Zf} {op num:Int} {m k:Nat} (h:op=13):QA ds op num m k=m+k:=Ze h
theorem Zh7 {ds:List Zf} {op num:Int} {m:Nat} (h:op≠13):QA ds op num m 0=m:=by simp [QA,h]
theorem Z0r {ds:List Zf} {op num:Int} {m k:Nat} (h:op≠13/\op≠8):QA ds op num m k=m:=by simp [QA,h.1,h.2]
theorem Zh8 {ds:List Zf} {op num x:Int} {m k j:Nat} (h:op=8) (hk:k=j+1) (hx:(ZW ds num)[j]? = some x):QA ds op num m k=m+(ZX ds x).length:=by
 subst h;subst hk;rw [Nat.add_comm j 1];exact DG hx
theorem MA {ds:List Zf} {op num x:Int} {m j:Nat} (h:op=8) (hx:(ZW ds num)[j]? = some x):Qz ds op num m j=m+(ZX ds x).length:=by
 rw [Qz,Ze h,WS (i:=(j:Int)) (by simpa using hx)]
theorem MB {ds:List Zf} {op num:Int} {m j:Nat} (h:op≠8):Qz ds op num m j=m:=Z7 h
theorem BC {xs:List Z1} {k:Nat} {e:Z1} (h:xs[k]? = some e):XC (xs.take (k+1))=XC (xs.take k)+e.sz:=by rw [V1 h,Eo,XC,XC];rfl
theorem AY {xs:List Z1} (k:Nat):XC (xs.take k)<=XC xs:=by
 have h:=Yu XC (Tn k xs)
 rw [Eo] at h;omega
theorem P2 {xs:List Z1} {a b:Z1} (ha:xs[0]? = some a) (hb:xs[1]? = some b):a.sz+b.sz<=XC xs:=by
 have h1:XC (xs.take 1)=XC (xs.take 0)+a.sz:=BC ha
 have h2:XC (xs.take 2)=XC (xs.take 1)+b.sz:=BC hb
 have h3:=AY (xs:=xs) 2
 omega
theorem Fq {us:LI} {v:Int} {d:Nat} (hu:∀a∈us,0<=a/\a<(q:Int)) (hv:0<=v/\v<(q+d:Nat)):∀a∈us++[v],0<=a/\a<((q+d:Nat):Int):=
 XS (fun a ha=>by have:=hu a ha;omega) hv
theorem HD {us:LI} {d:Nat} (hu:∀a∈us,0<=a/\a<(q:Int)):∀a∈us,0<=a/\a<((q+d:Nat):Int):=fun a ha=>by have:=hu a ha;omega
theorem Zkv {us ns:LI} {d mf:Nat} (hu:∀a∈us,0<=a/\a<(q:Int)) (hn:∀i∈ns,((q+d:Nat):Int)<=i/\i<((q+d:Nat):Int)+mf):∀a∈us++ns,0<=a/\a<((q+d+mf:Nat):Int):=fun a ha=>by
 rcases Xi.1 ha with h|h
 ·have:=hu a h;omega
 ·have:=hn a h;omega
theorem I9:∀bs:List Z6,bs.length<=X3 bs
 | []=>YU _
 | b::r=>by have:=I9 r;have:=b.sz_pos;rw [X3,YW];omega
end
end Go.Abs
namespace Go.Abs
structure RF (ds:List Zf) (nf q:Nat) (p:Int->Prop) (r:Yc):Prop where
 sig:(r.params,r.result)∈Ah
 lent:r.lent.length<=3/\∀i∈r.lent,0<=i/\i<r.params.length
 body:fB ds nf r.params.length r.body/\r.body.sz<=q
 op:Ur p r.body
structure FO (n:Zm) (q:Nat) (p:Int->Prop):Prop where
 fn:FN n q
 op:∀r∈n.routines,Ur p r.body
theorem FO.rf {n:Zm} {q:Nat} {p:Int->Prop} (h:FO n q p) {r:Yc} (hr:r∈n.routines):RF n.decls n.routines.length q p r:=⟨h.fn.sigs r hr,h.fn.lent r hr,h.fn.body r hr,h.op r hr⟩
theorem FO.all {n:Zm} {q:Nat} {p:Int->Prop} (hd:GD n.decls) (hl:1<=n.routines.length/\n.routines.length<=4) (h:∀r∈n.routines,RF n.decls n.routines.length q p r):FO n q p:=
 ⟨⟨hd,hl,fun r hr=>(h r hr).sig,fun r hr=>(h r hr).lent,fun r hr=>(h r hr).body⟩,fun r hr=>(h r hr).op⟩
structure RN (ds:List Zf) (nf:Nat) (r:Yc):Prop where
 sig:(r.params,r.result)∈Ah
 lent:r.lent=[]
 body:fB ds nf r.params.length r.body/\r.body.sz<=181
 op:Ur WX r.body
theorem RN.all {n:Zm} {q:Nat} (hd:GD n.decls) (hl:1<=n.routines.length/\n.routines.length<=4) (h:∀r∈n.routines,RN n.decls n.routines.length r) (hq:181<=q):FO n q WX:=
 FO.all hd hl fun r hr=>⟨(h r hr).sig,by rw [(h r hr).lent];exact ⟨by simp,fun i hi=>by cases hi⟩,⟨(h r hr).body.1,VB (h r hr).body.2 hq⟩,(h r hr).op⟩
end Go.Abs
namespace Go.Abs
theorem RN.of {ds:List Zf} {nf:Nat} {ps:LI} {rt:Int} {b:Z6} {e:Z1} (hs:(ps,rt)∈Ah) (h:LB ds nf ps.length e b) (he:e.sz<=30):RN ds nf ⟨ps,[],rt,Z6.mk b.steps b.result⟩:=by
 have e1:Z6.mk b.steps b.result=b:=by cases b;rfl
 rw [e1]
 exact ⟨hs,rfl,⟨h.fb,by have:=h.sz;show b.sz<=181;omega⟩,h.op⟩
end Go.Abs
end
namespace Go.Abs
theorem MS:∀{xs:List Z5} {s:Z5},s∈xs->s.sz<=Yf xs
 | [],s,h=>by cases h
 | x::r,s,h=>by
  rw [Yf]
  rcases YH.1 h with rfl|h
  ·omega
  ·have:=MS h;omega
theorem Ia:∀{xs:List Z6} {b:Z6},b∈xs->b.sz<=X3 xs
 | [],b,h=>by cases h
 | x::r,b,h=>by
  rw [X3]
  rcases YH.1 h with rfl|h
  ·omega
  ·have:=Ia h;omega
structure LC (n:Zm) (k:Nat) (xs:List LI):Prop where
 len:xs.length=k
 ok:∀(i:Nat) (l:LI),xs[i]? = some l->l.length<=3/\∀r,n.routines[i]? = some r->∀v∈l,0<=v/\v<(r.params.length:Int)
theorem LC.nil {n:Zm}:LC n 0 []:=⟨rfl,fun i l h=>by simp at h⟩
theorem LC.snoc {n:Zm} {k:Nat} {xs:List LI} {l:LI} (h:LC n k xs) (hl:l.length<=3) (hv:∀r,n.routines[k]? = some r->∀v∈l,0<=v/\v<(r.params.length:Int)):LC n (k+1) (xs++[l]):=by
 refine ⟨by rw [Ys,h.len];rfl,fun i l' hi=>?_⟩
 by_cases hk:i<xs.length
 ·rw [CJ hk] at hi
  exact h.ok i l' hi
 ·rw [Bl om] at hi
  have h0:i-xs.length=0:=by
   cases e:i-xs.length with
   | zero=>rfl
   | succ q=>rw [e] at hi;simp at hi
  rw [h0] at hi
  cases hi
  have e:i=k:=by have:=h.len;omega
  subst e
  exact ⟨hl,hv⟩
def TD:LI->Int->LI
 | [],y=>[y]
 | x::r,y=>if x>y then y::x::r else if x=y then x::r else x::TD r y
def QR (d:Bool) (xs:LI) (y:Int):LI:=if d=true then xs else TD xs y
theorem GH {xs:LI} {y:Int}:QR true xs y=xs:=rfl
theorem GG {xs:LI} {y:Int}:QR false xs y=TD xs y:=rfl
theorem R6 {xs acc r:LI} {y x:Int} {k:Nat} {d:Bool} (hx:xs[k]? = some x) (hd:d=true) (h:acc++QR d (xs.drop k) y=r):(acc++[x])++QR d (xs.drop (k+1)) y=r:=by
 subst hd
 rw [GH,Y5 hx] at h
 rw [GH,<-h];simp
theorem Zcx {xs acc r:LI} {y x:Int} {k:Nat} {d:Bool} (hx:xs[k]? = some x) (hd:¬d=true) (hl:¬x>=y) (h:acc++QR d (xs.drop k) y=r):(acc++[x])++QR d (xs.drop (k+1)) y=r:=by
 have hd:=Jg.2 hd
 subst hd
 rw [GG,Y5 hx,TD,Z7 om,Z7 om] at h
 rw [GG,<-h];simp
theorem Zcy {xs acc r:LI} {y x:Int} {k:Nat} {d:Bool} (hx:xs[k]? = some x) (hd:¬d=true) (hl:x>y) (h:acc++QR d (xs.drop k) y=r):((acc++[y])++[x])++QR true (xs.drop (k+1)) y=r:=by
 have hd:=Jg.2 hd
 subst hd
 rw [GG,Y5 hx,TD,Ze hl] at h
 rw [GH,<-h];simp
theorem Zcz {xs acc r:LI} {y x:Int} {k:Nat} {d:Bool} (hx:xs[k]? = some x) (hd:¬d=true) (hl:x=y) (h:acc++QR d (xs.drop k) y=r):(acc++[x])++QR true (xs.drop (k+1)) y=r:=by
 have hd:=Jg.2 hd
 subst hd
 rw [GG,Y5 hx,TD,Z7 om,Ze hl] at h
 rw [GH,<-h];simp
theorem Zcw {xs acc acc2 r:LI} {y x:Int} {k:Nat} {d d2:Bool} (hx:xs[k]? = some x) (h:acc++QR d (xs.drop k) y=r)
  (hc:(acc2=acc/\d2=d/\(d=true∨¬x>=y))∨(acc2=acc++[y]/\d2=true/\¬d=true/\x>y)∨(acc2=acc/\d2=true/\¬d=true/\x=y)):(acc2++[x])++QR d2 (xs.drop (k+1)) y=r:=by
 rcases hc with ⟨rfl,rfl,h3⟩|⟨rfl,rfl,h3,h4⟩|⟨rfl,rfl,h3,h4⟩
 ·rcases h3 with h3|h3
  ·exact R6 hx h3 h
  ·by_cases q:d2=true
   ·exact R6 hx q h
   ·exact Zcx hx q h3 h
 ·exact Zcy hx h3 h4 h
 ·exact Zcz hx h3 h4 h
theorem Zcv {xs acc r:LI} {y:Int} {k:Nat} {d:Bool} (hk:xs.length<=k) (h:acc++QR d (xs.drop k) y=r):(if d=true then acc else acc++[y])=r:=by
 rw [Xj hk] at h
 by_cases q:d=true
 ·rw [QR,Ze q,JQ] at h;rw [Ze q];exact h
 ·rw [QR,Z7 q,TD] at h;rw [Z7 q];exact h
theorem EC:∀(xs:LI) (y:Int),(TD xs y).length<=xs.length+1
 | [],y=>YU _
 | x::r,y=>by
  have:=EC r y
  rw [TD]
  split
  ·simp
  ·split
   ·simp
   ·simp only [YW];omega
theorem Lw:∀{xs:LI} {y z:Int},z∈TD xs y↔z∈xs∨z=y
 | [],y,z=>by simp [TD]
 | x::r,y,z=>by
  rw [TD]
  split
  ·simp only [YH];exact ⟨fun h=>h.elim .inr .inl,fun h=>h.elim .inr .inl⟩
  ·split
   ·rename_i h;subst h;simp only [YH];exact ⟨fun h=>.inl h,fun h=>h.elim id .inl⟩
   ·simp only [YH,Lw (xs:=r)];exact ⟨fun h=>by rcases h with h|h|h<;>simp [h],fun h=>by rcases h with (h|h)|h<;>simp [h]⟩
def Qx:LI->Int->LI
 | [],_=>[]
 | x::r,y=>if x=y then Qx r y else x::Qx r y
theorem EU:∀(xs:LI) (y:Int),(Qx xs y).length<=xs.length
 | [],y=>YU _
 | x::r,y=>by
  have:=EU r y
  rw [Qx]
  split
  ·rw [YW];omega
  ·rw [YW,YW];omega
theorem Dz:∀{xs:LI} {y z:Int},z∈Qx xs y->z∈xs
 | [],y,z,h=>by rw [Qx] at h;exact h
 | x::r,y,z,h=>by
  rw [Qx] at h
  split at h
  ·exact Xr _ (Dz h)
  ·rcases YH.1 h with rfl|h
   ·exact Xf ..
   ·exact Xr _ (Dz h)
theorem Zfo {xs acc r:LI} {y x:Int} {k:Nat} (hx:xs[k]? = some x) (h:acc++Qx (xs.drop k) y=r):(if x≠y then acc++[x] else acc)++Qx (xs.drop (k+1)) y=r:=by
 rw [Y5 hx,Qx] at h
 by_cases q:x=y
 ·rw [Ze q] at h;rw [Z7 (fun z=>z q)];exact h
 ·rw [Z7 q] at h;rw [Ze q,<-h];simp
theorem Zfn {xs acc r:LI} {y:Int} {k:Nat} (hk:xs.length<=k) (h:acc++Qx (xs.drop k) y=r):acc=r:=by
 rw [Xj hk,Qx,JQ] at h;exact h
def T4 (n:Int) (xs:LI) (a:Int):LI:=if 0<=a/\a<n then TD xs a else xs
def Ke (n:Int):LI->LI->LI
 | [],xs=>xs
 | a::r,xs=>Ke n r (T4 n xs a)
mutual
def Ac (n:Int):Z5->LI->LI
 | .mk op _ _ args kids,xs=>if Yx op=true then xs else JK n kids (Ke n args xs)
def JK (n:Int):List Z6->LI->LI
 | [],xs=>xs
 | b::r,xs=>JK n r (Tk n b xs)
def Tl (n:Int):List Z5->LI->LI
 | [],xs=>xs
 | s::r,xs=>Tl n r (Ac n s xs)
def Tk (n:Int):Z6->LI->LI
 | .mk steps result,xs=>T4 n (Tl n steps xs) result
end
section
variable {n:Int}
theorem Z2r (s:Z5) (xs:LI):Ac n s xs=if Yx s.op=true then xs else JK n s.kids (Ke n s.args xs):=by cases s;rw [Ac];rfl
theorem Z2p (b:Z6) (xs:LI):Tk n b xs=T4 n (Tl n b.steps xs) b.result:=by cases b;rw [Tk];rfl
theorem HC (xs:LI) (a:Int):(T4 n xs a).length<=xs.length+1:=by
 rw [T4];split
 ·exact EC xs a
 ·omega
theorem Z2o:∀(as1 xs:LI),(Ke n as1 xs).length<=xs.length+as1.length
 | [],xs=>YU _
 | a::r,xs=>by
  have h1:=Z2o r (T4 n xs a)
  have h2:=HC (n:=n) xs a
  rw [Ke,YW];omega
mutual
theorem Z2s:∀(s:Z5) (xs:LI),(Ac n s xs).length<=xs.length+s.sz
 | .mk op num into args kids,xs=>by
  have h1:=Z2q kids (Ke n args xs)
  have h2:=Z2o (n:=n) args xs
  rw [Ac,Z5.sz];split<;>omega
theorem Z2q:∀(bs:List Z6) (xs:LI),(JK n bs xs).length<=xs.length+X3 bs
 | [],xs=>YU _
 | b::r,xs=>by
  have h1:=Z2q r (Tk n b xs)
  have h2:=HB b xs
  rw [JK,X3];omega
theorem N4:∀(bs:List Z5) (xs:LI),(Tl n bs xs).length<=xs.length+Yf bs
 | [],xs=>YU _
 | b::r,xs=>by
  have h1:=N4 r (Ac n b xs)
  have h2:=Z2s b xs
  rw [Tl,Yf];omega
theorem HB:∀(b:Z6) (xs:LI),(Tk n b xs).length<=xs.length+b.sz
 | .mk steps result,xs=>by
  have h1:=N4 steps xs
  have h2:=HC (n:=n) (Tl n steps xs) result
  rw [Tk,Z6.sz];omega
end
theorem Zkq {as1 ys r:LI} {k:Nat} {a:Int} (h:as1[k]? = some a) (ha:Ke n (as1.drop k) ys=r):Ke n (as1.drop (k+1)) (T4 n ys a)=r:=by
 rw [Y5 h,Ke] at ha;exact ha
theorem Zks {bs:List Z6} {ys r:LI} {k:Nat} {b:Z6} (h:bs[k]? = some b) (ha:JK n (bs.drop k) ys=r):JK n (bs.drop (k+1)) (Tk n b ys)=r:=by
 rw [Y5 h,JK] at ha;exact ha
theorem Zku {bs:List Z5} {ys r:LI} {k:Nat} {b:Z5} (h:bs[k]? = some b) (ha:Tl n (bs.drop k) ys=r):Tl n (bs.drop (k+1)) (Ac n b ys)=r:=by
 rw [Y5 h,Tl] at ha;exact ha
theorem Zkp {as1 ys r:LI} {k:Nat} (h:as1.length<=k) (ha:Ke n (as1.drop k) ys=r):ys=r:=by rw [Xj h,Ke] at ha;exact ha
theorem Zkr {bs:List Z6} {ys r:LI} {k:Nat} (h:bs.length<=k) (ha:JK n (bs.drop k) ys=r):ys=r:=by rw [Xj h,JK] at ha;exact ha
theorem Zkt {bs:List Z5} {ys r:LI} {k:Nat} (h:bs.length<=k) (ha:Tl n (bs.drop k) ys=r):ys=r:=by rw [Xj h,Tl] at ha;exact ha
end
end Go.Abs
section
namespace Go.Abs
theorem As (xs:List Z5):(Zi (ZF xs)).length=xs.length*5:=by rw [UX _ (Xt _)];simp
theorem Gf (s:Z5) (r:List Z5):Zi (ZF (s::r))=Xx s++Zi (ZF r):=by rw [VL,VL];rfl
theorem Z92 {xs:List Z5} {k:Nat} {x:Z5} (h:xs[k]? = some x):Zi (ZF (xs.take k))++Zi [YF x]=Zi (ZF (xs.take (k+1))):=by
 rw [V1 h,V6,UG,Gf]
 have:Zi (ZF [])=[]:=by rw [VL];rfl
 rw [this];rfl
theorem Pf {xs:List Z5} {i:Nat} {s:Z5} (h:xs[i]? = some s):Zi (ZF xs)=Zi (ZF (xs.take i))++(Xx s++Zi (ZF (xs.drop (i+1)))):=by
 have hi:=(Xq.1 h).1
 have e:xs=xs.take i++(s::xs.drop (i+1)):=by rw [<-Y5 h,Tn]
 conv=>lhs;rw [e,V6,UG,Gf]
theorem Pe {xs:List Z5} {i:Nat} {s t:Z5} (h:xs[i]? = some s):(Zi (ZF xs)).take (i*5)++Xx t++(Zi (ZF xs)).drop (i*5+(Xx t).length)=Zi (ZF (xs.set i t)):=by
 have hi:=(Xq.1 h).1
 have hl:(Zi (ZF (xs.take i))).length=i*5:=by rw [As,WW,Ul om]
 rw [Pf h,F6 (xs:=Xx s) (ys:=Xx t) hl rfl]
 have e:xs.set i t=xs.take i++(t::xs.drop (i+1)):=by rw [Fw,Ze hi]
 rw [e,V6,UG,Gf]
theorem Pd {xs:List Z5} {i:Nat} {s:Z5} (h:xs[i]? = some s):((Zi (ZF xs)).drop (i*5)).take (Xx s).length=Xx s:=by
 have hi:=(Xq.1 h).1
 have hl:(Zi (ZF (xs.take i))).length=i*5:=by rw [As,WW,Ul om]
 rw [Pf h]
 exact Mt hl
structure Zlg (xs:LI) (v:Int) (k:Nat) (acc:LI) (d:Bool):Prop where
 len:acc.length<=k+(if d=true then 1 else 0)
 sub:∀z∈acc,z∈xs.take k∨z=v
 all:∀z∈xs.take k,z∈acc
 done:d=true->v∈acc
end Go.Abs
namespace Go.Abs
section
variable {ds:List Zf} {kept K2:LI} {op num x:Int} {args:LI} {j many:Nat} {kd:Z6}
end
theorem Z5v {op:Int} {c:LI} (h:Yx op=true):TR op c=c.set (op-14).toNat (gI c (op-14)+1):=Ze h
theorem Z5t {op:Int} {c:LI} (h:¬Yx op=true):TR op c=c:=Z7 h
theorem Z6r {op:Int} (h:Yx op=true):14<=op/\op<=17:=by simpa [Yx] using h
end Go.Abs
namespace Go.Abs
theorem NT:∀(xs:List Z6) (b:Z6),X3 (xs++[b])=X3 xs+b.sz
 | [],b=>by rw [Bn,X3,X3,X3];omega
 | x::r,b=>by rw [Q2,X3,X3,NT r b];omega
theorem E9:∀{xs:List Z6} {k:Nat} {b:Z6},xs[k]? = some b->X3 (xs.take k)+b.sz<=X3 xs
 | [],_,_,h=>by simp at h
 | x::r,0,b,h=>by simp at h;subst h;simp [X3]
 | x::r,k+1,b,h=>by
  have:=E9 (xs:=r) (k:=k) (by simpa using h)
  rw [C5,X3,X3];omega
theorem Ic {xs:List Z6} {k:Nat} (h:xs.length<=k):X3 (xs.take k)=X3 xs:=by rw [VA h]
end Go.Abs
end
namespace Go.Abs
theorem Z1y {xs:List Z5} {k:Nat} {s:Z5} (h:xs[k]? = some s):Yf (xs.drop k)=s.sz+Yf (xs.drop (k+1)):=by rw [Y5 h,Yf]
theorem Z1z (xs:List Z5) (k:Nat):Yf (xs.drop k)<=Yf xs:=by
 have h:=Yu Yf (Tn k xs)
 rw [Qe] at h;omega
theorem Ib {xs:List Z6} {k:Nat} {b:Z6} (h:xs[k]? = some b):X3 (xs.take (k+1))=X3 (xs.take k)+b.sz:=by rw [V1 h,E8,X3,X3];rfl
structure CL (ds:List Zf) (nf m:Nat) (xs:List Z5) (d z:Nat):Prop where
 fs:TT ds nf m xs
 dn:Xn xs=d
 op:QX JS xs
 sz:Yf xs<=z
section
variable {ds:List Zf} {nf m d z:Nat} {xs:List Z5}
theorem CL.nil:CL ds nf m [] 0 0:=⟨True.intro,rfl,True.intro,YU _⟩
theorem CL.len (h:CL ds nf m xs d z):xs.length<=z:=VB (JG xs) h.sz
theorem CL.le (h:CL ds nf m xs d z) {z2:Nat} (hz:z<=z2):CL ds nf m xs d z2:=⟨h.fs,h.dn,h.op,VB h.sz hz⟩
theorem Z8m {op v:Int} (ho:op=14∨op=15) (hv:0<=v/\v<(m:Int)):fS ds nf m (ZC op v):=by
 rw [ZC,fS]
 exact ⟨.inr om,fun a ha=>by rw [XK.1 ha];exact hv,fun _=>⟨rfl,rfl,rfl,v,rfl⟩,fun h=>by omega,fun h=>by omega,fun h=>by omega,fun h=>by omega,by omega,by omega,by simp,fun _=>rfl,True.intro⟩
theorem Z6q {op:Int} (ho:op=14∨op=15):Yx op=true:=by simp [Yx];omega
theorem CL.cnt (h:CL ds nf m xs d z) {op v:Int} (ho:op=14∨op=15) (hv:0<=v/\v<((m+d:Nat):Int)):CL ds nf m (xs++[ZC op v]) d (z+2):=by
 have hc:Yx (ZC op v).op=true:=Z6q ho
 refine ⟨G9 h.fs (by rw [h.dn];exact Z8m ho hv),?_,H8 h.op ?_,?_⟩
 ·rw [AT,h.dn,Xn,Ze hc];rfl
 ·rw [H7];exact ⟨by show op<=15;omega,True.intro⟩
 ·have:=h.sz
  have e:(ZC op v).sz=2:=rfl
  rw [Qe,Yf,e,Yf];omega
theorem CL.cnts {op:Int} (ho:op=14∨op=15):∀{vs:LI} {xs:List Z5} {z:Nat},CL ds nf m xs d z->(∀v∈vs,0<=v/\v<((m+d:Nat):Int))->CL ds nf m (xs++vs.map (ZC op)) d (z+2*vs.length)
 | [],xs,z,h,_=>by simpa using h
 | v::r,xs,z,h,hv=>by
  have h1:=CL.cnts ho (vs:=r) (h.cnt ho (hv v (Xf ..))) fun x hx=>hv x (Xr _ hx)
  rw [Vt,show xs++ZC op v::r.map (ZC op)=xs++[ZC op v]++r.map (ZC op) by simp]
  exact h1.le (by rw [YW];omega)
theorem CL.one (h:CL ds nf m xs d z) {s:Z5} (hs:fS ds nf (m+d) s) (hc:Yx s.op=false) (ho:JA JS s):CL ds nf m (xs++[s]) (d+1) (z+s.sz):=by
 refine ⟨G9 h.fs (by rw [h.dn];exact hs),by rw [Ei hc,h.dn],H8 h.op ho,?_⟩
 have:=h.sz
 rw [Qe,Yf,Yf];omega
theorem CL.app (h:CL ds nf m xs d z) {ys:List Z5} {d2 z2:Nat} (h2:CL ds nf (m+d) ys d2 z2):CL ds nf m (xs++ys) (d+d2) (z+z2):=by
 refine ⟨Er.2 ⟨h.fs,by rw [h.dn];exact h2.fs⟩,by rw [AT,h.dn,h2.dn],M6.2 ⟨h.op,h2.op⟩,?_⟩
 have:=h.sz
 have:=h2.sz
 rw [Qe];omega
end
structure KB (ds:List Zf) (nf m:Nat) (b:Z6) (z:Nat):Prop where
 fb:fB ds nf m b
 op:Ur JS b
 sz:b.sz<=z
section
variable {ds:List Zf} {nf m d z:Nat} {xs:List Z5}
theorem CL.block (h:CL ds nf m xs d z) {r:Int} (hr:0<=r/\r<((m+d:Nat):Int)):KB ds nf m ⟨xs,r⟩ (1+z):=by
 refine ⟨by rw [fB,h.dn];exact ⟨h.fs,hr⟩,by rw [Ur];exact h.op,?_⟩
 have:=h.sz
 rw [Z6.sz];omega
theorem KB.le {b:Z6} (h:KB ds nf m b z) {z2:Nat} (hz:z<=z2):KB ds nf m b z2:=⟨h.fb,h.op,VB h.sz hz⟩
theorem KB.cl {b:Z6} (h:KB ds nf m b z):CL ds nf m b.steps (Xn b.steps) (z-1)/\0<=b.result/\b.result<((m+Xn b.steps:Nat):Int):=by
 obtain ⟨h1,h2⟩:=(G6 b).1 h.fb
 refine ⟨⟨h1,rfl,(M5 b).1 h.op,?_⟩,h2⟩
 have:=h.sz
 have:=b.sz_eq
 omega
theorem KB.put {b:Z6} (h:KB ds nf m b z) {as1 bs:LI} (ha:∀v∈as1,0<=v/\v<(m:Int)) (hb:∀v∈bs,0<=v/\v<(m:Int)):KB ds nf m ⟨as1.map (ZC 14)++bs.map (ZC 15)++b.steps,b.result⟩ (z+2*as1.length+2*bs.length):=by
 obtain ⟨h1,h2⟩:=h.cl
 have q1:CL ds nf m ([]++as1.map (ZC 14)) 0 (0+2*as1.length):=CL.nil.cnts (.inl rfl) ha
 have q2:=(q1.cnts (op:=15) (.inr rfl) hb).app h1
 have:=h.sz
 have:=b.sz_eq
 rw [Bn,Vl] at q2
 exact (q2.block h2).le om
end
structure KK (ds:List Zf) (nf:Nat) (sc:Nat->Nat) (ks:List Z6) (z:Nat):Prop where
 fb:Qm ds nf sc 0 ks
 op:J8 JS ks
 sz:X3 ks<=z
section
variable {ds:List Zf} {nf m z:Nat} {sc:Nat->Nat}
theorem KK.nil:KK ds nf sc [] 0:=⟨True.intro,True.intro,YU _⟩
theorem KK.snoc {ks:List Z6} {b:Z6} {j z2:Nat} (h:KK ds nf sc ks z) (hj:ks.length=j) (hb:KB ds nf (sc j) b z2):KK ds nf sc (ks++[b]) (z+z2):=by
 refine ⟨P4 h.fb (by rw [hj];exact hb.fb),Sn h.op hb.op,?_⟩
 have:=h.sz
 have:=hb.sz
 rw [E8];simp only [X3];omega
theorem KK.le {ks:List Z6} (h:KK ds nf sc ks z) {z2:Nat} (hz:z<=z2):KK ds nf sc ks z2:=⟨h.fb,h.op,VB h.sz hz⟩
theorem Z8n {s:Z5} {ks:List Z6} {into:Int} (h:FS ds nf m s) (h11:s.op<=11) (hl:ks.length=s.kids.length) (hi:0<=into/\into<=m) (hk:KK ds nf (Qz ds s.op s.num m) ks z):fS ds nf m ⟨s.op,s.num,into,s.args,ks⟩/\JA JS ⟨s.op,s.num,into,s.args,ks⟩/\(Z5.mk s.op s.num into s.args ks).sz<=5+z:=by
 refine ⟨?_,?_,?_⟩
 ·rw [fS]
  refine ⟨h.op,h.args,fun q=>by omega,fun q=>by rw [hl];exact h.k7 q,fun q=>by rw [hl];exact h.k8 q,h.one,h.call,h.num,hi,h.alen,fun q=>?_,hk.fb⟩
  have:=h.kn q
  rw [this] at hl
  exact List.eq_nil_of_length_eq_zero hl
 ·rw [JA];exact ⟨by show s.op<=15;omega,hk.op⟩
 ·have:=h.alen
  have:=hk.sz
  rw [Z5.sz];omega
end
structure KT (ds:List Zf) (nf m:Nat) (st:Z5) (z:Nat):Prop where
 fs:fS ds nf m st
 cb:Yx st.op=false
 op:JA JS st
 sz:st.sz<=z
theorem KT.of {ds:List Zf} {nf m z:Nat} {s:Z5} {ks:List Z6} {into:Int} (h:FS ds nf m s) (h11:s.op<=11) (hl:ks.length=s.kids.length) (hi:0<=into/\into<=m) (hk:KK ds nf (Qz ds s.op s.num m) ks z):KT ds nf m ⟨s.op,s.num,into,s.args,ks⟩ (5+z):=by
 obtain ⟨h1,h2,h3⟩:=Z8n h h11 hl hi hk
 exact ⟨h1,by show Yx s.op=false;simp [Yx];omega,h2,h3⟩
theorem CL.kt {ds:List Zf} {nf m d z z2:Nat} {xs:List Z5} {st:Z5} (h:CL ds nf m xs d z) (hs:KT ds nf (m+d) st z2):CL ds nf m (xs++[st]) (d+1) (z+z2):=(h.one hs.fs hs.cb hs.op).le (by have:=hs.sz;omega)
theorem FS.few {ds:List Zf} {nf m:Nat} {s:Z5} (h:FS ds nf m s) (hd:Wu ds):s.kids.length<=3:=by
 by_cases h7:s.op=7
 ·have:=h.k7 h7;omega
 ·by_cases h8:s.op=8
  ·have:=h.k8 h8
   have:=M3 hd s.num
   omega
  ·rw [h.kn ⟨h7,h8⟩];simp
theorem RF.lend {ds:List Zf} {nf q:Nat} {p:Int->Prop} {r:Yc} {l:LI} (h:RF ds nf q p r) (h1:l.length<=3) (h2:∀v∈l,0<=v/\v<(r.params.length:Int)):RF ds nf q p ⟨r.params,l,r.result,r.body⟩:=⟨h.sig,⟨h1,h2⟩,h.body,h.op⟩
theorem RF.with {ds:List Zf} {nf q q2:Nat} {p p2:Int->Prop} {r:Yc} {b:Z6} (h:RF ds nf q p r) (h1:fB ds nf r.params.length b) (h2:b.sz<=q2) (h3:Ur p2 b):RF ds nf q2 p2 ⟨r.params,r.lent,r.result,b⟩:=⟨h.sig,h.lent,⟨h1,h2⟩,h3⟩
theorem Z6.eta (b:Z6):Z6.mk b.steps b.result=b:=by cases b;rfl
theorem LC.at {n:Zm} {k:Nat} {xs:List LI} {i:Nat} {l:LI} {r:Yc} (h:LC n k xs) (hl:xs[i]? = some l) (hr:n.routines[i]? = some r):l.length<=3/\∀v∈l,0<=v/\v<(r.params.length:Int):=⟨(h.ok i l hl).1,(h.ok i l hl).2 r hr⟩
theorem Is:∀{xs:List Z5},(∀s∈xs,JA WX s)->∀k,k<=xs.length->Xn (xs.take k)=k
 | _,_,0,_=>rfl
 | [],_,k+1,h=>absurd h (by simp)
 | x::r,h,k+1,hk=>by
  have h1:=((H7 x).1 (h x (Xf ..))).1
  have hc:Yx x.op=false:=by have:x.op<=11:=h1;simp [Yx];omega
  rw [C5,Xn,Z7 (by rw [hc];simp),Is (fun s hs=>h s (Xr _ hs)) k (by simpa using hk)]
  omega
theorem KB.put1 {ds:List Zf} {nf m z:Nat} {b:Z6} (h:KB ds nf m b z) {op:Int} (ho:op=14∨op=15) {as1:LI} (ha:∀v∈as1,0<=v/\v<(m:Int)):KB ds nf m ⟨as1.map (ZC op)++b.steps,b.result⟩ (z+2*as1.length):=by
 obtain ⟨h1,h2⟩:=h.cl
 have q1:CL ds nf m ([]++as1.map (ZC op)) 0 (0+2*as1.length):=CL.nil.cnts ho ha
 have q2:=q1.app h1
 have:=h.sz
 have:=b.sz_eq
 rw [Bn,Vl] at q2
 exact (q2.block h2).le om
theorem FO.fin {n:Zm} {rs:List Yc} {q q2:Nat} {p:Int->Prop} (h:FN n q2) (e:rs.length=n.routines.length) (hr:∀r∈rs,RF n.decls n.routines.length q p r):FO ⟨n.decls,rs⟩ q p/\rs.length=n.routines.length:=
 ⟨FO.all h.decls (by show 1<=rs.length/\rs.length<=4;rw [e];exact h.len) (by show ∀r∈rs,RF n.decls rs.length q p r;rw [e];exact hr),e⟩
theorem KT.le {ds:List Zf} {nf m z z2:Nat} {st:Z5} (h:KT ds nf m st z) (hz:z<=z2):KT ds nf m st z2:=⟨h.fs,h.cb,h.op,VB h.sz hz⟩
theorem KB.len {ds:List Zf} {nf m z:Nat} {b:Z6} (h:KB ds nf m b z):b.steps.length<=z:=by
 have:=h.sz
 have:=b.sz_eq
 have:=JG b.steps
 omega
theorem Z7g {xs:List Z5} {k:Nat} {s:Z5} (h:xs[k]? = some s):Xn (xs.take (k+1))=Xn (xs.take k)+(if Yx s.op=true then 0 else 1):=by rw [V1 h,AT,Xn,Xn];rfl
def V0 (xs:List Z5) (i:Nat) (s:Z5):List Z5:=xs.take i++[s]++xs.drop i
theorem EZ {xs:List Z5} (i:Nat) (s:Z5):Yf (V0 xs i s)=Yf xs+s.sz:=by
 have h:=Yu Yf (Tn i xs)
 rw [Qe] at h
 rw [V0,Qe,Qe,Yf,Yf];omega
theorem SM {xs:List Z5} {i:Nat} {s:Z5} (h:i<=xs.length):(V0 xs i s).length=xs.length+1:=by
 simp [V0,Ul h];omega
def Gs (b:Z6) (i j:Nat) (v:Int):Z6:=⟨V0 (V0 b.steps j (ZC 15 v)) i (ZC 14 v),b.result⟩
def C1 (n:Zm) (f:Nat) (rt:Yc) (b:Z6):Zm:=⟨n.decls,n.routines.set f ⟨rt.params,rt.lent,rt.result,b⟩⟩
def Nj (n n2:Zm):Prop:=n2=n∨∃f rt i j v,n.routines[f]? = some rt/\i<=j/\j<=rt.body.steps.length/\0<=v/\v<((rt.params.length+Xn (rt.body.steps.take i):Nat):Int)/\n2=C1 n f rt (Gs rt.body i j v)
mutual
def Z5.rb:Z5->Prop
 | .mk _ _ _ _ kids=>Cc kids
def Cc:List Z6->Prop
 | []=>True
 | b::r=>Z6.rb b/\Cc r
def CE:List Z5->Prop
 | []=>True
 | s::r=>Z5.rb s/\CE r
def Z6.rb:Z6->Prop
 | .mk steps result=>CE steps/\-1000000000<=result/\result<=1000000000
end
theorem Z5.rb_eq (s:Z5):s.rb=Cc s.kids:=by cases s;rw [Z5.rb];rfl
theorem Z6.rb_eq (b:Z6):b.rb=(CE b.steps/\-1000000000<=b.result/\b.result<=1000000000):=by cases b;rw [Z6.rb];rfl
theorem JF:∀{xs:List Z5},CE xs↔∀s∈xs,s.rb
 | []=>by simp [CE]
 | s::r=>by rw [CE,JF];simp
theorem CU:∀{xs:List Z6},Cc xs↔∀s∈xs,s.rb
 | []=>by simp [Cc]
 | s::r=>by rw [Cc,CU];simp
section
variable {ds:List Zf} {nf:Nat}
mutual
theorem Zg5:∀(s:Z5) {m:Nat},fS ds nf m s->m+4*s.sz<=900000000->Wu ds->s.rb
 | .mk op num into args kids,m,h,hb,hd=>by
  rw [fS] at h
  obtain ⟨h1,h2,h3,h4,h5,h6,h7,h8,h9,h10,h11,h12⟩:=h
  rw [Z5.sz] at hb
  rw [Z5.rb]
  refine SV kids h12 (fun k=>?_) hd
  have hf:=Uu hd (gI (ZW ds num) k)
  show Qz ds op num m k+4*X3 kids<=900000003
  rw [Qz];split<;>omega
theorem SV:∀(bs:List Z6) {sc:Nat->Nat} {k:Nat},Qm ds nf sc k bs->(∀k,sc k+4*X3 bs<=900000003)->Wu ds->Cc bs
 | [],_,_,_,_,_=>True.intro
 | b::r,sc,k,h,hb,hd=>by
  have hp:=b.sz_eq
  exact ⟨SU b h.1 (by have:=hb k;rw [X3] at this;omega) hd,SV r h.2 (fun j=>by have:=hb j;rw [X3] at this;omega) hd⟩
theorem SW:∀(xs:List Z5) {m:Nat},TT ds nf m xs->m+4*Yf xs<=900000000->Wu ds->CE xs
 | [],_,_,_,_=>True.intro
 | s::r,m,h,hb,hd=>by
  rw [Yf] at hb
  have hp:=s.sz_pos
  refine ⟨Zg5 s h.1 om hd,SW r h.2 ?_ hd⟩
  split<;>omega
theorem SU:∀(b:Z6) {m:Nat},fB ds nf m b->m+4*b.sz<=900000004->Wu ds->b.rb
 | .mk steps result,m,h,hb,hd=>by
  rw [Z6.sz] at hb
  rw [fB] at h
  rw [Z6.rb]
  have h1:=BA steps
  have h2:steps.length<=Yf steps:=by
   clear h h1 hb
   induction steps with
   | nil=>simp
   | cons x r ih=>have:=x.sz_pos;rw [Yf,YW];omega
  exact ⟨SW steps h.1 om hd,by omega,by omega⟩
end
theorem Mn {op v:Int}:(ZC op v).rb:=by rw [Z5.rb_eq];exact True.intro
end
structure Wl (ds:List Zf) (b:Z6):Prop where
 w:wB ds b
 nr:EM b
 rng:b.rng
structure WlS (ds:List Zf) (s:Z5):Prop where
 w:wS ds s
 nr:H4 s
 rng:s.rng
section
variable {ds:List Zf}
theorem Je:∀{xs:List Z5},TK xs↔∀s∈xs,s.rng
 | []=>by simp [TK]
 | s::r=>by rw [TK,Je];simp
theorem CV:∀{xs:List Z6},Kl xs↔∀s∈xs,s.rng
 | []=>by simp [Kl]
 | s::r=>by rw [Kl,CV];simp
end
structure ZR (q:Nat) (r:Yc):Prop where
 params:r.params.length<=3
 lent:r.lent.length<=10
 body:r.body.sz<=q
 rng:r.body.rng
 rb:r.body.rb
structure ZN (n:Zm) (q:Nat):Prop where
 decls:AD n.decls
 len:1<=n.routines.length/\n.routines.length<=4
 rt:∀r∈n.routines,ZR q r
theorem FO.zn {n:Zm} {q:Nat} {p:Int->Prop} (h:FO n q p) (hq:q<=100000000:=by omega):ZN n q:=
 ⟨h.fn.decls.ad,h.fn.len,fun r hr=>⟨(Qh.bd (f:=⟨r.params,r.result,default⟩) (h.fn.sigs r hr)).1,by have:=(h.fn.lent r hr).1;omega,(h.fn.body r hr).2,Z01 r.body (h.fn.body r hr).1,SU r.body (h.fn.body r hr).1 (by have h2:r.params.length<=3:=(Qh.bd (f:=⟨r.params,r.result,default⟩) (h.fn.sigs r hr)).1;have:=(h.fn.body r hr).2;omega) h.fn.decls.ok⟩⟩
structure WN (n:Zm) (q:Nat):Prop where
 ok:X4 n
 zn:ZN n q
 wl:∀r∈n.routines,Wl n.decls r.body
theorem DC {xs:List Z5} {i:Nat} {s t:Z5} (h:t∈V0 xs i s):t∈xs∨t=s:=by
 rw [V0] at h
 simp only [Xi,XK] at h
 rcases h with (h|h)|h
 ·exact .inl (Tm h)
 ·exact .inr h
 ·exact .inl (List.mem_of_mem_drop h)
theorem DD {op v:Int}:(ZC op v).rng:=by rw [Z5.rng_eq];exact ⟨⟨by show (-9223372036854775808:Int)<=0;decide,by show (0:Int)<=_;decide⟩,True.intro⟩
theorem FO.le {n:Zm} {q q2:Nat} {p:Int->Prop} (h:FO n q p) (hq:q<=q2):FO n q2 p:=⟨⟨h.fn.decls,h.fn.len,h.fn.sigs,h.fn.lent,fun r hr=>⟨(h.fn.body r hr).1,VB (h.fn.body r hr).2 hq⟩⟩,h.op⟩
abbrev Z5.rgb (s:Z5):Prop:=s.rng/\s.rb
abbrev Z6.rgb (b:Z6):Prop:=b.rng/\b.rb
def Un (s y:Z5):Prop:=y.sz<=s.sz+1/\y.rgb
theorem Un.refl {s:Z5} (hg:s.rgb):Un s s:=⟨Nat.le_succ _,hg⟩
theorem Un.of {s:Z5} {op num into:Int} {args:LI} {kids:List Z6} (hgb:s.rgb) (hn:num=s.num∨num∈([0,1,2,3,-1,1000]:LI)) (ha:args.length<=s.args.length+1) (hk:kids=s.kids∨kids=s.kids.drop 1):Un s ⟨op,num,into,args,kids⟩:=by
 obtain ⟨hg,hrb⟩:=hgb
 rw [Z5.rng_eq] at hg
 rw [Z5.rb_eq] at hrb
 have hs:=s.sz_eq
 have hb:X3 kids<=X3 s.kids:=by
  rcases hk with rfl|rfl
  ·exact YU _
  ·have h:=Yu X3 (Tn 1 s.kids)
   rw [E8] at h;omega
 refine ⟨by rw [Z5.sz];omega,?_,by rw [Z5.rb];exact CU.2 fun b hbk=>CU.1 hrb b (by rcases hk with rfl|rfl;exact hbk;exact List.mem_of_mem_drop hbk)⟩
 rw [Z5.rng]
 refine ⟨?_,CV.2 fun b hbk=>CV.1 hg.2 b ?_⟩
 ·rcases hn with rfl|hn
  ·exact hg.1
  ·have:=(by decide:∀z∈([0,1,2,3,-1,1000]:LI),-9223372036854775808<=z/\z<=9223372036854775807) num hn
   exact this
 ·rcases hk with rfl|rfl
  ·exact hbk
  ·exact List.mem_of_mem_drop hbk
def XI (b y:Z6):Prop:=y.sz<=b.sz+2/\y.rgb
theorem XI.result {b:Z6} (hg:b.rgb) (z:Int) (hz:-1000000000<=z/\z<=1000000000:=by omega):XI b ⟨b.steps,z⟩:=⟨by rw [Z6.sz,b.sz_eq];omega,by have h:=hg.1;rw [Z6.rng_eq] at h;rw [Z6.rng];exact h,by have h:=hg.2;rw [Z6.rb_eq] at h;rw [Z6.rb];exact ⟨h.1,hz⟩⟩
theorem XI.put {b:Z6} (hgb:b.rgb) {i:Nat} {op v:Int}:XI b ⟨V0 b.steps i (ZC op v),b.result⟩:=by
 obtain ⟨hg,hrb⟩:=hgb
 rw [Z6.rng_eq,Je] at hg
 rw [Z6.rb_eq,JF] at hrb
 refine ⟨?_,?_,?_⟩
 ·rw [Z6.sz,EZ,b.sz_eq]
  have e:(ZC op v).sz=2:=rfl
  omega
 ·rw [Z6.rng,Je]
  intro s hs
  rcases DC hs with hs|rfl
  ·exact hg s hs
  ·exact DD
 ·rw [Z6.rb,JF]
  refine ⟨fun s hs=>?_,hrb.2⟩
  rcases DC hs with hs|rfl
  ·exact hrb.1 s hs
  ·exact Mn
theorem XI.del {b:Z6} (hgb:b.rgb) {k:Nat}:XI b ⟨b.steps.take k++b.steps.drop (k+1),b.result⟩:=by
 obtain ⟨hg,hrb⟩:=hgb
 rw [Z6.rng_eq,Je] at hg
 rw [Z6.rb_eq,JF] at hrb
 have h1:=AA b.steps k
 have h2:=Yu Yf (Tn k b.steps)
 have h3:=Yu Yf (Tn 1 (b.steps.drop k))
 rw [Qe] at h2 h3
 rw [List.drop_drop] at h3
 refine ⟨by rw [Z6.sz,Qe,b.sz_eq];omega,?_,by rw [Z6.rb,JF];refine ⟨fun s hs=>?_,hrb.2⟩;rcases Xi.1 hs with hs|hs;exact hrb.1 s (Tm hs);exact hrb.1 s (List.mem_of_mem_drop hs)⟩
 rw [Z6.rng,Je]
 intro s hs
 rcases Xi.1 hs with hs|hs
 ·exact hg s (Tm hs)
 ·exact hg s (List.mem_of_mem_drop hs)
theorem XI.set {b:Z6} (hgb:b.rgb) {k:Nat} {s t:Z5} (hs:b.steps[k]? = some s) (ht:t.sz<=s.sz+2/\t.rgb):XI b ⟨b.steps.set k t,b.result⟩:=by
 obtain ⟨hg,hrb⟩:=hgb
 rw [Z6.rng_eq,Je] at hg
 rw [Z6.rb_eq,JF] at hrb
 have h1:=Z20 t hs
 refine ⟨by rw [Z6.sz,b.sz_eq];omega,?_,by rw [Z6.rb,JF];refine ⟨fun s hs=>?_,hrb.2⟩;rcases List.mem_or_eq_of_mem_set hs with hs|rfl;exact hrb.1 s hs;exact ht.2.2⟩
 rw [Z6.rng,Je]
 intro x hx
 rcases List.mem_or_eq_of_mem_set hx with hx|rfl
 ·exact hg x hx
 ·exact ht.2.1
theorem NX:∀{xs:List Z6} {i:Nat} {s:Z6} (t:Z6),xs[i]? = some s->X3 (xs.set i t)+s.sz=X3 xs+t.sz
 | [],_,_,_,h=>by simp at h
 | x::r,0,s,t,h=>by simp at h;subst h;rw [List.set_cons_zero,X3,X3];omega
 | x::r,i+1,s,t,h=>by
  have:=NX (xs:=r) (i:=i) t (by simpa using h)
  rw [List.set_cons_succ,X3,X3];omega
theorem XI.kid {b:Z6} (hg:b.rgb) {k j:Nat} {s:Z5} {c y:Z6} (hs:b.steps[k]? = some s) (hc:s.kids[j]? = some c) (hy:XI c y):XI b ⟨b.steps.set k ⟨s.op,s.num,s.into,s.args,s.kids.set j y⟩,b.result⟩:=by
 refine XI.set hg hs ?_
 have hg2:=hg.1
 have hr2:=hg.2
 rw [Z6.rng_eq,Je] at hg2
 rw [Z6.rb_eq,JF] at hr2
 have h4:=hr2.1 s (Y0 hs)
 rw [Z5.rb_eq] at h4
 have h1:=hg2 s (Y0 hs)
 rw [Z5.rng_eq] at h1
 have h2:=NX y hc
 have h3:=hy.1
 refine ⟨by rw [Z5.sz,s.sz_eq];omega,?_,by rw [Z5.rb];refine CU.2 fun x hx=>?_;rcases List.mem_or_eq_of_mem_set hx with hx|rfl;exact CU.1 h4 x hx;exact hy.2.2⟩
 rw [Z5.rng]
 refine ⟨h1.1,CV.2 fun x hx=>?_⟩
 rcases List.mem_or_eq_of_mem_set hx with hx|rfl
 ·exact CV.1 h1.2 x hx
 ·exact hy.2.1
theorem Zgg {b:Z6} (hg:b.rng) {k j:Nat} {s:Z5} {c:Z6} (hs:b.steps[k]? = some s) (hc:s.kids[j]? = some c):c.rng:=by
 rw [Z6.rng_eq,Je] at hg
 have h1:=hg s (Y0 hs)
 rw [Z5.rng_eq] at h1
 exact CV.1 h1.2 c (Y0 hc)
theorem Zgc {b:Z6} (hg:b.rgb) {k j:Nat} {s:Z5} {c:Z6} (hs:b.steps[k]? = some s) (hc:s.kids[j]? = some c):c.rgb:=by
 refine ⟨Zgg hg.1 hs hc,?_⟩
 have h:=hg.2
 rw [Z6.rb_eq,JF] at h
 have h1:=h.1 s (Y0 hs)
 rw [Z5.rb_eq] at h1
 exact CU.1 h1 c (Y0 hc)
theorem Zgj {b:Z6} (hg:b.rng) {k:Nat} {s:Z5} (hs:b.steps[k]? = some s):s.rng:=by
 rw [Z6.rng_eq,Je] at hg
 exact hg s (Y0 hs)
theorem Zgd {b:Z6} (hg:b.rgb) {k:Nat} {s:Z5} (hs:b.steps[k]? = some s):s.rgb:=by
 refine ⟨Zgj hg.1 hs,?_⟩
 have h:=hg.2
 rw [Z6.rb_eq,JF] at h
 exact h.1 s (Y0 hs)
structure ZS (n:Zm) (q l:Nat):Prop where
 decls:AD n.decls
 len:1<=n.routines.length/\n.routines.length<=4
 rt:∀r∈n.routines,r.params.length<=3/\r.lent.length<=l/\r.body.sz<=q/\r.body.rng
 rb:∀r∈n.routines,r.body.rb
theorem ZN.zs {n:Zm} {q:Nat} (h:ZN n q):ZS n q 10:=⟨h.decls,h.len,fun r hr=>⟨(h.rt r hr).params,(h.rt r hr).lent,(h.rt r hr).body,(h.rt r hr).rng⟩,fun r hr=>(h.rt r hr).rb⟩
theorem ZS.le {n:Zm} {q q2 l l2:Nat} (h:ZS n q l) (hq:q<=q2) (hl:l<=l2):ZS n q2 l2:=⟨h.decls,h.len,fun r hr=>by obtain ⟨a,b,c,d⟩:=h.rt r hr;exact ⟨a,by omega,by omega,d⟩,h.rb⟩
theorem ZS.sz {n:Zm} {q l:Nat} (h:ZS n q l) (hq:q<=10000000) (hl:l<=1000):V4 n:=
 ⟨⟨by have:=h.decls.1;omega,fun d hd=>by have:=(h.decls.2 d hd).1;omega,fun d hd c hc=>by have:=(h.decls.2 d hd).2 c hc;omega⟩,by have:=h.len;omega,fun r hr=>by have:=(h.rt r hr).1;omega,fun r hr=>by have:=(h.rt r hr).2.1;omega,fun r hr=>by have:=(h.rt r hr).2.2.1;omega⟩
theorem ZS.set {n:Zm} {q l q2 l2:Nat} {f:Nat} {rt:Yc} {ls:LI} {b:Z6} (h:ZS n q l) (hr:n.routines[f]? = some rt) (hq:q<=q2) (hl:l<=l2) (hls:ls.length<=l2) (hb:b.sz<=q2) (hg:b.rgb):ZS ⟨n.decls,n.routines.set f ⟨rt.params,ls,rt.result,b⟩⟩ q2 l2:=by
 refine ⟨h.decls,by show 1<=(n.routines.set _ _).length/\(n.routines.set _ _).length<=4;rw [TN];exact h.len,fun r hm=>?_,fun r hm=>?_⟩
 ·rcases List.mem_or_eq_of_mem_set hm with hm|rfl
  ·exact (h.le hq hl).rt r hm
  ·have:=h.rt rt (Y0 hr)
   exact ⟨this.1,hls,hb,hg.1⟩
 ·rcases List.mem_or_eq_of_mem_set hm with hm|rfl
  ·exact h.rb r hm
  ·exact hg.2
theorem ZS.ds {n:Zm} {q l:Nat} {ds:List Zf} (h:ZS n q l) (hd:AD ds):ZS ⟨ds,n.routines⟩ q l:=⟨hd,h.len,h.rt,h.rb⟩
section
variable {n n2:Zm} (hd:n2.decls=n.decls) (hr:∀vars op num args,Us n2 vars op num args=Us n vars op num args)
include hd hr
mutual
theorem Zk5:∀(s:Z5) {us:LI},Y2 n2 us s=Y2 n us s
 | .mk op num into args kids,us=>by
  rw [Y2,Y2,hd,hr,Rz kids]
theorem Rz:∀(bs:List Z6) {us:LI} {ms:List LI} {f:Bool} {t:Int},XY n2 us bs ms f t=XY n us bs ms f t
 | [],us,ms,f,t=>by rw [XY,XY]
 | b::r,us,[],f,t=>by rw [XY,XY]
 | b::r,us,m::ms,f,t=>by
  rw [XY,XY,NQ b]
  simp only [Rz r]
theorem Z2d:∀(xs:List Z5) {us:LI},Xp n2 xs us=Xp n xs us
 | [],us=>by rw [Xp,Xp]
 | s::r,us=>by
  rw [Xp,Xp,Zk5 s]
  simp only [Z2d r]
theorem NQ:∀(b:Z6) {us:LI},YT n2 us b=YT n us b
 | .mk steps result,us=>by rw [YT,YT,Z2d steps]
end
end
theorem Z07 {n:Zm}:∀{l:List Yc},(∀r∈l,¬UB r.body<0/\YT n r.params r.body=r.result)->Qy n l=true
 | [],_=>by rw [Qy]
 | r::rs,h=>by rw [Qy,Ze (h r (Xf ..))];exact Z07 fun q hq=>h q (Xr _ hq)
def cF (n:Zm):LI:=if WC n=true then UD n else []
theorem Oc:∀{rs:List Yc} {c:LI} {q:Int},CB c q->0<=q->(∀r∈rs,r.body.sz<=10000000)->CB (TS rs c) (q+10000000*rs.length)
 | [],c,q,h,hq,_=>by rw [TS];exact h.le (by simp)
 | r::rs,c,q,h,hq,hz=>by
  have h0:=hz r (Xf ..)
  have h1:=(CB.b r.body h hq).le (p:=q+10000000) om
  have h2:=Oc h1 om fun p hp=>hz p (Xr _ hp)
  rw [TS]
  refine h2.le ?_
  rw [YW];omega
theorem CX {n:Zm} (hz:V4 n) (hl:n.routines.length<=4):∀x∈cF n,0<=x/\x<=40000000:=by
 intro x hx
 rw [cF] at hx
 split at hx
 ·have h:=Oc (rs:=n.routines) (c:=[0,0,0,0]) (q:=0) ⟨rfl,fun y hy=>by simp at hy;omega⟩ om fun r hr=>hz.body r hr
  have:=h.bd x hx
  omega
 ·cases hx
mutual
def Mk:Z5->Z5
 | .mk op num _ args kids=>.mk op num 0 args (EY kids)
def Hc:Z6->Z6
 | .mk steps result=>.mk (DB steps) result
def DB:List Z5->List Z5
 | []=>[]
 | s::r=>if Yx s.op=true then DB r else Mk s::DB r
def EY:List Z6->List Z6
 | []=>[]
 | b::r=>Hc b::EY r
end
def EW (r:Yc):Yc:=⟨r.params,r.lent,r.result,Hc r.body⟩
def SB (n:Zm):Zm:=⟨n.decls,n.routines.map EW⟩
section
variable {n:Zm}
end
def Mi (n:Zm):Zm:=if WC n=true then SB n else ⟨[],[]⟩
theorem Zfw {n:Zm} (h:WC n=true):Mi n=SB n:=Ze h
theorem Zfv {n:Zm} (h:¬WC n=true):Mi n=⟨[],[]⟩:=Z7 h
noncomputable instance decBlock:DecidableEq Z6:=fun a b=>Classical.propDecidable (a=b)
noncomputable instance decStep:DecidableEq Z5:=fun a b=>Classical.propDecidable (a=b)
noncomputable instance decDecls:DecidableEq Zf:=fun a b=>Classical.propDecidable (a=b)
noncomputable instance decNormal:DecidableEq Zm:=fun a b=>Classical.propDecidable (a=b)
theorem En {α:Type} {xs ys:List α} (h:xs.length=ys.length) (ha:∀i,i<xs.length->xs[i]? = ys[i]?):xs=ys:=List.ext_getElem? fun i=>by
 by_cases hi:i<xs.length
 ·exact ha i hi
 ·rw [CM om,CM om]
theorem Fp {α:Type} {xs ys:List α} {k:Nat} {x y:α} (h:∀i,i<k->xs[i]? = ys[i]?) (hx:xs[k]? = some x) (hy:ys[k]? = some y) (e:x=y):∀i,i<k+1->xs[i]? = ys[i]?:=fun i hi=>
 (Nat.lt_succ_iff_lt_or_eq.1 hi).elim (h i) fun z=>by rw [z,hx,hy,e]
theorem Fo {α:Type} {xs ys:List α}:∀i,i<0->xs[i]? = ys[i]?:=fun i h=>absurd h om
theorem CP {α:Type} {xs ys:List α} {k:Nat} {x y:α} (hx:xs[k]? = some x) (hy:ys[k]? = some y) (e:x≠y):xs≠ys:=fun z=>by rw [z,hy] at hx;cases hx;exact e rfl
theorem Z5.ext4 {s t:Z5} (h1:s.op=t.op) (h2:s.num=t.num) (h3:s.into=t.into) (h4:s.args=t.args) (h5:s.kids=t.kids):s=t:=by cases s;cases t;simp only [Z5.op,Z5.num,Z5.into,Z5.args,Z5.kids] at h1 h2 h3 h4 h5;subst h1 h2 h3 h4 h5;rfl
theorem Z6.ext2 {s t:Z6} (h1:s.steps=t.steps) (h2:s.result=t.result):s=t:=by cases s;cases t;simp only [Z6.steps,Z6.result] at h1 h2;subst h1 h2;rfl
theorem Yg.ext1 {s t:Yg} (h1:s.fields=t.fields):s=t:=by cases s;cases t;simp at h1;rw [h1]
theorem Zf.ext3 {s t:Zf} (h1:s.frm=t.frm) (h2:s.to_=t.to_) (h3:s.cons=t.cons):s=t:=by cases s;cases t;simp at h1 h2 h3;rw [h1,h2,h3]
theorem Yc.ext4 {s t:Yc} (h1:s.params=t.params) (h2:s.lent=t.lent) (h3:s.result=t.result) (h4:s.body=t.body):s=t:=by cases s;cases t;simp at h1 h2 h3 h4;rw [h1,h2,h3,h4]
theorem Zm.ext2 {s t:Zm} (h1:s.decls=t.decls) (h2:s.routines=t.routines):s=t:=by cases s;cases t;simp at h1 h2;rw [h1,h2]
mutual
theorem Zfy:∀(s:Z5),(Mk s).sz<=s.sz
 | .mk op num into args kids=>by rw [Mk,Z5.sz,Z5.sz];have:=SJ kids;omega
theorem SH:∀(b:Z6),(Hc b).sz<=b.sz
 | .mk steps _=>by rw [Hc,Z6.sz,Z6.sz];have:=SK steps;omega
theorem SK:∀(xs:List Z5),Yf (DB xs)<=Yf xs
 | []=>by rw [DB];exact YU _
 | s::r=>by
  rw [DB]
  have h1:=SK r
  have h2:=Zfy s
  split
  ·rw [Yf];omega
  ·rw [Yf,Yf];omega
theorem SJ:∀(xs:List Z6),X3 (EY xs)<=X3 xs
 | []=>by rw [EY];exact YU _
 | b::r=>by
  have h1:=SJ r
  have h2:=SH b
  rw [EY,X3,X3];omega
end
theorem DA {n:Zm} (h:V4 n):V4 (Mi n):=by
 by_cases hv:WC n=true
 ·rw [Zfw hv]
  refine ⟨h.decls,by show (n.routines.map EW).length<=_;rw [QC];exact h.len,?_,?_,?_⟩
  ·intro r hr;obtain ⟨q,hq,rfl⟩:=XF.1 (show r∈n.routines.map EW from hr);exact h.params q hq
  ·intro r hr;obtain ⟨q,hq,rfl⟩:=XF.1 (show r∈n.routines.map EW from hr);exact h.lent q hq
  ·intro r hr;obtain ⟨q,hq,rfl⟩:=XF.1 (show r∈n.routines.map EW from hr);exact VB (SH q.body) (h.body q hq)
 ·rw [Zfv hv]
  exact ⟨⟨by simp,fun d hd=>(by cases hd),fun d hd=>(by cases hd)⟩,by simp,fun r hr=>(by cases hr),fun r hr=>(by cases hr),fun r hr=>(by cases hr)⟩
def Z16:List Yc->Int
 | []=>0
 | r::rs=>UB r.body+Z16 rs
def soA (n:Zm):Int:=Z16 n.routines
mutual
def kS:Z5->Nat
 | .mk op _ _ _ kids=>(if Yx op=true then 1 else 0)+Rg kids
def kB:Z6->Nat
 | .mk steps _=>Rn steps
def Rn:List Z5->Nat
 | []=>0
 | s::r=>kS s+Rn r
def Rg:List Z6->Nat
 | []=>0
 | b::r=>kB b+Rg r
end
section
variable {ds:List Zf}
end
abbrev Mem:=Nat->Nat->Option Value
abbrev C7:=Nat × Nat
def upd (m:Mem) (a:C7) (z:Int):Mem:=fun g o=>if g=a.1/\o=a.2 then some (.int .i64 z) else m g o
def wr (m:Mem):List C7->Int->Mem
 | [],_=>m
 | a::r,k=>wr (upd m a k) r (k+1)
def Kv (m:Mem):List C7->Int->Prop
 | [],_=>True
 | a::r,k=>m a.1 a.2=some (.int .i64 k)/\Kv m r (k+1)
def Rb (m:Mem) (a:C7):Prop:=∃z,m a.1 a.2=some (.int .i64 z)
structure Kp (m m':Mem):Prop where
 i:∀{a:C7},Rb m a->Rb m' a
 h:∀{g o:Nat} {v:Value},m g o=some v->(∀z,v≠.int .i64 z)->m' g o=some v
section
variable {P:Program} {n:Nat} {ops:Array Oper} {B:Fr->List Res->Prop} {k:Nat} {F:Fr} {h h2:List Res}
end
section
variable {m m':Mem} {B:List Nat}
end
section
variable {m:Mem} {B:List Nat} {g:Nat}
end
section
variable {m:Mem} {B:List Nat}
end
def Zn (g lo hi:Nat) (X:List Nat) (a:C7):Prop:=(a.1=g/\lo<=a.2/\a.2<hi)∨a.1∈X
structure Nd (g lo hi:Nat) (X:List Nat) (as1:List C7):Prop where
 nd:(X.Nodup/\g∉X)->as1.Nodup
 zn:∀a∈as1,Zn g lo hi X a
section
variable {m:Mem} {B:List Nat}
end
section
variable {n:Zm} {ln:LI} {L:Zu}
end
structure CR (L:Zu) (cons first:LI):Prop where
 cl:cons.length=L.vars.length
 fl:first.length=L.vars.length
 eq:∀v:Int,0<=v->v<L.vars.length->0<=gI L.con v->gI cons v=gI L.con v/\gI first v=gI L.fst v
theorem Z8o {ds:List Zf} {op num:Int} {k:Nat} {m:LI} (h8:op=8) (h:(X9 ds op num)[k]? = some m):VS ds num k=m:=by
 rw [X9,Z7 om] at h
 exact Ga h

section
variable {N:Mem} {g o:Nat} {z:Int}
end


def Zdf (am:List X1) (x:Int):Bool:=am.any fun o=>o.chg&&(o.mat==x)
def S9 (am:List X1) (a:X1) (b:Z6):Prop:=Zdf am a.mat=true∨(H9 b.steps a.mat<0∨Ed b.steps a.fds.length<0)
instance (am:List X1) (a:X1) (b:Z6):Decidable (S9 am a b):=by unfold S9;infer_instance

section
variable {ds:List Zf}
theorem N7 {b:Z6} {r:List Z6} (h:QB ds (b::r)):wB ds b/\QB ds r:=by rw [QB] at h;exact h
theorem Na {b:Z5} {r:List Z5} (h:Ub ds (b::r)):wS ds b/\Ub ds r:=by rw [Ub] at h;exact h
theorem Z34 {op num into:Int} {args:LI} {kids:List Z6} (h:wS ds (.mk op num into args kids)):QB ds kids:=((BZ _).1 h).2.2.2
end
section
variable {n:Zm}
theorem Zkl {us:LI} {op x:Int} (h:op=16∨op=17):Y2 n us (ZC op x)=(match Xa us x with|some t=>if t=0 then -1 else if XT n.decls t=true then -1 else 0|none=>-1):=by
 rcases h with rfl|rfl<;>simp [ZC,Y2,VE,U5,Qj]<;>rfl
theorem Z4k {us ws:LI} {x t:Int} (h:Xa us x=some t):Xa (us++ws) x=some t:=by
 obtain ⟨h1,h2⟩:=KS h
 refine Q3 ⟨h1.1,by rw [Ys];omega⟩ ?_
 rw [CJ om];exact h2
theorem Zkn {us args:LI} {num:Int} (h:W9 us args [num]=true):∃a,args=[a]/\Xa us a=some num:=by
 have hl:args.length=1:=C2 fun q=>by
  have:=N1 (vars:=us) (args:=args) (types:=[num]) (by simpa using q)
  rw [W9,this] at h;cases h
 obtain ⟨a,rfl⟩:=LS hl
 exact ⟨a,rfl,Fm (i:=0) h rfl rfl⟩
theorem Z6j {ds:List Zf} {t:Int} (h:(ZW ds t).length≠0):0<t:=by
 rw [ZW] at h
 split at h
 ·omega
 ·simp at h
theorem Zk6 {us:LI} {op num into:Int} {args:LI} {ks ls:List Z6} (hl:ls.length=ks.length) (hk:(op=7∨op=8)->0<=XY n us ks (X9 n.decls op num) true 0->W9 us args (if op=7 then [0] else [num])=true ->
  XY n us ls (X9 n.decls op num) true 0=XY n us ks (X9 n.decls op num) true 0) (h:0<=Y2 n us (.mk op num into args ks)):Y2 n us (.mk op num into args ls)=Y2 n us (.mk op num into args ks):=by
 rw [Y2] at h
 rw [Y2,Y2,hl]
 by_cases h7:op=7
 ·subst h7
  simp only [if_true] at hk
  split at h
  ·omega
  ·rename_i hq
   rw [Z7 hq,Z7 hq]
   simp only [show ¬((7:Int)=0) by decide,show ¬((7:Int)=1∨(7:Int)=2∨(7:Int)=3∨(7:Int)=4) by decide,show ¬((7:Int)=5) by decide,show ¬((7:Int)=6) by decide,if_false,if_true] at h ⊢
   split at h
   ·rename_i hty
    rw [Ze hty,Ze hty]
    split at h
    ·omega
    ·rename_i hq2
     rw [Z7 hq2,Z7 hq2]
     first|exact hk (.inl rfl) h hty|exact hk (.inl trivial) h hty|exact hk trivial h hty|exact hk h hty
   ·omega
 ·by_cases h8:op=8
  ·subst h8
   simp only [show ¬((8:Int)=7) by decide,if_false] at hk
   split at h
   ·omega
   ·rename_i hq
    rw [Z7 hq,Z7 hq]
    simp only [show ¬((8:Int)=0) by decide,show ¬((8:Int)=1∨(8:Int)=2∨(8:Int)=3∨(8:Int)=4) by decide,show ¬((8:Int)=5) by decide,show ¬((8:Int)=6) by decide,show ¬((8:Int)=7) by decide,if_false,if_true] at h ⊢
    split at h
    ·rename_i hty
     rw [Ze hty,Ze hty]
     split at h
     ·omega
     ·rename_i hq2
      rw [Z7 hq2,Z7 hq2]
      first|exact hk (.inr rfl) h hty|exact hk (.inr trivial) h hty|exact hk trivial h hty|exact hk h hty
    ·omega
  ·simp only [h7,h8,if_false]
end
section
variable {ds:List Zf}
end
structure CR2 (c d:LI):Prop where
 l1:c.length=4
 l2:d.length=4
 a:gI c 0=gI d 0
 b:gI c 1=gI d 1
 s:gI c 2+gI c 3=gI d 2+gI d 3
section
variable {ds:List Zf}
end
section
variable {ds:List Zf}
end

theorem N3 {n:Zm}:∀{xs ys:List Z5} {us:LI},Xp n (xs++ys) us=(Xp n xs us).bind fun vs=>Xp n ys vs
 | [],ys,us=>by rw [Xp];rfl
 | s::r,ys,us=>by
  rw [Q2,Xp,Xp]
  split
  ·rfl
  ·exact N3
structure Zle (n:Zm) (r:Yc) (k:Nat) (L:Zu):Prop where
 ok:Xd n.decls L (1+4*r.body.sz)
 pre:∃ws,L.vars=r.params++ws
 len:L.vars.length<=r.params.length+r.body.sz
 ty:∀s,r.body.steps[k]? = some s->0<=Y2 n L.vars s
end Go.Abs
section
namespace Go.Abs
section
variable {n n2:Zm} (hd:n2.decls=n.decls) (hr:∀vars op num args,Us n2 vars op num args=Us n vars op num args) (hl:∀op num,B9 n2 op num=B9 n op num)
include hd hr hl
omit hd hr in
omit hd hr in
omit hr in
end
end Go.Abs
namespace Go.Abs
end Go.Abs
end
namespace Go.Abs
section
variable {ds:List Zf}
mutual
theorem Zl8:∀(s:Z5) {m:Nat},wS ds s->wS ds (Tg ds m s)
 | .mk op num into args kids,m,h=>by
  obtain ⟨h1,h2,h3,h4⟩:=(BZ _).1 h
  have hl:∀(bs:List Z6) (k:Nat),(Wk ds m op num args bs k).length=bs.length:=by
   intro bs
   induction bs with
   | nil=>intro k;rw [Wk]
   | cons b r ih=>intro k;rw [Wk,YW,YW,ih]
  rw [Tg]
  refine (BZ _).2 ⟨h1,fun hc=>?_,fun h8=>?_,Z32 kids h4⟩
  ·obtain ⟨a,b,c,d⟩:=h2 hc
   have c:kids=[]:=c
   refine ⟨a,b,?_,d⟩
   show Wk ds m op num args kids 0=[]
   rw [c,Wk]
  ·obtain ⟨a,b⟩:=h3 h8
   exact ⟨a,by show (Wk ds m op num args kids 0).length=_;rw [hl];exact b⟩
theorem Z32:∀(bs:List Z6) {m:Nat} {op num:Int} {args:LI} {k:Nat},QB ds bs->QB ds (Wk ds m op num args bs k)
 | [],_,_,_,_,_,_=>by rw [Wk];exact True.intro
 | b::r,m,op,num,args,k,h=>by
  obtain ⟨h1,h2⟩:=N7 h
  rw [Wk,QB]
  refine ⟨?_,Z32 r h2⟩
  split
  ·exact HH (HI b h1)
  ·exact HI b h1
theorem Z36:∀(xs:List Z5) {m:Nat},Ub ds xs->Ub ds (W2 ds m xs)
 | [],_,_=>by rw [W2];exact True.intro
 | s::r,m,h=>by
  obtain ⟨h1,h2⟩:=Na h
  rw [W2,Ub]
  exact ⟨Zl8 s h1,Z36 r h2⟩
theorem HI:∀(b:Z6) {m:Nat},wB ds b->wB ds (XA ds m b)
 | .mk steps result,m,h=>by
  rw [wB] at h
  rw [XA,wB];exact Z36 steps h
end
end
section
variable {n:Zm}
theorem Z2k {us:LI} {op x:Int} (h:op=14∨op=15):Y2 n us (ZC op x)=(match Xa us x with|some t=>if t=0 then -1 else 0|none=>-1):=by
 rw [ZC,Y2]
 have hv:U5 us op 0=true:=by simp [U5]
 rw [Z7 (by rw [hv];simp),Z7 om,Z7 om,Z7 om,Z7 om,Z7 om,Z7 om,Z7 om,Z7 om,Ze om,Qj]
 cases Xa us x with
 | none=>rfl
 | some t=>
  show (if t=0 then (-1:Int) else if (op≠14/\op≠15)/\XT n.decls t=true then -1 else 0)=if t=0 then -1 else 0
  split
  ·rfl
  ·rw [Z7 om]
theorem Zkk {us:LI} {op x:Int} (h:op=14∨op=15) (g:0<=Y2 n us (ZC op x)):∃t,Xa us x=some t/\t≠0:=by
 rw [Z2k h] at g
 cases ha:Xa us x with
 | none=>rw [ha] at g;exact absurd g (show ¬(0:Int)<=-1 by decide)
 | some t=>
  rw [ha] at g
  refine ⟨t,rfl,fun e=>?_⟩
  subst e
  exact absurd g (show ¬(0:Int)<=(if (0:Int)=0 then -1 else 0) by decide)
theorem Z2l {us:LI} {op x t:Int} (h:op=14∨op=15) (ha:Xa us x=some t) (h0:t≠0):Y2 n us (ZC op x)=0:=by
 rw [Z2k h,ha]
 show (if t=0 then (-1:Int) else 0)=0
 rw [Z7 h0]
theorem Z2n {us:LI}:∀{l:List Z5},(∀s∈l,0<=Y2 n us s/\W7 s.op=false)->Xp n l us=some us
 | [],_=>by rw [Xp]
 | s::r,h=>by
  have h1:=h s (Xf ..)
  rw [Xp,Z7 om,h1.2,Z7 (by decide)]
  exact Z2n fun t ht=>h t (Xr _ ht)
theorem Z66 {op:Int} (h:op=14∨op=15):W7 op=false:=by rcases h with rfl|rfl<;>rfl
theorem SG {us:LI}:∀{l:List Z5} {vs:LI},(∀s∈l,s.op=14∨s.op=15)->Xp n l us=some vs->vs=us/\∀s∈l,0<=Y2 n us s
 | [],vs,_,h=>by rw [Xp] at h;cases h;exact ⟨rfl,fun s hs=>by cases hs⟩
 | s::r,vs,hp,h=>by
  rw [Xp] at h
  split at h
  ·cases h
  ·rename_i h1
   rw [Z66 (hp s (Xf ..)),Z7 (by decide)] at h
   obtain ⟨e,h2⟩:=SG (fun t ht=>hp t (Xr _ ht)) h
   refine ⟨e,fun t ht=>?_⟩
   rcases YH.1 ht with rfl|ht
   ·omega
   ·exact h2 t ht
theorem LX {op a:Int}:∀{l:List Z5},a∈X5 op l->∃s∈l,s.op=op/\gI s.args 0=a
 | [],h=>by cases h
 | s::r,h=>by
  rw [X5] at h
  split at h
  ·rename_i ho
   rcases YH.1 h with e|h
   ·exact ⟨s,Xf ..,ho,e.symm⟩
   ·obtain ⟨t,ht,q⟩:=LX h
    exact ⟨t,Xr _ ht,q⟩
  ·obtain ⟨t,ht,q⟩:=LX h
   exact ⟨t,Xr _ ht,q⟩
theorem S2 {a:Int}:∀{H D:LI},a∈H.foldl List.erase D->a∈D
 | [],D,h=>h
 | x::H,D,h=>by rw [List.foldl_cons] at h;exact List.mem_of_mem_erase (S2 h)
theorem Lo:∀{fs:LI} {q v:Int},v∈Wb fs q->∃(i:Nat) (t:Int),fs[i]? = some t/\t≠0/\v=q+i
 | [],q,v,h=>by simp [Wb] at h
 | f::r,q,v,h=>by
  rw [Wb] at h
  by_cases hf:f≠0
  ·rw [Ze hf] at h
   rcases YH.1 h with e|h
   ·exact ⟨0,f,rfl,hf,by omega⟩
   ·obtain ⟨i,t,h1,h2,h3⟩:=Lo h
    exact ⟨i+1,t,by simpa using h1,h2,by omega⟩
  ·rw [Z7 hf] at h
   obtain ⟨i,t,h1,h2,h3⟩:=Lo h
   exact ⟨i+1,t,by simpa using h1,h2,by omega⟩
theorem Z6i {ds:List Zf} {t:Int} (h:(ZW ds t).length≠0):XT ds t=false:=by
 rw [ZW] at h
 split at h
 ·rename_i h1
  rw [Sd] at h
  rw [XT]
  cases hd:ds[(t-1).toNat]? with
  | none=>rw [hd] at h;exact absurd rfl h
  | some d=>
   rw [hd] at h
   have h2:d.cons.length≠0:=h
   show (decide (1<=t/\t<=ds.length)&&decide (d.cons.length=0))=false
   rw [decide_eq_false h2,Bool.and_false]
 ·exact absurd rfl h
theorem Zgy {ds:List Zf} {xs:List Z5} (hw:Ub ds xs) {op a:Int} (ho:op=14∨op=15) (h:a∈X5 op (xs.take (Yq xs))):ZC op a∈xs.take (Yq xs):=by
 obtain ⟨s,hs,e1,e2⟩:=LX h
 have h3:=HS hw s (Tm hs) (CZ (JB hs))
 rw [h3,e1,e2] at hs
 exact hs
theorem Z40 {us fs vs:LI} {xs:List Z5} {x t:Int} (hw:Ub n.decls xs) (h:Xp n xs (us++fs)=some vs) (hx:Xa us x=some t) (hc:(ZW n.decls t).length≠0):Xp n (Uc xs x fs us.length) (us++fs)=some vs:=by
 rw [Uc]
 split
 ·have h0:=h
  rw [<-Tn (Yq xs) xs,N3] at h
  cases hp:Xp n (xs.take (Yq xs)) (us++fs) with
  | none=>rw [hp] at h;cases h
  | some ws=>
   rw [hp] at h
   obtain ⟨e,hpt⟩:=SG (fun s hs=>JB hs) hp
   subst e
   have h:Xp n (xs.drop (Yq xs)) (us++fs)=some vs:=h
   have hargs:∀{op a:Int},(op=14∨op=15)->a∈X5 op (xs.take (Yq xs))->∃t,Xa (us++fs) a=some t/\t≠0:=fun ho ha=>Zkk (n:=n) ho (hpt _ (Zgy hw ho ha))
   have hheap:∀{v:Int},v∈Wb fs us.length->∃t,Xa (us++fs) v=some t/\t≠0:=fun {v} hv=>by
    obtain ⟨i,t,h1,h2,h3⟩:=Lo hv
    have hl:=(Xq.1 h1).1
    refine ⟨t,Q3 ⟨by omega,by rw [Ys];omega⟩ ?_,h2⟩
    rw [show v.toNat=us.length+i by omega,Bl om,Nat.add_sub_cancel_left]
    exact h1
   rw [N3,Z2n]
   ·exact h
   ·intro s hs
    rw [TI,Dy] at hs
    simp only [Xi,XF,XK] at hs
    rcases hs with (⟨a,ha,rfl⟩|rfl)|⟨a,ha,rfl⟩
    ·obtain ⟨t2,q1,q2⟩:=hargs (.inl rfl) (S2 ha)
     exact ⟨by rw [Z2l (.inl rfl) q1 q2];exact Int.le_refl 0,rfl⟩
    ·refine ⟨?_,rfl⟩
     rw [Zkl (.inl rfl),Z4k hx]
     show 0<=(if t=0 then (-1:Int) else if XT n.decls t=true then -1 else 0)
     have hp:=Z6j hc
     rw [Z7 om,Z6i hc,Z7 (by decide)]
     exact Int.le_refl 0
    ·have:∃t,Xa (us++fs) a=some t/\t≠0:=by
      rcases ha with ha|ha
      ·exact hargs (.inr rfl) (List.mem_of_mem_erase ha)
      ·exact hheap (List.mem_filter.1 ha).1
     obtain ⟨t2,q1,q2⟩:=this
     exact ⟨by rw [Z2l (.inr rfl) q1 q2];exact Int.le_refl 0,rfl⟩
 ·exact h
theorem Z3x {us fs:LI} {b:Z6} {x t:Int} (hw:wB n.decls b) (h:0<=YT n (us++fs) b) (hx:Xa us x=some t) (hc:(ZW n.decls t).length≠0):YT n (us++fs) (VQ b x fs us.length)=YT n (us++fs) b:=by
 rw [CS] at h ⊢
 rw [CS]
 cases hv:Xp n b.steps (us++fs) with
 | none=>rw [hv] at h;exact absurd h (show ¬(0:Int)<=-1 by decide)
 | some vs=>
  have:=Z40 ((JP b).1 hw) hv hx hc
  show (match Xp n (Uc b.steps x fs us.length) (us++fs) with|none=>-1|some vs=>(Xa vs b.result).getD (-1))=_
  rw [this]
mutual
theorem Zi9:∀(s:Z5) {us:LI},wS n.decls s->0<=Y2 n us s->Y2 n us (Tg n.decls us.length s)=Y2 n us s
 | .mk op num into args kids,us,hw,h=>by
  have hl:∀(bs:List Z6) (k:Nat),(Wk n.decls us.length op num args bs k).length=bs.length:=by
   intro bs
   induction bs with
   | nil=>intro k;rw [Wk]
   | cons b r ih=>intro k;rw [Wk,YW,YW,ih]
  rw [Tg]
  have hf:=CF h
  refine Zk6 (hl kids 0) (fun h78 hk hty=>?_) h
  have hm:(X9 n.decls op num).length≠0:=(hf.kids h78).2.1
  refine Z1c kids (fun h8=>?_) (fun h8=>?_) (Z34 hw) hk
  ·have h8':¬op=7:=by omega
   rw [Z7 h8'] at hty
   obtain ⟨a,ha,hat⟩:=Zkn hty
   refine ⟨num,by rw [ha];exact hat,?_,fun i m hi=>?_⟩
   ·rw [X9,Z7 h8',QC] at hm;exact hm
   ·rw [Vl];exact (Z8o h8 hi)
  ·have h7:op=7:=by omega
   intro m hm
   rw [X9,Ze h7] at hm
   simpa using hm
theorem Z1c:∀(bs:List Z6) {us args:LI} {op num:Int} {k:Nat} {ms:List LI} {f:Bool} {t:Int},
  (op=8->∃y,Xa us (gI args 0)=some y/\(ZW n.decls y).length≠0/\∀(i:Nat) (m:LI),ms[i]? = some m->VS n.decls num (k+i)=m)->(¬op=8->∀m∈ms,m=[])->QB n.decls bs ->
  0<=XY n us bs ms f t->XY n us (Wk n.decls us.length op num args bs k) ms f t=XY n us bs ms f t
 | [],us,args,op,num,k,ms,f,t,_,_,_,h=>by rw [Wk]
 | b::r,us,args,op,num,k,[],f,t,_,_,_,h=>by rw [Wk,XY,XY]
 | b::r,us,args,op,num,k,m::ms,f,t,hx,hn8,hw,h=>by
  obtain ⟨w1,w2⟩:=N7 hw
  rw [XY] at h
  split at h
  ·omega
  ·rename_i h1
   have hb:YT n (us++m) (if op=8 then VQ (XA n.decls (us.length+(VS n.decls num k).length) b) (gI args 0) (VS n.decls num k) us.length else XA n.decls us.length b)=YT n (us++m) b:=by
    by_cases h8:op=8
    ·rw [Ze h8]
     obtain ⟨y,hy,hc,hm⟩:=hx h8
     have e:VS n.decls num k=m:=hm 0 m rfl
     have ib:=ML b (us:=us++m) w1 om
     rw [e,<-Ys]
     rw [Z3x (HI b w1) (by rw [ib];omega) hy hc,ib]
    ·rw [Z7 h8]
     have e:=hn8 h8 m (Xf ..)
     subst e
     have ib:=ML b (us:=us++[]) w1 om
     rw [JQ] at ib ⊢
     exact ib
   rw [Wk,XY,XY,hb,Z7 h1,Z7 h1]
   refine Z1c r (fun h8=>?_) (fun h8 q hq=>hn8 h8 q (Xr _ hq)) w2 h
   obtain ⟨y,hy,hc,hm⟩:=hx h8
   refine ⟨y,hy,hc,fun i q hi=>?_⟩
   have:=hm (i+1) q (by simpa using hi)
   rwa [show k+(i+1)=k+1+i by omega] at this
theorem MM:∀(xs:List Z5) {us vs:LI},Ub n.decls xs->Xp n xs us=some vs->Xp n (W2 n.decls us.length xs) us=some vs
 | [],us,vs,_,h=>by rw [W2];exact h
 | s::r,us,vs,hw,h=>by
  obtain ⟨w1,w2⟩:=Na hw
  rw [Xp] at h
  split at h
  ·cases h
  ·rename_i h1
   have e:(Tg n.decls us.length s).op=s.op:=by rw [DJ];rfl
   rw [W2,Xp,Zi9 s w1 om,Z7 h1,e]
   have hd:=Z33 w1
   by_cases hc:Yx s.op=true
   ·rw [hd,hc] at h ⊢
    rw [Ze rfl]
    rw [Z7 (by decide)] at h ⊢
    exact MM r w2 h
   ·have hc':=Jg.2 hc
    rw [hd,hc'] at h ⊢
    rw [Z7 (by decide)]
    rw [Ze (by decide)] at h ⊢
    have:=MM r w2 h
    rw [Ys] at this
    exact this
theorem ML:∀(b:Z6) {us:LI},wB n.decls b->0<=YT n us b->YT n us (XA n.decls us.length b)=YT n us b
 | .mk steps result,us,hw,h=>by
  rw [wB] at hw
  rw [YT] at h
  rw [XA,YT,YT]
  cases hs:Xp n steps us with
  | none=>rw [hs] at h;exact absurd h (show ¬(0:Int)<=-1 by decide)
  | some vs=>rw [MM steps hw hs]
end
end
theorem Zi5 {n:Zm}:∀vars op num args,Us (Wt n) vars op num args=Us n vars op num args:=by
 intro vars op num args
 unfold Us Wt
 dsimp only
 have e:Xa (n.routines.map (Uz n.decls)) num=(Xa n.routines num).map (Uz n.decls):=by
  unfold Xa
  rw [QC]
  split
  ·rw [TM]
  ·rfl
 rw [e]
 cases Xa n.routines num with
 | none=>rfl
 | some r=>rfl
theorem Zi3 (n:Zm):Vy (Wt n)=Vy n:=by
 have e1:(n.routines.map (Uz n.decls)).map Ua=n.routines.map Ua:=by rw [List.map_map];rfl
 have e2:∀rs:List Yc,QV (rs.map (Uz n.decls))=QV rs:=by
  intro rs
  induction rs with
  | nil=>rfl
  | cons r rs ih=>rw [Vt,QV,QV,ih];rfl
 unfold Vy Wt
 dsimp only
 rw [e1,e2,QC]
theorem P8:∀{rs:List Yc},J0 rs=true->∀r∈rs,¬UB r.body<0
 | [],_,r,h=>by cases h
 | x::rs,h,r,hr=>by
  rw [J0] at h
  split at h
  ·cases h
  ·rename_i h1
   rcases YH.1 hr with rfl|hr
   ·exact h1
   ·exact P8 h r hr
theorem Zi6 {n:Zm} (hw:∀r∈n.routines,wB n.decls r.body) (hV:WC n=true) (hf:KZ (Wt n)=true):WC (Wt n)=true:=by
 simp only [WC,W5] at hV
 have hall:=Ms hV.2
 rw [WC,Zi3,hV.1,Bool.true_and]
 refine Z07 fun p hp=>?_
 have hfit:=P8 hf p hp
 obtain ⟨r,hr,rfl⟩:=XF.1 (show p∈n.routines.map (Uz n.decls) from hp)
 obtain ⟨h1,h2⟩:=hall r hr
 have h0:0<=r.result:=by
  have h4:=hV.1
  simp only [Vy,Kf,W5] at h4
  have h3:=Hr h4.2.1.2.2.1 (Ua r) (XF.2 ⟨r,hr,rfl⟩)
  simp only [Jb,W5,decide_eq_true_eq,Ua] at h3
  exact (of_decide_eq_true h3.2.2).1
 refine ⟨hfit,?_⟩
 show YT (Wt n) r.params (XA n.decls r.params.length r.body)=r.result
 rw [NQ (n:=n) (n2:=Wt n) rfl Zi5,ML r.body (hw r hr) (by rw [h2];exact h0),h2]
mutual
def Kz (op:Int):Z5->Nat
 | .mk o _ _ _ kids=>(if o=op then 1 else 0)+Qb op kids
def Qb (op:Int):List Z6->Nat
 | []=>0
 | b::r=>TY op b+Qb op r
def Wz (op:Int):List Z5->Nat
 | []=>0
 | s::r=>Kz op s+Wz op r
def TY (op:Int):Z6->Nat
 | .mk steps _=>Wz op steps
end
theorem Cw (op:Int) (b:Z6):TY op b=Wz op b.steps:=by cases b;rw [TY];rfl
theorem Zdp (op:Int) (s:Z5):Kz op s=(if s.op=op then 1 else 0)+Qb op s.kids:=by cases s;rw [Kz];rfl
theorem EG (op:Int):∀(xs ys:List Z5),Wz op (xs++ys)=Wz op xs+Wz op ys
 | [],ys=>by rw [Bn,Wz,Vl]
 | s::r,ys=>by rw [Q2,Wz,Wz,EG op r ys];omega
theorem GR (op o:Int):∀(l:LI),Wz op (l.map (ZC o))=if o=op then l.length else 0
 | []=>by rw [AE,Wz];split<;>rfl
 | a::r=>by
  rw [Vt,Wz,GR op o r,ZC,Kz,Qb]
  split
  ·rw [YW];omega
  ·rfl
theorem Z5s {op:Int} {c:LI} (hl:c.length=4) {i:Nat} (hi:i<4):gI (TR op c) i=gI c i+(if op=14+i then 1 else 0):=by
 rw [TR]
 split
 ·rename_i ho
  have ho':14<=op/\op<=17:=by simpa [Yx] using ho
  by_cases h:op=14+i
  ·rw [Ze h,Df (x:=op-14) (j:=i) om om]
   rw [show op-14=(i:Int) by omega]
  ·rw [Z7 h,Dg om];omega
 ·rename_i ho
  rw [Z7 (fun e=>ho (by rw [e];simp [Yx];omega))];omega
mutual
theorem Z61:∀(s:Z5) {c:LI} {i:Nat},c.length=4->i<4->gI (JX s c) i=gI c i+Kz (14+i) s
 | .mk op num into args kids,c,i,hl,hi=>by
  rw [JX,O9 kids (by rw [O7];exact hl) hi,Z5s hl hi,Kz]
  split<;>omega
theorem O9:∀(bs:List Z6) {c:LI} {i:Nat},c.length=4->i<4->gI (UC bs c) i=gI c i+Qb (14+i) bs
 | [],c,i,hl,hi=>by rw [UC,Qb];omega
 | b::r,c,i,hl,hi=>by rw [UC,O9 r (FJ b hl).1 hi,O8 b hl hi,Qb];omega
theorem Oe:∀(xs:List Z5) {c:LI} {i:Nat},c.length=4->i<4->gI (T9 xs c) i=gI c i+Wz (14+i) xs
 | [],c,i,hl,hi=>by rw [T9,Wz];omega
 | s::r,c,i,hl,hi=>by rw [T9,Oe r (Od s hl).1 hi,Z61 s hl hi,Wz];omega
theorem O8:∀(b:Z6) {c:LI} {i:Nat},c.length=4->i<4->gI (Tu b c) i=gI c i+TY (14+i) b
 | .mk steps _,c,i,hl,hi=>by rw [Tu,TY];exact Oe steps hl hi
end
def J4 (op:Int):List Yc->Nat
 | []=>0
 | r::rs=>TY op r.body+J4 op rs
theorem Ob:∀{rs:List Yc} {c:LI} {i:Nat},c.length=4->i<4->gI (TS rs c) i=gI c i+J4 (14+i) rs
 | [],c,i,hl,hi=>by rw [TS,J4];omega
 | r::rs,c,i,hl,hi=>by rw [TS,Ob (FJ r.body hl).1 hi,O8 r.body hl hi,J4];omega
theorem Ik (n:Zm) {i:Nat} (hi:i<4):gI (UD n) i=J4 (14+i) n.routines:=by
 rw [UD,Ob rfl hi]
 have:gI [0,0,0,0] (i:Int)=0:=by
  match i,hi with
  | 0,_=>rfl
  | 1,_=>rfl
  | 2,_=>rfl
  | 3,_=>rfl
 omega
theorem Pm:∀(H D:LI),(H.foldl List.erase D).length<=D.length
 | [],D=>YU _
 | x::H,D=>by
  rw [List.foldl_cons]
  exact VB (Pm H _) List.length_erase_le
theorem RE {op:Int}:∀{l:List Z5},(∀s∈l,s.kids=[])->Wz op l=(X5 op l).length
 | [],_=>rfl
 | s::r,h=>by
  rw [Wz,Zdp,h s (Xf ..),Qb,X5,RE fun t ht=>h t (Xr _ ht)]
  split
  ·rw [YW];omega
  ·omega
theorem I4 {op:Int}:∀{l:List Z5},(∀s∈l,s.op≠op)->X5 op l=[]
 | [],_=>rfl
 | s::r,h=>by rw [X5,Z7 (h s (Xf ..)),I4 fun t ht=>h t (Xr _ ht)]
structure SC (f g:Int->Nat) (same:Prop):Prop where
 a:f 14<=g 14
 c:g 16<=f 16
 d:f 17=g 17
 e:f 16=g 16->same
section
variable {ds:List Zf}
theorem Zh9 {xs:List Z5} {x:Int} {fs:LI} {q:Int} (hw:Ub ds xs):SC (fun op=>Wz op (Uc xs x fs q)) (fun op=>Wz op xs) (Uc xs x fs q=xs):=by
 rw [Uc]
 split
 ·have hpre:∀s∈xs.take (Yq xs),s.kids=[]:=fun s hs=>(DQ (C0.1 hw s (Tm hs)) (CZ (JB hs))).2.1
  have hx:∀op,Wz op xs=(X5 op (xs.take (Yq xs))).length+Wz op (xs.drop (Yq xs)):=fun op=>by
   conv=>lhs;rw [<-Tn (Yq xs) xs,EG,RE hpre]
  have h16:X5 16 (xs.take (Yq xs))=[]:=I4 fun s hs e=>by rcases JB hs with z|z<;>omega
  have h17:X5 17 (xs.take (Yq xs))=[]:=I4 fun s hs e=>by rcases JB hs with z|z<;>omega
  have hd:(TI xs x fs q).1.length<=(X5 14 (xs.take (Yq xs))).length:=by rw [TI,Dy];exact Pm _ _
  have key:∀op,Wz op ((TI xs x fs q).1.map (ZC 14)++[ZC 16 x]++(TI xs x fs q).2.map (ZC 15)++xs.drop (Yq xs))=(if (14:Int)=op then (TI xs x fs q).1.length else 0)+(if (16:Int)=op then 1 else 0)+(if (15:Int)=op then (TI xs x fs q).2.length else 0)+Wz op (xs.drop (Yq xs)):=fun op=>by
   rw [EG,EG,EG,GR,GR,show Wz op [ZC 16 x]=if (16:Int)=op then 1 else 0 from GR op 16 [x]]
  refine ⟨?_,?_,?_,fun e=>?_⟩
  ·show Wz 14 _<=Wz 14 xs
   rw [key,hx];simp;omega
  ·show Wz 16 xs<=Wz 16 _
   rw [key,hx,h16];simp
  ·show Wz 17 _=Wz 17 xs
   rw [key,hx,h17];simp
  ·have e:Wz 16 _=Wz 16 xs:=e
   rw [key,hx,h16] at e;simp at e
 ·exact ⟨YU _,YU _,rfl,fun _=>rfl⟩
mutual
theorem Zhg:∀(s:Z5) {m:Nat},wS ds s->SC (fun op=>Kz op (Tg ds m s)) (fun op=>Kz op s) (Tg ds m s=s)
 | .mk o num into args kids,m,h=>by
  have ih:=Z0t kids (m:=m) (op:=o) (num:=num) (args:=args) (k:=0) (Z34 h)
  refine ⟨?_,?_,?_,fun e=>?_⟩
  ·have:=ih.a;simp only [Tg,Kz];omega
  ·have:=ih.c;simp only [Tg,Kz];omega
  ·have:=ih.d;simp only [Tg,Kz];omega
  ·simp only [Tg,Kz] at e
   rw [Tg,ih.e (by show Qb 16 _=Qb 16 _;omega)]
theorem Z0t:∀(bs:List Z6) {m:Nat} {op num:Int} {args:LI} {k:Nat},QB ds bs->SC (fun o=>Qb o (Wk ds m op num args bs k)) (fun o=>Qb o bs) (Wk ds m op num args bs k=bs)
 | [],m,op,num,args,k,_=>⟨by simp only [Wk];exact YU _,by simp only [Wk];exact YU _,by simp only [Wk],fun _=>by rw [Wk]⟩
 | b::r,m,op,num,args,k,h=>by
  obtain ⟨w1,w2⟩:=N7 h
  have ih:=Z0t r (m:=m) (op:=op) (num:=num) (args:=args) (k:=k+1) w2
  have hb:SC (fun o=>TY o (if op=8 then VQ (XA ds (m+(VS ds num k).length) b) (gI args 0) (VS ds num k) m else XA ds m b)) (fun o=>TY o b) ((if op=8 then VQ (XA ds (m+(VS ds num k).length) b) (gI args 0) (VS ds num k) m else XA ds m b)=b):=by
   split
   ·have h1:=MC b (m:=m+(VS ds num k).length) w1
    have h2:=Zh9 (x:=gI args 0) (fs:=VS ds num k) (q:=(m:Int)) ((JP _).1 (HI b (m:=m+(VS ds num k).length) w1))
    have e0:∀o,TY o (VQ (XA ds (m+(VS ds num k).length) b) (gI args 0) (VS ds num k) m)=Wz o (Uc (XA ds (m+(VS ds num k).length) b).steps (gI args 0) (VS ds num k) m):=fun o=>by rw [Cw];rfl
    have h1a:=h1.a
    have h1c:=h1.c
    have h1d:=h1.d
    have h2a:=h2.a
    have h2c:=h2.c
    have h2d:=h2.d
    simp only [Cw] at h1a h1c h1d
    refine ⟨?_,?_,?_,fun e=>?_⟩
    ·simp only [e0];rw [Cw];omega
    ·simp only [e0];rw [Cw];omega
    ·simp only [e0];rw [Cw];omega
    ·simp only [e0] at e
     rw [Cw] at e
     have e1:=h2.e (by show Wz 16 _=Wz 16 _;omega)
     have e2:=h1.e (by simp only [Cw];omega)
     rw [VQ,e1,e2]
     cases b;rfl
   ·exact MC b w1
  have ha:=hb.a
  have hc:=hb.c
  have hd:=hb.d
  have ia:=ih.a
  have ic:=ih.c
  have id':=ih.d
  refine ⟨?_,?_,?_,fun e=>?_⟩
  ·simp only [Wk,Qb] at *;omega
  ·simp only [Wk,Qb] at *;omega
  ·simp only [Wk,Qb] at *;omega
  ·simp only [Wk,Qb] at e ic
   rw [Wk,hb.e (by show TY 16 _=TY 16 _;omega),ih.e (by show Qb 16 _=Qb 16 _;omega)]
theorem Z0v:∀(xs:List Z5) {m:Nat},Ub ds xs->SC (fun o=>Wz o (W2 ds m xs)) (fun o=>Wz o xs) (W2 ds m xs=xs)
 | [],m,_=>⟨by simp only [W2];exact YU _,by simp only [W2];exact YU _,by simp only [W2],fun _=>by rw [W2]⟩
 | s::r,m,h=>by
  obtain ⟨w1,w2⟩:=Na h
  have hs:=Zhg s (m:=m) w1
  have ih:=Z0v r (m:=if Yx s.op=true then m else m+1) w2
  have ha:=hs.a
  have hc:=hs.c
  have hd:=hs.d
  have ia:=ih.a
  have ic:=ih.c
  have id':=ih.d
  refine ⟨?_,?_,?_,fun e=>?_⟩
  ·simp only [W2,Wz] at *;omega
  ·simp only [W2,Wz] at *;omega
  ·simp only [W2,Wz] at *;omega
  ·simp only [W2,Wz] at e
   rw [W2,hs.e (by show Kz 16 _=Kz 16 _;omega),ih.e (by show Wz 16 _=Wz 16 _;omega)]
theorem MC:∀(b:Z6) {m:Nat},wB ds b->SC (fun o=>TY o (XA ds m b)) (fun o=>TY o b) (XA ds m b=b)
 | .mk steps result,m,h=>by
  rw [wB] at h
  have ih:=Z0v steps (m:=m) h
  exact ⟨by simp only [XA,TY];exact ih.a,by simp only [XA,TY];exact ih.c,by simp only [XA,TY];exact ih.d,fun e=>by simp only [XA,TY] at e;rw [XA,ih.e e]⟩
end
theorem Z0u:∀{rs:List Yc},(∀r∈rs,wB ds r.body)->SC (fun o=>J4 o (rs.map (Uz ds))) (fun o=>J4 o rs) (rs.map (Uz ds)=rs)
 | [],_=>⟨YU _,YU _,rfl,fun _=>rfl⟩
 | r::rs,h=>by
  have hs:=MC r.body (m:=r.params.length) (h r (Xf ..))
  have ih:=Z0u (rs:=rs) fun q hq=>h q (Xr _ hq)
  have ha:=hs.a
  have hc:=hs.c
  have hd:=hs.d
  have ia:=ih.a
  have ic:=ih.c
  have id':=ih.d
  have e0:(Uz ds r).body=XA ds r.params.length r.body:=rfl
  refine ⟨?_,?_,?_,fun e=>?_⟩
  ·simp only [Vt,J4,e0] at *;omega
  ·simp only [Vt,J4,e0] at *;omega
  ·simp only [Vt,J4,e0] at *;omega
  ·simp only [Vt,J4,e0] at e
   rw [Vt,ih.e (by show J4 16 _=J4 16 _;omega)]
   congr 1
   rw [Uz,hs.e (by show TY 16 _=TY 16 _;omega)]
end
theorem Zi1 {n:Zm} (hw:∀r∈n.routines,wB n.decls r.body):gI (UD (Wt n)) 0<=gI (UD n) 0/\gI (UD n) 2<=gI (UD (Wt n)) 2/\gI (UD (Wt n)) 3=gI (UD n) 3/\(gI (UD (Wt n)) 2=gI (UD n) 2->Wt n=n):=by
 have h:=Z0u hw
 have e:=fun (m:Zm)=>And.intro (Ik m (i:=0) om) (And.intro (Ik m (i:=2) om) (Ik m (i:=3) om))
 obtain ⟨a0,a2,a3⟩:=e n
 obtain ⟨b0,b2,b3⟩:=e (Wt n)
 have ha:=h.a
 have hc:=h.c
 have hd:=h.d
 have hr:(Wt n).routines=n.routines.map (Uz n.decls):=rfl
 rw [hr] at b0 b2 b3
 refine ⟨?_,?_,?_,fun q=>?_⟩
 ·have a0:gI (UD n) 0=_:=a0
  have b0:gI (UD (Wt n)) 0=_:=b0
  rw [a0,b0];exact Int.ofNat_le.2 ha
 ·have a2:gI (UD n) 2=_:=a2
  have b2:gI (UD (Wt n)) 2=_:=b2
  rw [a2,b2];exact Int.ofNat_le.2 hc
 ·have a3:gI (UD n) 3=_:=a3
  have b3:gI (UD (Wt n)) 3=_:=b3
  rw [a3,b3];exact Yu Int.ofNat hd
 ·have a2:gI (UD n) 2=_:=a2
  have b2:gI (UD (Wt n)) 2=_:=b2
  rw [a2,b2] at q
  have:=h.e (Int.ofNat.inj q)
  rw [Wt,this]
structure OT (ds:List Zf) (L:Zu):Prop where
 own:∀(i:Nat) (x:Int),L.own[i]? = some x->x≠0->∃t,L.vars[i]? = some t/\t≠0
 arm:∀x:Int,0<=x->x<L.vars.length->0<=gI L.con x->∀(i:Nat) (t:Int),(ZX ds (gI L.con x))[i]? = some t->L.vars[(gI L.fst x).toNat+i]? = some t
def Zu.wo (L:Zu) (o:LI):Zu:=⟨L.vars,o,L.par,L.con,L.fst,L.tok⟩
section
variable {n:Zm} {ln:LI}
structure Zlj (ln:LI) (L M:Zu) (l:List Z5):Prop where
 e:M=L.wo M.own
 len:M.own.length=L.own.length
 own:∀v:Int,0<=v->gI M.own v=gI L.own v+(X5 14 l).count v-(X5 15 l).count v
 dup:∀a∈X5 14 l,Wd L ln a=true
 aliv:∀w:Int,0<=w->w<L.vars.length->1<=gI M.own w->Wd L ln w=true
 nn:(∀x∈L.own,0<=x)->∀x∈M.own,0<=x
end
structure Zlf (i:Nat) (L:Zu):Prop where
 o:i<L.own.length
 v:i<L.vars.length
 t:i<L.tok.length
section
variable {ds:List Zf}
theorem Zgh {b:Z6} {x:Int} {fs:LI} {q:Int} (h:b.rng):(VQ b x fs q).rng:=by
 rw [Z6.rng_eq] at h
 rw [VQ,Z6.rng_eq]
 show TK (Uc b.steps x fs q)
 rw [Uc]
 split
 ·rw [Je] at h ⊢
  intro s hs
  simp only [Xi,XF,XK] at hs
  rcases hs with ((⟨a,_,rfl⟩|rfl)|⟨a,_,rfl⟩)|hs
  ·exact DD
  ·exact DD
  ·exact DD
  ·exact h s (List.mem_of_mem_drop hs)
 ·exact h
mutual
theorem Zgi:∀(s:Z5) {m:Nat},s.rng->(Tg ds m s).rng
 | .mk op num into args kids,m,h=>by
  rw [Z5.rng] at h
  rw [Tg,Z5.rng]
  exact ⟨h.1,Z04 kids h.2⟩
theorem Z04:∀(bs:List Z6) {m:Nat} {op num:Int} {args:LI} {k:Nat},Kl bs->Kl (Wk ds m op num args bs k)
 | [],_,_,_,_,_,_=>True.intro
 | b::r,m,op,num,args,k,h=>by
  rw [Wk,Kl]
  refine ⟨?_,Z04 r h.2⟩
  split
  ·exact Zgh (Mr b h.1)
  ·exact Mr b h.1
theorem Z05:∀(xs:List Z5) {m:Nat},TK xs->TK (W2 ds m xs)
 | [],_,_=>True.intro
 | s::r,m,h=>⟨Zgi s h.1,Z05 r h.2⟩
theorem Mr:∀(b:Z6) {m:Nat},b.rng->(XA ds m b).rng
 | .mk steps result,m,h=>by
  rw [Z6.rng] at h
  rw [XA,Z6.rng]
  exact Z05 steps h
end
end
theorem Zi2 {n:Zm} (h:∀r∈n.routines,r.body.rng):∀r∈(Wt n).routines,r.body.rng:=by
 intro r hr;obtain ⟨q,hq,rfl⟩:=XF.1 (show r∈n.routines.map (Uz n.decls) from hr);exact Mr q.body (h q hq)
theorem S8:V4 Ax:=⟨⟨by simp [Ax],fun d hd=>(by cases hd),fun d hd=>(by cases hd)⟩,by simp [Ax],fun r hr=>(by cases hr),fun r hr=>(by cases hr),fun r hr=>(by cases hr)⟩
theorem NO {n:Zm} (hz:V4 n) (hb:US n=true):∀r∈n.routines,wB n.decls r.body:=by
 obtain ⟨h1,_,h3⟩:=FE hz hb
 exact HG h1 hz h3
theorem Z4y {n:Zm} (hb:US n=true):WC n=true:=by rw [US,W5] at hb;exact hb.1
theorem Z1h {n:Zm} (h:(YC n).2=true):US n=true/\KZ (Wt n)=true/\YC n=(Wt n,true):=by
 unfold YC at h ⊢
 split at h
 ·rename_i hb
  rw [Ze hb]
  split at h
  ·rename_i hf;rw [Ze hf];exact ⟨hb,hf,rfl⟩
  ·cases h
 ·cases h
theorem Zi4 {n:Zm} (hz:V4 n) (hd:Wu n.decls) (hw:∀r∈n.routines,wB n.decls r.body) {Q:Nat} (hq:∀r∈n.routines,r.body.sz<=Q) (h9:9*Q<=10000000):V4 (Wt n):=by
 refine ⟨hz.decls,by show (n.routines.map _).length<=_;rw [QC];exact hz.len,?_,?_,?_⟩
 ·intro r hr;obtain ⟨q,hq,rfl⟩:=XF.1 (show r∈n.routines.map (Uz n.decls) from hr);exact hz.params q hq
 ·intro r hr;obtain ⟨q,hq,rfl⟩:=XF.1 (show r∈n.routines.map (Uz n.decls) from hr);exact hz.lent q hq
 ·intro r hr
  obtain ⟨q,hqm,rfl⟩:=XF.1 (show r∈n.routines.map (Uz n.decls) from hr)
  have h1:=Fc hd q.body (m:=q.params.length) (hw q hqm)
  have h2:=q.body.pz_le
  have h3:=hq q hqm
  show (XA n.decls q.params.length q.body).sz<=_
  omega
theorem Zih {n:Zm} (hz:V4 n) {Q:Nat} (hq:∀r∈n.routines,r.body.sz<=Q) (h9:9*Q<=10000000):V4 (YC n).1:=by
 unfold YC
 split
 ·rename_i hb
  split
  ·exact Zi4 hz (FE hz hb).1.decls (NO hz hb) hq h9
  ·exact S8
 ·exact S8
theorem Zig {n:Zm} (h:∀r∈n.routines,r.body.rng):∀r∈(YC n).1.routines,r.body.rng:=by
 unfold YC
 split
 ·split
  ·exact Zi2 h
  ·intro r hr;cases hr
 ·intro r hr;cases hr
theorem O2 {n:Zm} (h:WC n=true):cF n=UD n:=by rw [cF,Ze h]
theorem Zit {n:Zm} (hz:V4 n) (h:(YC n).2=true) :
  (cF n).length=4/\(cF (Wt n)).length=4/\gI (cF (Wt n)) 0<=gI (cF n) 0/\gI (cF n) 2<=gI (cF (Wt n)) 2/\gI (cF (Wt n)) 3=gI (cF n) 3/\(gI (cF (Wt n)) 2=gI (cF n) 2->Wt n=n):=by
 obtain ⟨hb,hf,_⟩:=Z1h h
 have hV:=Z4y hb
 have hw:=NO hz hb
 have hV2:=Zi6 hw hV hf
 rw [O2 hV,O2 hV2]
 obtain ⟨a,b,c,d⟩:=Zi1 hw
 exact ⟨(Ij n.routines rfl).1,(Ij (Wt n).routines rfl).1,a,b,c,d⟩
theorem ZS.held {n n2:Zm} {q l:Nat} (h:ZS n q l) (hh:Nj n n2):ZS n2 (q+4) l:=by
 rcases hh with rfl|⟨f,rt,i,j,v,h1,h2,h3,h4,h5,rfl⟩
 ·exact h.le om (YU _)
 ·have hm:=Y0 h1
  have hz:=h.rt rt hm
  have hb:=h.rb rt hm
  refine h.set h1 om (YU _) hz.2.1 ?_ ⟨?_,?_⟩
  ·rw [Gs,Z6.sz,EZ,EZ]
   have e1:(ZC 14 v).sz=2:=rfl
   have e2:(ZC 15 v).sz=2:=rfl
   have:=hz.2.2.1
   have:=rt.body.sz_eq
   omega
  ·have hg:=hz.2.2.2
   rw [Z6.rng_eq,Je] at hg
   rw [Gs,Z6.rng_eq,Je]
   intro s hs
   rcases DC hs with hs|rfl
   ·rcases DC hs with hs|rfl
    ·exact hg s hs
    ·exact DD
   ·exact DD
  ·rw [Z6.rb_eq,JF] at hb
   rw [Gs,Z6.rb_eq,JF]
   refine ⟨fun s hs=>?_,hb.2⟩
   rcases DC hs with hs|rfl
   ·rcases DC hs with hs|rfl
    ·exact hb.1 s hs
    ·exact Mn
   ·exact Mn
section
variable {n n2:Zm} (hd:n2.decls=n.decls) (hr:∀vars op num args,0<=Us n vars op num args->Us n2 vars op num args=Us n vars op num args)
include hd hr
end
def Du (g l c m kk:Nat):Value:=.slice (some ⟨g,(if c-m=0 then 0 else m*kk),none⟩) (l-m) (c-m)
def MH (P:Program) (ops:Array Oper) (F:Fr) (k:Nat):Option (AV × Int × Nat):=
 match (ZA ops k).op with
 | .slice t x (some lo) none none=>match P.underlying t with
  | some (.slice e)=>match P.info? e with
   | some i=>match F.ev lo with
    | .val (.int _ m)=>some (F.ev x,m,i.size)
    | _=>none
   | none=>none
  | _=>none
 | _=>none
section
variable {P:Program} {n:Nat} {ops:Array Oper} {k:Nat} {F:Fr} {h h2:List Res}
theorem Zjt (j:Nat) {g l c m kk:Nat} {ls:List AV} (hi:MH P ops F k=some (.val (.slice (some ⟨g,0,none⟩) l c),(m:Int),kk)) (hj:h[j]? = some (.row (.slice (some ⟨g,0,none⟩) l c) kk ls)) (hle:m<=l) :
  Xy P (ZA ops k) F h [] (.val (Du g l c m kk)):=by
 unfold MH at hi
 generalize hoo:ZA ops k=o at hi
 obtain ⟨dst,op,type,pos,after,guard⟩:=o
 cases op<;>simp only at hi<;>try (cases hi)
 rename_i t x lo hi' mx
 cases lo with
 | none=>simp at hi
 | some y=>
  cases hi' with
  | some _=>simp at hi
  | none=>
   cases mx with
   | some _=>simp at hi
   | none=>
    simp only at hi
    split at hi
    ·rename_i e ht
     split at hi
     ·rename_i inf hinf
      split at hi
      ·rename_i ik m' hm
       simp only [Wm,Prod.mk.injEq] at hi
       obtain ⟨hx,rfl,hkk⟩:=hi
       intro n w G a hF hh
       have v1:=hF.ev x
       rw [hx] at v1
       have v1:=v1.val_inv
       have v2:=hF.ev y
       rw [hm] at v2
       have v2:=v2.val_inv
       have hcap:l<=c:=by
        rcases hh.ok _ (Y0 hj) with ⟨h0,_⟩|⟨g',l',c',cur,el,h0,_,hc,_⟩
        ·cases h0
        ·cases h0;exact hc
       refine ⟨_,.val,fun w' _ _=>?_⟩
       simp only [execOp,v1,v2,C6,Option.map_none]
       refine Vi ?_
       simp only [Instr.sliceAt,Sem.run_bind,VG ht,Result.andThen_ok,Instr.slice]
       have hmm:(Instr.sliceBounds true l c (some (.int ik (m:Int))) none none).run P w'=.ok (m,l,c) w':=by
        have Yo:=DF (P:=P) (c:=BoundsCode.sliceB) (v:=.int ik (m:Int)) (y:=l) rfl om om w'
        simp [Instr.sliceBounds,Yo]
       rw [hmm]
       simp only [Result.andThen_ok,QZ hinf,Du,hkk]
       by_cases h0:c-m=0
       ·have e0:c=m:=by omega
        simp [e0]
       ·have e0:¬c=m:=fun z=>h0 om
        simp [e0,h0,Addr.add]
        exact fun z=>z.symm
      ·cases hi
     ·cases hi
    ·cases hi
theorem Rj (j g l c m kk:Nat) (ls:List AV) (hle:m<=l:=by omega) (hi:MH P ops F k=some (.val (.slice (some ⟨g,0,none⟩) l c),(m:Int),kk):=by kernel_rfl) (hj:h[j]? = some (.row (.slice (some ⟨g,0,none⟩) l c) kk ls):=by kernel_rfl) :
  Xy P (ZA ops k) F h [] (.val (Du g l c m kk)):=Zjt j hi hj hle
theorem Zfd {K:Fr->List Res->Prop} {g len cap i m sz:Nat} {ls:List AV} (hd:VD n (ZA ops k)=true) (ha:UQ P ops F k=some (.val (.slice (some ⟨g,0,none⟩) i cap),.val (Du g len cap m sz),sz))
  (hone:ls.all AV.one=true) (him:i<=m) (hml:m<=len)
  (hK:K (F.put (ZA ops k).dst (.val (.slice (some ⟨g,0,none⟩) (i+(len-m)) cap))) (.row (.slice (some ⟨g,0,none⟩) (i+(len-m)) cap) sz (ls.take (i*sz)++ls.drop (m*sz))::h2)):WI P n (ZA ops k) F (.row (.slice (some ⟨g,0,none⟩) len cap) sz ls::h2) K:=by
 unfold UQ at ha
 generalize hoo:ZA ops k=o at ha hd hK
 obtain ⟨dst,op,type,pos,after,guard⟩:=o
 cases op<;>simp only at ha<;>try (cases ha)
 rename_i c
 obtain ⟨callee,args,tys⟩:=c
 simp only at ha
 split at ha
 case h_2=>cases ha
 rename_i s x t t' hargs htys
 split at ha
 case h_2=>cases ha
 rename_i e htt ht
 have:=UO htt
 subst this
 split at ha
 case h_2=>cases ha
 rename_i inf hinfo
 split at ha
 case h_2=>cases ha
 rename_i z hz
 split at ha
 case h_2=>cases ha
 rename_i hb
 simp only [W5] at hb
 simp only [Wm,Prod.mk.injEq] at ha
 obtain ⟨h3,h4,hk1⟩:=ha
 have e1:args=#[s,x]:=by rw [<-Uk (xs:=args),hargs]
 have e2:tys=#[t,t]:=by rw [<-Uk (xs:=tys),htys]
 subst e1;subst e2
 intro Q w G a hF hh
 have v1:=hF.ev s
 have v2:=hF.ev x
 rw [h3] at v1
 rw [h4] at v2
 have v1:=v1.val_inv
 have v2:=v2.val_inv
 rcases hh.ok _ (Xf ..) with ⟨h0,_⟩|⟨g',len',cap',cur,el,h0,hrow,hlc,hcur,hll,hcells⟩
 ·cases h0
 ·cases h0
  have q5:len*sz<=cap*sz:=Kh _ hlc
  have q6:m*sz<=len*sz:=Kh _ hml
  have q7:i*sz<=m*sz:=Kh _ him
  have q8:(len-m)*sz=len*sz-m*sz:=Nat.sub_mul ..
  have q9:(i+(len-m))*sz=i*sz+(len-m)*sz:=K3 ..
  have hcl:cur.toList.length=cap*sz:=by rw [Jf,hcur]
  have h1:(cur.toList.take (len*sz)).length=len*sz:=by rw [WW,hcl,Ul q5]
  have hnl:((cur.toList.take (len*sz)).drop (m*sz)).length=(len-m)*sz:=by rw [Bm,h1];omega
  have hr:=Hg (P:=P) w t type e el inf ht hinfo g i cap cur hrow ⟨g,(if cap-m=0 then 0 else m*sz),none⟩ (len-m) (cap-m) ((cur.toList.take (len*sz)).drop (m*sz)) (by rw [hk1];exact hnl)
   (fun j u hj=>by
    have hjl:=(Xq.1 hj).1
    rw [hnl] at hjl
    have hne:¬cap-m=0:=fun z=>by
     have:len-m=0:=by omega
     rw [this] at hjl;omega
    rw [Z7 hne,Jk,cell_of_row w g _ cur el (0,0) hrow]
    rw [CK,Qf] at hj
    split at hj
    ·simpa using hj
    ·cases hj)
   (fun u hu=>hcells.one_cells hone u (List.mem_of_mem_drop hu)) om (by rw [hk1,hnl,hcur];omega)
  rw [hk1] at hr
  have hti:(cur.toList.take (i*sz)).length=i*sz:=by rw [WW,hcl,Ul om]
  obtain ⟨j1,j2⟩:=hh.rgrow (ls':=ls.take (i*sz)++ls.drop (m*sz)) (len':=i+(len-m)) (cs':=(cur.toList.take (i*sz)++(cur.toList.take (len*sz)).drop (m*sz)++cur.toList.drop (i*sz+((cur.toList.take (len*sz)).drop (m*sz)).length)).toArray) hrow
   (by simp only [DU,Ys,hti,hnl,Bm,hcl,hcur];omega) om hcur (by rw [Ys,WW,Bm,hll,q9,Ul om];omega) (by
    have:(cur.toList.take (i*sz)++(cur.toList.take (len*sz)).drop (m*sz)++cur.toList.drop (i*sz+((cur.toList.take (len*sz)).drop (m*sz)).length)).toArray.toList.take ((i+(len-m))*sz)=cur.toList.take (i*sz)++(cur.toList.take (len*sz)).drop (m*sz):=by
     rw [DV,q9,<-hnl]
     conv=>lhs;arg 1;rw [show i*sz+((cur.toList.take (len*sz)).drop (m*sz)).length=(cur.toList.take (i*sz)++(cur.toList.take (len*sz)).drop (m*sz)).length from by rw [Ys,hti]]
     exact AG
    rw [this]
    have ht1:=hcells.take (i*sz)
    rw [List.take_take,Ul om] at ht1
    exact ht1.append (hcells.drop (m*sz)))
  generalize hW:w.setRow g (cur.toList.take (i*sz)++(cur.toList.take (len*sz)).drop (m*sz)++cur.toList.drop (i*sz+((cur.toList.take (len*sz)).drop (m*sz)).length)).toArray=W at hr j1 j2
  have hrun:(execOp a.eval { dst:=dst,op:=.call { callee:=.builtin .append,args:=#[s,x],argTypes:=#[t,t] },type:=type,pos:=pos,after:=after,guard:=guard }).run P w=.ok (.value (.slice (some ⟨g,0,none⟩) (i+(len-m)) cap)) W:=by
   simp only [execOp,resolve,invoke,builtin,Sem.run_bind,Sem.run_pure,Result.andThen_ok,C3,Vt,AE,v1,v2,Du]
   rw [hr]
   rfl
  unfold Oper.wp
  rw [hrun]
  exact ⟨_,_,G,hK,(hF.mono (j2.agree hh)).put (UU hd) .val,j1,j2⟩
end
section
variable {P:Program} {n:Nat} {ops:Array Oper} {B:Fr->List Res->Prop} {T:List (Nat × List Nat)} {fuel:Nat} {done:List Nat} {k:Nat} {F:Fr} {h:List Res}
theorem Oy (q j:Nat) (js bs:List Nat) (g len cap i m sz:Nat) (ls:List AV) (hone:ls.all AV.one=true)
  (H:YX P n ops B (T.filter fun t=>!Ve ops q t.1) fuel (done++[q]) (F.put (ZA ops q).dst (.val (.slice (some ⟨g,0,none⟩) (i+(len-m)) cap))) (.row (.slice (some ⟨g,0,none⟩) (i+(len-m)) cap) sz (ls.take (i*sz)++ls.drop (m*sz))::XM [j] h)) (him:i<=m:=by omega) (hml:m<=len:=by omega)
  (hk:Xc n ops F q=true:=by kernel_rfl) (ha:UQ P ops F q=some (.val (.slice (some ⟨g,0,none⟩) i cap),.val (Du g len cap m sz),sz):=by kernel_rfl) (hp:Wr [j] h=some [.row (.slice (some ⟨g,0,none⟩) len cap) sz ls]:=by kernel_rfl) (ho:Uj ops q T=bs:=by kernel_rfl)
  (hj:js.map (fun z=>(WO (XM [j] h))[z]?)=bs.map some:=by kernel_rfl):VI P n ops B T fuel done F h q:=
 KW [j] js bs hk (VO hp) ho hj (Zfd (h2:=[]) (VW hk).2.1 ha hone him hml H)
end
theorem Z83 (xs:List Yc) (k:Nat) (d:Yc):X6 (xs.set k d)=(X6 xs).set k (K5 d):=by simp [X6,List.map_set]
theorem Ge (xs:List Yc):(Zi (X6 xs)).length=xs.length*5:=by rw [UX (k:=5) _ (Ql xs)];simp
theorem Z8z {ds:List Yc} {k:Nat} (d:Yc) (hk:k<ds.length):(Zi (X6 ds)).take (k*5)++(K5 d).leaves++(Zi (X6 ds)).drop (k*5+5)=Zi (X6 (ds.set k d)):=by
 rw [Z83];exact Gg (y:=K5 d) (Ql ds) rfl (by simpa using hk)
theorem Z7n (xs:List Z6) (k:Nat) (d:Z6):YS (xs.set k d)=(YS xs).set k (Y7 d):=by
 simp [Q6,List.map_set]
theorem Et (xs:List Z6):(Zi (YS xs)).length=xs.length*2:=by rw [UX (k:=2) _ (Kq xs)];simp
theorem Z8t {ds:List Z6} {k:Nat} (d:Z6) (hk:k<ds.length):(Zi (YS ds)).take (k*2)++(Y7 d).leaves++(Zi (YS ds)).drop (k*2+2)=Zi (YS (ds.set k d)):=by
 rw [Z7n];exact Gg (y:=Y7 d) (Kq ds) (by cases d;rfl) (by simpa using hk)
theorem Wh.frzN {P:Program} {f:FuncId} {as1:List AV} {h0:List Res} {ds:List Zf} {rs:List Yc} {hs:List Res}
  (H:Wh P f as1 h0 (fun r h=>∃g c:Nat,r=.agg [ZP ds,.ms g 0 rs.length c]/\h=.row (.slice (some ⟨g,0,none⟩) rs.length c) 5 (Zi (X6 rs))::hs)) :
  Wh P f as1 h0 (fun r h=>r=.agg [ZP ds,KC rs]/\h=hs):=by
 intro w G vs hv hh
 refine (H w G vs hv hh).mono ?_
 rintro e w' ⟨u,r,h',G',he,⟨gb,c,rfl,rfl⟩,hr,hh',hx⟩
 obtain ⟨G2,h1,h2,h3⟩:=CA hh' (Ql _) om
 have hA:U6 G' w' w' G2:=h2.agree hh'
 refine ⟨u,_,hs,G2,he,⟨rfl,rfl⟩,?_,(h1.perm (List.perm_append_comm (l₁:=[_]))).left,(hx.trans h2).sub' (AF _ _)⟩
 cases hr with
 | agg hc=>
  cases hc with
  | cons k1 t1=>
   cases t1 with
   | cons k2 t2=>
    cases t2
    have hv2:=k2.val_inv
    subst hv2
    refine .agg (.cons (k1.mono hA) (.cons ?_ .nil))
    have hw:Zc (.sl (X6 rs) (some (.slice (some ⟨gb,0,none⟩) rs.length c))) (KC rs):=Zc.forget _ _
    exact hw _ _ _ h3
theorem Z95 (v:Value) (k:Nat) (ls ks:List AV) (b o:Nat):Res.fp (.row v k ks) b o=Res.fp (.vec v ls) b o:=by
 cases v with
 | slice a _ _=>cases a<;>rfl
 | _=>rfl
theorem Zl2 {w:World} {G:Yd} {v:Value} {ls:List AV} {h2:List Res} (hh:Yw w G (.vec v ls::h2)):Yw w G (.row v 1 ls::h2)/\YY w G (.vec v ls::h2) w G (.row v 1 ls::h2):=by
 have hpw:=Vj.1 hh.apart
 have hf:∀b o,Res.fp (.row v 1 ls) b o->Res.fp (.vec v ls) b o:=fun b o h=>by rw [Z95 v 1 ls ls] at h;exact h
 refine ⟨⟨fun r hr=>?_,Vj.2 ⟨fun r hr b o f1 f2=>hpw.1 r hr b o (hf b o f1) f2,hpw.2⟩,fun r hr b o f1 hg=>?_,hh.lt⟩,⟨rfl,rfl,rfl,YU _,fun _ _ h=>h,fun _ _=>.inl rfl,fun _ _ _ h=>.inl h,fun b o _ ⟨r,hr,f1⟩=>?_⟩⟩
 ·rcases YH.1 hr with rfl|hr
  ·rcases hh.ok _ (Xf ..) with h0|⟨g,cap,cur,e,h0,h1,h3,h4,h5⟩
   ·exact .inl h0
   ·exact .inr ⟨g,ls.length,cap,cur,e,h0,h1,h3,by rw [h4,K4],by rw [K4],by rw [K4];exact h5⟩
  ·exact hh.ok r (Xr _ hr)
 ·rcases YH.1 hr with rfl|hr
  ·exact hh.prot _ (Xf ..) b o (hf b o f1) hg
  ·exact hh.prot r (Xr _ hr) b o f1 hg
 ·rcases YH.1 hr with rfl|hr
  ·exact ⟨_,Xf ..,hf b o f1⟩
  ·exact ⟨r,Xr _ hr,f1⟩
theorem Pg:∀xs:LI,Zi (Z8 xs)=Z8 xs
 | []=>rfl
 | x::r=>Yu (AV.i x::·) (Pg r)
section
variable {h:List Res}
theorem AB (j:Nat) (v:Hd) (xs:LI) (hp:Wr [j] h=some [rV v xs]:=by kernel_rfl):Tp h (.row v.v 1 (Zi (Z8 xs))::XM [j] h):=by
 have e:Zi (Z8 xs)=Z8 xs:=Pg xs
 rw [e]
 intro w G hh
 have hp':=Ux (VO hp)
 obtain ⟨a,b⟩:=Zl2 (hh.perm hp')
 exact ⟨G,a,b.perm hp'.symm (K1 _)⟩
end
def Bd (bs:LI) (p:Nat) (mx:Int):Int:=
 if mx<1∨bs.length=0 then 0 else if p<bs.length then (bs[p]?).getD 0 % mx else
  Bj ((((bs[p % bs.length]?).getD 0*131+(bs[(p*7+3) % bs.length]?).getD 0*1117)+((p*29:Nat):Int))+(((p / bs.length:Nat):Int)*53))
   (((((bs[p % bs.length]?).getD 0*131+(bs[(p*7+3) % bs.length]?).getD 0*1117)+((p*29:Nat):Int))+(((p / bs.length:Nat):Int)*53)) / 64) % mx
theorem Zfs {bs:LI} {p:Nat} {mx:Int} (h:0<mx):0<=Bd bs p mx/\Bd bs p mx<mx:=by
 rw [Bd]
 split
 ·omega
 ·split
  ·exact ⟨Int.emod_nonneg _ om,Int.emod_lt_of_pos _ h⟩
  ·exact ⟨Int.emod_nonneg _ om,Int.emod_lt_of_pos _ h⟩
theorem Z8s {xs:List Z6} {k:Nat} {b:Z6} (h:xs[k]? = some b):Zi (YS (xs.take k))++Zi [Y7 b]=Zi (YS (xs.take (k+1))):=by
 rw [V1 h,Cg,UG]
 congr 1
 rw [Q6];rfl
def EH (s:Z5) (u:Value):List AV:=[.i s.op,.i s.num,.i s.into,Z4 s.args,.val u]
def Eu (b:Z6) (k:Nat):Z5:=(b.steps[k]?).getD (ZC 0 0)
theorem Gi {b:Z6} {k:Nat} {s:Z5} (h:b.steps[k]? = some s):Eu b k=s:=by rw [Eu,h];rfl
def V8 (b:Z6) (kk:Nat) (u:Value) (k:Nat):List AV:=if k<=kk then Zi (ZF (b.steps.take k)) else Zi (ZF (b.steps.take kk))++(EH (Eu b kk) u++Zi (ZF ((b.steps.take k).drop (kk+1))))
def TE (b:Z6) (kk k:Nat):List AV:=if k<=kk then [] else Zi (YS (Eu b kk).kids)
theorem Rt {b:Z6} {kk:Nat} {u:Value}:V8 b kk u 0=[]:=by rw [V8,Ze (Af _),List.take_zero,VL];rfl
theorem Rw {b:Z6} {kk:Nat}:TE b kk 0=[]:=Ze (Af _)
theorem LG {b:Z6} {kk k:Nat} {u:Value} (h:k<=b.steps.length):(V8 b kk u k).length=k*5:=by
 rw [V8]
 split
 ·rw [As,WW,Ul h]
 ·rename_i q
  have e:(EH (Eu b kk) u).length=5:=rfl
  rw [Ys,Ys,As,As,Bm,WW,WW,e,Ul h,Ul om]
  omega
theorem Rr {b:Z6} {kk k:Nat} {u:Value} {s:Z5} (hs:b.steps[k]? = some s) (hk:¬k=kk):V8 b kk u k++Zi [YF s]=V8 b kk u (k+1):=by
 have hkl:=(Xq.1 hs).1
 by_cases q:k<=kk
 ·rw [V8,Ze q,V8,Ze om]
  exact Z92 hs
 ·rw [V8,Z7 q,V8,Z7 om,UN,UN]
  congr 2
  rw [V1 hs,List.drop_append_of_le_length (by rw [WW];omega),V6,UG]
  congr 1
  rw [VL];rfl
theorem Ru {b:Z6} {kk k:Nat} (hk:¬k=kk):TE b kk k=TE b kk (k+1):=by
 by_cases q:k<=kk
 ·rw [TE,Ze q,TE,Ze om]
 ·rw [TE,Z7 q,TE,Z7 om]
theorem Rs {b:Z6} {kk:Nat} {u u2:Value} {s:Z5} (hs:b.steps[kk]? = some s):V8 b kk u kk++EH s u2=V8 b kk u2 (kk+1):=by
 rw [V8,Ze (YU _),V8,Z7 om,Gi hs,HN (by rw [WW];omega),VL]
 show _=_++(EH s u2++Zi [])
 rw [Z93,JQ]
theorem Rv {b:Z6} {kk:Nat} {s:Z5} (hs:b.steps[kk]? = some s):Zi (YS s.kids)=TE b kk (kk+1):=by
 rw [TE,Z7 om,Gi hs]
theorem Z0x {α:Type}:∀(A X:List α) (m:Nat) (y:α),(A++X).set (A.length+m) y=A++X.set m y
 | [],X,m,y=>by simp
 | a::r,X,m,y=>by
  have:=Z0x r X m y
  rw [Q2,YW,show r.length+1+m=(r.length+m)+1 by omega,List.set_cons_succ,this,Q2]
theorem Zay {α:Type} (A X:List α) (m:Nat):(A++X)[A.length+m]? = X[m]?:=by
 rw [Bl om];congr 1;omega
section
variable {b:Z6} {kk:Nat} {u:Value} {s:Z5}
theorem LF (hs:b.steps[kk]? = some s):V8 b kk u b.steps.length=Zi (ZF (b.steps.take kk))++(EH s u++Zi (ZF (b.steps.drop (kk+1)))):=by
 have hk:=(Xq.1 hs).1
 rw [V8,Z7 om,Gi hs,Vu]
theorem LE (hs:b.steps[kk]? = some s):(Zi (ZF (b.steps.take kk))).length=kk*5:=by
 have hk:=(Xq.1 hs).1
 rw [As,WW,Ul om]
theorem Zdi (hs:b.steps[kk]? = some s):(V8 b kk u b.steps.length)[kk*5+4]? = some (.val u):=by
 rw [LF hs,<-LE hs,Zay];rfl
theorem GQ (hs:b.steps[kk]? = some s):((V8 b kk u b.steps.length).drop (kk*5+4)).take 1=[.val u]:=by
 rw [LF hs,<-LE hs,<-List.drop_drop,List.drop_left];rfl
theorem Z91 {xs:List Z5} {k:Nat} {t:Z5} (hk:k<xs.length):Zi (ZF (xs.set k t))=Zi (ZF (xs.take k))++(Xx t++Zi (ZF (xs.drop (k+1)))):=by
 rw [Fw,Ze hk,V6,UG,Gf]
theorem Zdj (hs:b.steps[kk]? = some s) (ks:List Z6):(V8 b kk u b.steps.length).set (kk*5+4) (.sl (YS ks) none)=Zi (ZF (b.steps.set kk ⟨s.op,s.num,s.into,s.args,ks⟩)):=by
 have hk:=(Xq.1 hs).1
 rw [LF hs,<-LE hs,Z0x,Z91 hk];rfl
theorem LH (hs:b.steps[kk]? = some s):TE b kk b.steps.length=Zi (YS s.kids):=by
 have hk:=(Xq.1 hs).1
 rw [TE,Z7 om,Gi hs]
theorem Zdk (hs:b.steps[kk]? = some s):b.steps.set kk ⟨s.op,s.num,s.into,s.args,s.kids⟩=b.steps:=by
 have e:Z5.mk s.op s.num s.into s.args s.kids=s:=by cases s;rfl
 rw [e]
 apply List.ext_getElem?
 intro i
 rw [List.getElem?_set]
 split
 ·rename_i q;subst q;rw [Ze (Xq.1 hs).1];exact hs.symm
 ·rfl
end
theorem Vc.set:∀(ls:List AV) (p:Nat) {x y:AV},Zc x y->Vc (ls.set p x) (ls.set p y)
 | [],_,_,_,_=>.nil
 | a::r,0,_,_,h=>.cons h (Vc.refl r)
 | a::r,p+1,_,_,h=>.cons (Zc.refl a) (Vc.set r p h)
theorem Vc.len:∀{xs ys:List AV},Vc xs ys->ys.length=xs.length
 | _,_,.nil=>rfl
 | _,_,.cons _ t=>by rw [YW,YW,t.len]
theorem Z94 (v:Value) (k:Nat) (ls ks:List AV):Res.fp (.row v k ks)=Res.fp (.row v k ls):=by
 cases v with
 | slice a _ _=>cases a<;>rfl
 | _=>rfl
theorem Zgv {w:World} {G:Yd} {v:Value} {k:Nat} {ls ls':List AV} {h2:List Res} (hle:Vc ls ls') (hh:Yw w G (.row v k ls::h2)):Yw w G (.row v k ls'::h2)/\YY w G (.row v k ls::h2) w G (.row v k ls'::h2):=by
 have hpw:=Vj.1 hh.apart
 have hf:∀b o,Res.fp (.row v k ls') b o->Res.fp (.row v k ls) b o:=fun b o h=>by rw [Z94 v k ls ls'] at h;exact h
 refine ⟨⟨fun r hr=>?_,Vj.2 ⟨fun r hr b o f1 f2=>hpw.1 r hr b o (hf b o f1) f2,hpw.2⟩,fun r hr b o f1 hg=>?_,hh.lt⟩,⟨rfl,rfl,rfl,YU _,fun _ _ h=>h,fun _ _=>.inl rfl,fun _ _ _ h=>.inl h,fun b o _ ⟨r,hr,f1⟩=>?_⟩⟩
 ·rcases YH.1 hr with rfl|hr
  ·rcases hh.ok _ (Xf ..) with ⟨h0,h1⟩|⟨g,len,cap,cur,e,h0,h1,h3,h4,h5,h6⟩
   ·subst h1;cases hle;exact .inl ⟨h0,rfl⟩
   ·exact .inr ⟨g,len,cap,cur,e,h0,h1,h3,h4,by rw [hle.len];exact h5,hle.cs h6⟩
  ·exact hh.ok r (Xr _ hr)
 ·rcases YH.1 hr with rfl|hr
  ·exact hh.prot _ (Xf ..) b o (hf b o f1) hg
  ·exact hh.prot r (Xr _ hr) b o f1 hg
 ·rcases YH.1 hr with rfl|hr
  ·exact ⟨_,Xf ..,hf b o f1⟩
  ·exact ⟨r,Xr _ hr,f1⟩
section
variable {h:List Res}
theorem Z2e (j i:Nat) (b:Z6) (kk:Nat) (s:Z5) (ks:List Z6) (u v:Value) (hs:b.steps[kk]? = some s) (hp:Wr [j,i] h=some [.row u 2 (Zi (YS ks)),.row v 5 (V8 b kk u b.steps.length)]:=by kernel_rfl) :
  Tp h (.row v 5 (Zi (ZF (b.steps.set kk ⟨s.op,s.num,s.into,s.args,ks⟩)))::.tail u 2::XM [j,i] h):=by
 intro w G hh
 obtain ⟨G',a1,a2⟩:=Z2j j i (kk*5+4) hp (Kq ks) om (Zdi hs) w G hh
 obtain ⟨b1,b2⟩:=Zgv (Vc.set _ (kk*5+4) (Zc.forget (YS ks) (some u))) a1
 rw [Zdj hs] at b1 b2
 exact ⟨G',b1,a2.trans b2⟩
theorem MW (j i:Nat) (b:Z6) (kk:Nat) (s:Z5) (u v:Value) (hs:b.steps[kk]? = some s) (hp:Wr [j,i] h=some [.row u 2 (TE b kk b.steps.length),.row v 5 (V8 b kk u b.steps.length)]:=by kernel_rfl) :
  Tp h (.row v 5 (Zi (ZF b.steps))::.tail u 2::XM [j,i] h):=by
 have Yi:Wr [j,i] h=some [.row u 2 (Zi (YS s.kids)),.row v 5 (V8 b kk u b.steps.length)]:=by rw [hp,LH hs]
 have:=Z2e j i b kk s s.kids u v hs Yi
 rwa [Zdk hs] at this
end
theorem Pc {xs:List Z5} {k:Nat} (hk:k<xs.length):(Zi (ZF xs)).take (k*5)++(Zi (ZF xs)).drop ((k+1)*5)=Zi (ZF (xs.take k++xs.drop (k+1))):=by
 have h1:(Zi (ZF (xs.take k))).length=k*5:=by rw [As,WW,Ul om]
 have h2:(Zi (ZF (xs.take (k+1)))).length=(k+1)*5:=by rw [As,WW,Ul om]
 have e1:Zi (ZF xs)=Zi (ZF (xs.take k))++Zi (ZF (xs.drop k)):=by rw [<-UG,<-V6,Tn]
 have e2:Zi (ZF xs)=Zi (ZF (xs.take (k+1)))++Zi (ZF (xs.drop (k+1))):=by rw [<-UG,<-V6,Tn]
 rw [V6,UG]
 congr 1
 ·rw [e1,<-h1,AG]
 ·conv=>lhs;rw [e2,<-h2,List.drop_left]
theorem Z8r {xs:List Z6} {i:Nat} {s:Z6} (h:xs[i]? = some s):((Zi (YS xs)).drop (i*2)).take 2=Xs s:=by
 have hi:=(Xq.1 h).1
 have h1:(Zi (YS (xs.take i))).length=i*2:=by rw [Et,WW,Ul om]
 have e1:Zi (YS xs)=Zi (YS (xs.take i))++Zi (YS (xs.drop i)):=by rw [<-UG,<-Cg,Tn]
 rw [e1,<-h1,List.drop_left,Y5 h,Q6,Vt]
 rfl
section
variable {rs:List Yc} {k:Nat} {r:Yc}
theorem L6 (hk:k<rs.length) (r:Yc):Zi (X6 (rs.set k r))=Zi (X6 (rs.take k))++((K5 r).leaves++Zi (X6 (rs.drop (k+1)))):=by
 rw [Fw,Ze hk,Da,UG];rfl
theorem Pb (hk:k<rs.length):(Zi (X6 (rs.take k))).length=k*5:=by rw [Ge,WW,Ul om]
theorem Z8y (hk:k<rs.length) (r:Yc):((Zi (X6 (rs.set k r))).drop (k*5+1)).take 1=[Z4 r.lent]:=by
 rw [L6 hk,<-Pb hk,<-List.drop_drop,List.drop_left];rfl
theorem Z90 (hk:k<rs.length) (r:Yc) (l:LI):(Zi (X6 (rs.set k r))).take (k*5+1)++[Z4 l]++(Zi (X6 (rs.set k r))).drop (k*5+1+1)=Zi (X6 (rs.set k ⟨r.params,l,r.result,r.body⟩)):=by
 have hl:=Pb hk
 rw [L6 hk,L6 hk]
 have e:(K5 r).leaves=[Z4 r.params]++([Z4 r.lent]++[.i r.result,.sl (ZF r.body.steps) none,.i r.body.result]):=rfl
 have e2:(K5 ⟨r.params,l,r.result,r.body⟩).leaves=[Z4 r.params]++([Z4 l]++[.i r.result,.sl (ZF r.body.steps) none,.i r.body.result]):=rfl
 rw [e,e2]
 have q:=F6 (A:=Zi (X6 (rs.take k))++[Z4 r.params]) (xs:=[Z4 r.lent]) (ys:=[Z4 l]) (B:=[.i r.result,.sl (ZF r.body.steps) none,.i r.body.result]++Zi (X6 (rs.drop (k+1)))) (o:=k*5+1) (by rw [Ys,hl];rfl) rfl
 simpa [UN] using q
end

def A8 (X:List LI) (i:Nat):LI:=X[i]?.getD []
def lvA (X:List LI) (op num:Int) (k:Nat):Bool:=decide (op=9/\(k:Int)∈A8 X num.toNat)
def Oo (X:List LI) (op num v:Int):LI->Nat->Bool
 | [],_=>false
 | a::r,k=>(a==v&&(Ta op&&!lvA X op num k))||Oo X op num v r (k+1)
mutual
def cuS (X:List LI) (v:Int):Z5->Bool
 | .mk op num _ args kids=>Oo X op num v args 0||Oq X v kids
def Oq (X:List LI) (v:Int):List Z6->Bool
 | []=>false
 | b::r=>Io X v b||Oq X v r
def Ot (X:List LI) (v:Int):List Z5->Bool
 | []=>false
 | s::r=>cuS X v s||Ot X v r
def Io (X:List LI) (v:Int):Z6->Bool
 | .mk steps result=>result==v||Ot X v steps
end
def E0 (X Y:List LI):Prop:=∀(i:Nat) (v:Int),v∈A8 X i->v∈A8 Y i
section
variable {X Y:List LI} (hle:E0 X Y)
include hle
end
mutual
def czS (t:Int):Z5->Bool
 | .mk op num _ _ kids=>(op==10&&num==t)||Ov t kids
def Ov (t:Int):List Z6->Bool
 | []=>false
 | b::r=>Ou t b||Ov t r
def Ox (t:Int):List Z5->Bool
 | []=>false
 | s::r=>czS t s||Ox t r
def Ou (t:Int):Z6->Bool
 | .mk steps _=>Ox t steps
end
abbrev PB:=List (LI × Z6)
def Ow (t:Int):PB->Bool
 | []=>false
 | p::r=>Ou t p.2||Ow t r
def Z5j (ps:PB) (i:Nat):LI:=if Ow i ps=true then [] else Wb ((ps[i]?.map (·.1)).getD []) 0
def FI (ps:PB):List LI:=(List.range ps.length).map (Z5j ps)
def PF (ps:PB) (X:List LI):Prop:=∀(i:Nat) (p:LI × Z6),ps[i]? = some p->∀v∈A8 X i,Io X v p.2=false
structure Zli (ps:PB) (X:List LI):Prop where
 len:X.length=ps.length
 fil:∀i,∃p:Int->Bool,A8 X i=(A8 (FI ps) i).filter p
 pf:PF ps X
 all:∀Z,PF ps Z->(∀i,¬i<ps.length->A8 Z i=[])->E0 Z (FI ps)->E0 Z X
def Fk:List LI->Nat
 | []=>0
 | l::r=>l.length+Fk r
structure Z3d (ps:PB) (X:List LI):Prop where
 len:X.length=ps.length
 fil:∀i,∃p:Int->Bool,A8 X i=(A8 (FI ps) i).filter p
 all:∀Z,PF ps Z->(∀i,¬i<ps.length->A8 Z i=[])->E0 Z (FI ps)->E0 Z X
structure Zlh (ps:PB) (X0 X:List LI) (k:Nat) (more:Bool):Prop where
 inv:Z3d ps X
 no:more=false->X=X0/\∀(i:Nat) (p:LI × Z6),i<k->ps[i]? = some p->∀v∈A8 X i,Io X v p.2=false
 yes:more=true->Fk X<Fk X0
 le:Fk X<=Fk X0
section
variable {n:Zm} {X:List LI} (hl:X.length=n.routines.length)
include hl
variable (hun:∀r∈n.routines,r.lent=[])
include hun
end
def GB (B:List Nat):Yd:=fun b _=>b∈B
section
variable {w:World} {G:Yd} {B:List Nat}
end
section
variable {w:World} {G:Yd} {B:List Nat}
def PK:Value->Hd
 | .slice a l c=>⟨a,l,c⟩
 | _=>⟨none,0,0⟩
abbrev av (y:Qg):AV:=.agg [.h (PK y.dv),.h (PK y.rv)]
end
def Z3e (B:List Nat) (m:Mem) (x:AV) (u:Value):Prop:=
 ∀w:World,(∀b∈B,∃cs e,w.heap[b]? = some (.cells cs e (0,0))/\∀o,cs[o]? = m b o)->RV w (GB B) x u
inductive DX (bs:List Res):List AV->List AV->Prop
 | nil:DX bs [] []
 | same {x as1 xs} (t:DX bs as1 xs):DX bs (x::as1) (x::xs)
 | gen {B m x a u as1 xs} (h:Res.own B m∈bs) (hr:Z3e B m x u) (ha:∀w G v,RV w G a v->v=u) (t:DX bs as1 xs):DX bs (a::as1) (x::xs)
section
variable {P:Program} {n:Nat} {ops:Array Oper} {B:Fr->List Res->Prop} {k:Nat} {F:Fr} {h:List Res}
def NR (P:Program) (ops:Array Oper) (F:Fr) (k:Nat):Option (Bool × Bool):=
 match (ZA ops k).op with
 | .binOp .neq t x y _=>match P.underlying t with
  | some .bool=>match F.ev x,F.ev y with
   | .val (.bool a),.val (.bool b)=>some (a,b)
   | _,_=>none
  | _=>none
 | _=>none
theorem Zde (a b:Bool) (hb:NR P ops F k=some (a,b):=by kernel_rfl):Xy P (ZA ops k) F h [] (.b (a != b)):=by
 unfold NR at hb
 generalize hoo:ZA ops k=o at hb
 obtain ⟨dst,op,type,pos,after,guard⟩:=o
 cases op<;>simp only at hb<;>try (cases hb)
 rename_i bop t x y yt
 cases bop<;>simp only at hb<;>try (cases hb)
 split at hb
 ·rename_i ht
  split at hb
  ·rename_i a' b' h1 h2
   cases hb
   intro n w G ac hF hh
   have v1:=hF.ev x
   have v2:=hF.ev y
   rw [h1] at v1
   rw [h2] at v2
   have v1:=v1.val_inv
   have v2:=v2.val_inv
   refine ⟨_,.val,fun w' _ _=>?_⟩
   simp only [execOp,v1,v2]
   have he:(Op.equalIn (9999+1) t (.bool a) (.bool b)).run P w'=.ok (a==b) w':=by
    rw [Op.equalIn]
    simp [Sem.run_bind,VG ht]
   refine Vi ?_
   simp only [eqGuard,binOp,Op.equal,Op.maxDepth]
   have he2:(Op.equalIn 10000 t (.bool a) (.bool b)).run P w'=.ok (a==b) w':=he
   simp [Sem.run_bind,he2,bne]
  ·cases hb
 ·cases hb
end
end Go.Abs
section
namespace Go.Abs
section
variable {P:Program} {n:Nat} {ops:Array Oper} {B:Fr->List Res->Prop} {k:Nat} {F:Fr} {h:List Res}
def NS (P:Program) (ops:Array Oper) (F:Fr) (k:Nat):Option (Bool × Bool):=
 match (ZA ops k).op with
 | .binOp .eql t x y _=>match P.underlying t with
  | some .bool=>match F.ev x,F.ev y with
   | .val (.bool a),.val (.bool b)=>some (a,b)
   | _,_=>none
  | _=>none
 | _=>none
theorem Zdd (a b:Bool) (hb:NS P ops F k=some (a,b):=by kernel_rfl):Xy P (ZA ops k) F h [] (.b (a==b)):=by
 unfold NS at hb
 generalize hoo:ZA ops k=o at hb
 obtain ⟨dst,op,type,pos,after,guard⟩:=o
 cases op<;>simp only at hb<;>try (cases hb)
 rename_i bop t x y yt
 cases bop<;>simp only at hb<;>try (cases hb)
 split at hb
 ·rename_i ht
  split at hb
  ·rename_i a' b' h1 h2
   cases hb
   intro n w G ac hF hh
   have v1:=hF.ev x
   have v2:=hF.ev y
   rw [h1] at v1
   rw [h2] at v2
   have v1:=v1.val_inv
   have v2:=v2.val_inv
   refine ⟨_,.val,fun w' _ _=>?_⟩
   simp only [execOp,v1,v2]
   have he:(Op.equalIn (9999+1) t (.bool a) (.bool b)).run P w'=.ok (a==b) w':=by
    rw [Op.equalIn]
    simp [Sem.run_bind,VG ht]
   refine Vi ?_
   simp only [eqGuard,binOp,Op.equal,Op.maxDepth]
   have he2:(Op.equalIn 10000 t (.bool a) (.bool b)).run P w'=.ok (a==b) w':=he
   simp [Sem.run_bind,he2]
  ·cases hb
 ·cases hb
end
end Go.Abs
namespace Go.Abs
theorem Wh.frzI {P:Program} {f:FuncId} {as1:List AV} {h0:List Res} {xs:LI} (H:Wh P f as1 h0 (fun r h=>∃v:Hd,r=.h v/\h=[rV v xs])) :
  Wh P f as1 h0 (fun r h=>r=Z4 xs/\h=[]):=by
 intro w G vs hv hh
 refine (H w G vs hv hh).mono ?_
 rintro e w' ⟨u,r,h',G',he,⟨v,rfl,rfl⟩,hr,hh',hx⟩
 obtain ⟨G2,h1,h2,h3⟩:=Z2t hh' (fun y hy=>by simp only [Z8,XF] at hy;obtain ⟨x,_,rfl⟩:=hy;rfl)
 have hrv:=hr.val_inv
 subst hrv
 have hw:Zc (.sl (Z8 xs) (some v.v)) (Z4 xs):=Zc.forget _ _
 exact ⟨_,_,[],G2,he,⟨rfl,rfl⟩,hw _ _ _ h3,h1.sub (AF _ _),(hx.trans h2).sub' (AF _ _)⟩
end Go.Abs
namespace Go.Abs
theorem Wh.alone {P:Program} {f:FuncId} {as1:List AV} {h0:List Res} {R:AV->List Res->Prop} {r0:AV} (H:Wh P f as1 h0 R) (hR:∀r h,R r h->Zc r r0):Wh P f as1 h0 (fun r h=>r=r0/\h=[]):=by
 intro w G vs hv hh
 refine (H w G vs hv hh).mono ?_
 rintro e w' ⟨u,r,h',G',he,hq,hr,hh',hx⟩
 exact ⟨_,_,[],G',he,⟨rfl,rfl⟩,hR _ _ hq _ _ _ hr,hh'.sub (List.nil_sublist _),hx.sub' (List.nil_sublist _)⟩
end Go.Abs
end
section
namespace Go.Abs
theorem UW {rs fs:List Func} (hp:fs <+: rs) {i:Nat} {f:Func} (hx:fs[i]? = some f) (c:Nat) {zs:List AV} (hz:((GS f).drop c).take zs.length=zs) (hl:c+zs.length<=5):((Zi (Xw rs)).drop (i*5+c)).take zs.length=zs:=by
 obtain ⟨ys,rfl⟩:=hp
 have h1:(fs++ys)[i]? = some f:=by rw [CJ (Xq.1 hx).1];exact hx
 have e1:=(Tn i (fs++ys)).symm
 rw [Y5 h1] at e1
 have hl2:(Zi (Xw ((fs++ys).take i))).length=i*5:=by
  rw [UX (k:=5) _ (FX _),D9,WW,Ul (by have:=(Xq.1 h1).1;omega)]
 have e2:Zi (Xw (fs++ys))=Zi (Xw ((fs++ys).take i))++(GS f++Zi (Xw ((fs++ys).drop (i+1)))):=by
  conv=>lhs;rw [e1]
  simp only [Xw,Zi,List.map_append,Vt,List.flatMap_append,Bk]
  rfl
 rw [e2,List.drop_append,List.drop_of_length_le om,Bn,hl2,Nat.add_sub_cancel_left,List.drop_append_of_le_length (by show c<=5;omega),List.take_append_of_le_length (by rw [Bm];show zs.length<=5-c;omega)]
 exact hz
theorem L4 (rs:List Func):(Zi (Xw rs)).length=rs.length*5:=by rw [UX (k:=5) _ (FX _),D9]
end Go.Abs
namespace Go.Abs
abbrev WF (g:Wc) (gb:Nat):List AV:=[ZP g.decls,.ms gb 0 g.funcs.length 4]
abbrev XW (gb:Nat) (rs:List Func):Res:=.row (.slice (some ⟨gb,0,none⟩) 4 4) 5 (Zi (Xw rs))
abbrev YE (rd:Nat) (bs:LI) (p:Nat):Res:=.obj rd [Ui bs,.i p]

end Go.Abs
end
namespace Go.Abs
theorem Zgx {w:World} {G:Yd} {g len cap k m:Nat} {ls:List AV} {h2:List Res} (hh:Yw w G (.row (.slice (some ⟨g,0,none⟩) len cap) k ls::h2)) (hle:m<=len) :
  Yw w G (.row (.slice (some ⟨g,0,none⟩) m cap) k (ls.take (m*k))::h2)/\YY w G (.row (.slice (some ⟨g,0,none⟩) len cap) k ls::h2) w G (.row (.slice (some ⟨g,0,none⟩) m cap) k (ls.take (m*k))::h2):=by
 have hpw:=Vj.1 hh.apart
 have hfp:∀b o,Res.fp (.row (.slice (some ⟨g,0,none⟩) m cap) k (ls.take (m*k))) b o->Res.fp (.row (.slice (some ⟨g,0,none⟩) len cap) k ls) b o:=fun b o hf=>hf
 refine ⟨⟨fun r hr=>?_,Vj.2 ⟨fun r hr b o h1 h2=>hpw.1 r hr b o (hfp b o h1) h2,hpw.2⟩,fun r hr b o hf hg=>?_,hh.lt⟩,⟨rfl,rfl,rfl,YU _,fun _ _ h=>h,fun _ _=>.inl rfl,fun _ _ _ h=>.inl h,fun b o _ hf=>?_⟩⟩
 ·rcases YH.1 hr with rfl|hr
  ·rcases hh.ok _ (Xf ..) with ⟨h0,_⟩|⟨g',len',cap',cur,e,hv,h1,h3,h4,h5,h6⟩
   ·cases h0
   ·cases hv
    have hmk:m*k<=len*k:=Kh k hle
    refine .inr ⟨g,m,cap,cur,e,rfl,h1,by omega,h4,by rw [WW,h5];omega,?_⟩
    have:=h6.take (m*k)
    rw [List.take_take,Ul hmk] at this
    exact this
  ·exact hh.ok r (Xr _ hr)
 ·rcases YH.1 hr with rfl|hr
  ·exact hh.prot _ (Xf ..) b o (hfp b o hf) hg
  ·exact hh.prot r (Xr _ hr) b o hf hg
 ·obtain ⟨r,hr,hf⟩:=hf
  rcases YH.1 hr with rfl|hr
  ·exact ⟨_,Xf ..,hfp b o hf⟩
  ·exact ⟨r,Xr _ hr,hf⟩
theorem Z8x {rs:List Func} {k:Nat} (f:Func) (hk:k<rs.length):(Zi (Xw rs)).take (k*5)++GS f++(Zi (Xw rs)).drop (k*5+5)=Zi (Xw (rs.set k f)):=by
 rw [show Xw (rs.set k f)=(Xw rs).set k (E2 f) by simp [Xw,List.map_set]]
 exact Gg (y:=E2 f) (FX rs) rfl (by simpa using hk)
theorem Wh.frzP {P:Program} {f:FuncId} {as1:List AV} {h0:List Res} {E:Type} {ds:E->List Zf} {rs:E->List Func} {m:E->Nat} {hs:E->List Res} {Q:E->Prop}
  (H:Wh P f as1 h0 (fun r h=>∃(e:E) (gb:Nat),r=.agg [ZP (ds e),.ms gb 0 (m e) 4]/\h=.row (.slice (some ⟨gb,0,none⟩) 4 4) 5 (Zi (Xw (rs e)))::hs e/\Q e)) (hm:∀e,Q e->m e<=4/\(rs e).length=4) :
  Wh P f as1 h0 (fun r h=>∃e:E,r=.agg [ZP (ds e),H3 ((rs e).take (m e))]/\h=hs e/\Q e):=by
 intro w G vs hv hh
 refine (H w G vs hv hh).mono ?_
 rintro e w' ⟨u,r,h',G',he,⟨x,gb,rfl,rfl,hq⟩,hr,hh',hx⟩
 obtain ⟨hm4,hr4⟩:=hm x hq
 obtain ⟨j1,j2⟩:=Zgx hh' hm4
 have hft:(Zi (Xw (rs x))).take (m x*5)=Zi (Xw ((rs x).take (m x))):=by
  have e1:rs x=(rs x).take (m x)++(rs x).drop (m x):=(Tn _ _).symm
  have e2:Zi (Xw (rs x))=Zi (Xw ((rs x).take (m x)))++Zi (Xw ((rs x).drop (m x))):=by
   conv=>lhs;rw [e1]
   rw [Z7v,UG]
  rw [e2,List.take_append_of_le_length (by rw [L4,WW,show min (m x) (rs x).length=m x by omega];exact YU _),VA (by rw [L4,WW];exact Kh 5 (Nat.min_le_left _ _))]
 rw [hft] at j1 j2
 obtain ⟨G2,h1,h2,h3⟩:=CA j1 (FX _) om
 have hA:U6 G' w' w' G2:=h2.agree j1
 refine ⟨u,_,hs x,G2,he,⟨x,rfl,rfl,hq⟩,?_,(h1.perm (List.perm_append_comm (l₁:=[_]))).left,((hx.trans j2).trans h2).sub' (AF _ _)⟩
 cases hr with
 | agg hc=>
  cases hc with
  | cons k1 t1=>
   cases t1 with
   | cons k2 t2=>
    cases t2
    have hv2:=k2.val_inv
    subst hv2
    refine .agg (.cons (k1.mono hA) (.cons ?_ .nil))
    have hw:Zc (.sl (Xw ((rs x).take (m x))) (some (.slice (some ⟨gb,0,none⟩) (m x) 4))) (H3 ((rs x).take (m x))):=Zc.forget _ _
    exact hw _ _ _ h3
open Go.Proofs
abbrev Zj:=@Wh Tryz.prog
theorem Zey {xs:LI} {k:Nat} {n x:Int} (h:n∉xs.take k) (hx:xs[k]? = some x) (hn:¬x=n):n∉xs.take (k+1):=by
 rw [List.take_add_one,hx]
 simp only [Option.toList_some,Xi,XK]
 exact fun q=>q.elim h fun q=>hn q.symm
theorem Zen {xs:LI} {k:Nat} {n x:Int} (hx:xs[k]? = some x) (hn:x=n):n∈xs:=hn▸Y0 hx
theorem TJ (n:Int) (low:Int) (high:Int) :Zj 149 [.i n,.i low,.i high] [] (fun r h=>r=.b (decide (low<=n/\n<=high))/\h=[]):=by
 refine ZE 15 Tryz.func149 (Zy (ar (XD 8 [] [(14,.b ((decide (low<=n))&&(decide (n<=high))))] (fun gz=>gz) ?_ (fun hj1=>?_))))
 ·exact Zo (ZU (.b ((decide (low<=n))&&(decide (n<=high)))) (lb (by rw [XH];simp)))
 refine Z2 4 (ib (b:=(decide (low<=n))) 10 (fun Zb=>?_) (fun Zb=>?_))
 ·have ZY:low<=n:=(dq).1 Zb
  exact Z2 4 (Yp (wk [] (Zt (decide (n<=high)) Zb fl)) hj1)
 have Yi:¬(low<=n):=Y6 dq Zb
 exact Z2 4 (Yp (wk [] (Zt false Zb fl)) hj1)
theorem Ti (xs:LI) (n:Int) (hlen:xs.length<=4294967296:=by exact ob):Zj 152 [Z4 xs,.i n] [] (Yn (.b (decide (n∈xs)))):=by
 refine ZE 18 Tryz.func152 (Zy (Ym (ab 0 (Y4 (fun fz gz m F h=>∃(k:Nat),(k<=xs.length)/\(n∉xs.take k)/\F=sF [0,1] fz [(5,.i k)]/\h=gz/\m=xs.length-k) _ _ _ ⟨0,ob,ob,rfl,rfl,rfl⟩ (wk [] (Yb fl)) ?_))))
 rintro m F h ⟨k,Ye,Zk,rfl,rfl,rfl⟩
 refine YP 2 (iw (Ya xs) (Y9 ((k:Int)<(xs.length:Int)) (fun Za=>?_) (fun Za=>?_)))
 ·refine ak (aq (ab 1 (Y1 2 ?_)))
  obtain ⟨x1,Z3⟩:=Zs xs k om
  refine Zp (Zl none (k:Int) 1 (ZZ Z3)) (YD (x1==n) Zq (fun Zg=>?_) (fun Zg=>?_))
  ·exact ar (Zo (ZU (.b true) (lb (by rw [eq_comm,dq];exact Zen Z3 Zg))))
  exact ak (az (Z2 1 (ZJ k (Z0 (ZK ⟨k+1,ob,(Zey Zk Z3 Zg),rfl,rfl,rfl⟩ (wk [] (ZM k fl)))))))
 refine ax 0 (Zy ?_)
 have hke:k=xs.length:=by omega
 exact ZB (ZU (.b false) (lb (by rw [eq_comm,decide_eq_false_iff_not];rw [hke,Vu] at Zk;exact Zk)))
theorem T2 (xs:LI) (hlen:xs.length<=4294967296:=by exact ob):Zj 139 [Z4 xs] [] (fun r h=>∃(v:Value),r=ZQ xs v/\h=[.tail v 1]):=by
 exact ZE 6 Tryz.func139 (Zy (ar (iL (Z8 []) 0 1 fun v1=>Z2 1 (ip 0 (Z8 xs) (Z8 []) (Z8 xs) v1 none 1 (YL _) (YL _) (Ww _) (by simp<;>omega) (by simp [Z8]) fun v2=>Zo (r1 [0] ⟨v2,rfl,rfl⟩)))))
theorem MO (ds:List Zf) (n:Nat) (hd:Wu ds:=by exact ob) (hn:n<=ds.length:=by exact ob):Zj 191 [ZP ds,.i n] [] (Yn (.i ((YQ (ds.take n):Nat):Int))):=by
 refine ZE 21 Tryz.func191 (Zy (Zy (Ym (ab 0 (Y4 (fun fz gz m F h=>∃(k:Nat),(k<=n)/\F=sF [0,1] fz [(5,.i ((YQ (ds.take k):Nat):Int)),(6,.i k)]/\h=gz/\m=n-k) _ _ _ ⟨0,ob,rfl,rfl,rfl⟩ (wk [] (Yb (Yb fl))) ?_)))))
 rintro m F h ⟨k,Ye,rfl,rfl,rfl⟩
 refine X7 (Y9 ((k:Int)<(n:Int)) (fun Za=>?_) (fun Za=>?_))
 ·refine ak (aq (ab 1 (az (Z2 3 ?_))))
  obtain ⟨x1,Z3⟩:=Zs ds k om
  refine Zp (Zl none (k:Int) 3 (WQ Z3)) (Z2 2 (iw (Uo x1.cons) (ia ((((YQ (ds.take k))+x1.cons.length:Nat):Int)) ((((YQ (ds.take k):Nat):Int))+((x1.cons.length:Int))) (hb:=(by have h1:=hd.cons_at Z3;have h2:=(hd.take k).sum;omega)) (Z0 (az (Z2 1 (ZJ k (hb:=(by have:=hd.len;omega)) (Z0 ?_))))))))
  have hsn:YQ (ds.take (k+1))=YQ (ds.take k)+x1.cons.length:=by rw [V1 Z3,Ee];simp [YQ]
  exact ZK ⟨k+1,ob,rfl,rfl,rfl⟩ (wk [] (fc (x:=.i (((YQ (ds.take k))+x1.cons.length:Nat):Int)) li (ZM k fl)))
 refine ax 0 (Zy ?_)
 have hke:k=n:=by omega
 subst hke
 exact ZB (ZU (.i ((YQ (ds.take k):Nat):Int)) li)
theorem MN (ds:List Zf) (c:Int) (hd:Wu ds:=by exact ob):Zj 192 [ZP ds,.i c] [] (Yn (.i (Wi ds c))):=by
 refine ZE 30 Tryz.func192 (Zy (Ym (ab 0 (Y4 (fun fz gz m F h=>∃(k:Nat),(k<=ds.length)/\((Tv c (ds.drop k) k (YQ (ds.take k))).1=Wi ds c)/\F=sF [0,1] fz [(5,.i k)]/\h=gz/\m=ds.length-k) _ _ _ ⟨0,ob,(by rfl),rfl,rfl,rfl⟩ (wk [] (Yb fl)) ?_))))
 rintro m F h ⟨k,Ye,Zk,rfl,rfl,rfl⟩
 refine YP 2 (iw (Uf ds) (Y9 ((k:Int)<(ds.length:Int)) (fun Za=>?_) (fun Za=>?_)))
 ·refine ak (aq (ab 1 (Y1 2 (Zx [] (MO ds k) (Z0 (Y1 5 ?_))))))
  obtain ⟨x1,Z3⟩:=Zs ds k om
  refine Zp (Zl none (k:Int) 3 (WQ Z3)) (Z2 2 (iw (Uo x1.cons) (ia ((((YQ (ds.take k))+x1.cons.length:Nat):Int)) ((((YQ (ds.take k):Nat):Int))+((x1.cons.length:Int))) (hb:=(by have h1:=hd.cons_at Z3;have h2:=(hd.take k).sum;omega)) (ia (((((YQ (ds.take k))+x1.cons.length:Nat):Int)-1)) (((((YQ (ds.take k))+x1.cons.length:Nat):Int))-(1)) (hb:=(by have h1:=hd.cons_at Z3;have h2:=(hd.take k).sum;omega)) (Zx [] (TJ c ((YQ (ds.take k):Nat):Int) ((((YQ (ds.take k))+x1.cons.length:Nat):Int)-1)) (ie (XB (((YQ (ds.take k):Nat):Int)<=c/\c<=((((YQ (ds.take k))+x1.cons.length:Nat):Int)-1)) (fun Zg=>?_) (fun Zg=>?_))))))))
  ·exact Y1 1 (ZJ k (hb:=(by have h2:=hd.len;omega)) (Zo (ZU (.i (k+1:Nat)) (li (by rw [<-Zk,Y5 Z3,Tv,Ze Zg];rfl)))))
  refine ak (az (Z2 1 (ZJ k (hb:=(by have h2:=hd.len;omega)) (Z0 ?_))))
  have hdr:=Y5 Z3
  exact ZK ⟨k+1,ob,(by rw [hdr] at Zk;rw [<-Zk,Tv,Z7 Zg,V1 Z3,Ee];rfl),rfl,rfl,rfl⟩ (wk [] (ZM k fl))
 exact ax 0 (ar (Zo (ZU (.i (-1)) (li (by rw [<-Zk,Xj om];rfl)))))
theorem JD (ds:List Zf) (c:Int) (hd:Wu ds:=by exact ob):Zj 141 [ZP ds,.i c] [] (Yn (Z4 (ZX ds c))):=by
 refine ZE 27 Tryz.func141 (Zy (Y1 2 (Zx [] (MN ds c) (Z0 (X7 (Y9 ((Wi ds c)<1) (fun Za=>?_) (fun Za=>?_)))))))
 ·exact ar (iL (Z8 []) 0 1 fun v1=>Zo (ZU (ZQ [] v1) (Zc.sl _ (Yu Z8 (by rw [(FL Za).1])))))
 obtain ⟨k,d,x,hk1,hk2,hk3,hk4,hk5⟩:=In Za
 have hkl:=(Xq.1 hk1).1
 have hxl:=(Xq.1 hk3).1
 have hsm:=(hd.take k).sum
 have hdl:=hd.cons_at hk1
 have hdn:=hd.len
 refine ak (aD 16 (Zh 14 16 [0,1] (da 2 ((k:Int)) ((Wi ds c)-(1)) (hb:=(by have:=hd.len;omega)) ?_)))
 obtain ⟨x1,Z3⟩:=Zs ds k om
 have hxe:x1=d:=by rw [hk1] at Z3;exact (UP Z3).symm
 subst hxe
 refine dx 3 (Zl none (k:Int) 3 (WQ Z3)) (Zh 7 12 [4,5,6,7,8] (da 9 ((k:Int)) ((Wi ds c)-(1)) (hb:=(by have:=hd.len;omega)) (Z9 10 (Yz 10 [] [] [] (MO ds k) (da 11 ((c-((YQ (ds.take k):Nat):Int))) ((c)-(((YQ (ds.take k):Nat):Int))) ?_)))))
 obtain ⟨x2,Zr⟩:=Zs x1.cons ((c-((YQ (ds.take k):Nat):Int)).toNat) om
 have hxe:x2=x:=by rw [show (c - ↑(YQ (ds.take k))).toNat=(c-YQ (ds.take k)).toNat from rfl,hk3] at Zr;exact (UP Zr).symm
 subst hxe
 exact dx 12 (Zl none (c-((YQ (ds.take k):Nat):Int)) 1 (AU Zr)) (Zh 0 3 [13,14,15] (de (ZB (ZU (Z4 x2.fields) (Zc.sl _ (Yu Z8 hk5.symm))))))
theorem Bf (ds:List Zf) (t:Int) (hd:Wu ds:=by exact ob):Zj 140 [ZP ds,.i t] [] (fun r h=>∃(v:Value),r=ZQ (ZW ds t) v/\h=[.tail v 1]):=by
 have hdn:=hd.len
 refine ZE 35 Tryz.func140 (Zy (ar (iL (Z8 []) 0 1 fun v1=>Z0 (YP 2 (iw (Uf ds) (Zx [] (TJ t 1 (ds.length:Int)) (YD (!(decide (1<=t/\t<=(ds.length:Int)))) (p:=¬(1<=t/\t<=(ds.length:Int))) (Yl dq) (fun Za=>?_) (fun Za=>?_))))))))
 ·exact ar (Zo (r2 [0] [ZQ [] v1] ⟨v1,rfl,rfl⟩ (Zc.slh _ (Yu Z8 (by simp [ZW];omega)))))
 have Za:1<=t/\t<=ds.length:=by simpa using Za
 obtain ⟨d,hd1⟩:=Zs ds ((t-1).toNat) om
 have hdc:=hd.cons_at hd1
 have hsm:=(hd.take (t-1).toNat).sum
 refine ak (Ym (ab 0 (Y4 (fun fz gz m F h=>∃(k:Nat) (v:Value),(k<=d.cons.length)/\F=sF [0,1] fz [(5,ZQ (VN (YQ (ds.take (t-1).toNat)) k) v),(6,.i k)]/\h=[.tail v 1]/\m=d.cons.length-k) _ _ _ ⟨0,v1,(by first|omega|rfl|(simp<;>omega)|grind [ZW,VN]),rfl,rfl,rfl⟩ (wk [0] (fc (x:=ZQ [] v1) (Zc.slh _ (Yu Z8 (by first|omega|rfl|(simp<;>omega)|grind [ZW,VN]))) (fc (x:=.i 0) (li (by first|omega|rfl|(simp<;>omega)|grind [ZW,VN])) fl))) ?_)))
 rintro m F h ⟨k,v,Ye,rfl,rfl,rfl⟩
 refine YP 3 (ia ((((t-1).toNat:Nat):Int)) ((t)-(1)) (Zp (Zl none (((t-1).toNat:Nat):Int) 3 (WQ hd1)) (Z2 2 (iw (Uo d.cons) (Y9 ((k:Int)<(d.cons.length:Int)) (fun Zg=>?_) (fun Zg=>?_))))))
 ·exact ak (aq (ab 1 (az (Z2 3 (ia ((((t-1).toNat:Nat):Int)) ((t)-(1)) (Zx [] (MO ds ((t-1).toNat) (hd:=(by first|omega|rfl|(simp<;>omega)|grind [ZW,VN])) (hn:=(by first|omega|rfl|(simp<;>omega)|grind [ZW,VN]))) (Z2 1 (ia ((((YQ (ds.take ((t-1).toNat)))+k:Nat):Int)) ((((YQ (ds.take ((t-1).toNat)):Nat):Int))+((k:Int))) (iL (Z8 [(((YQ (ds.take ((t-1).toNat)))+k:Nat):Int)]) 1 1 fun v2=>ZT 0 [(32,Z4 [(((YQ (ds.take ((t-1).toNat)))+k:Nat):Int)])] (ip 1 (Z8 (VN (YQ (ds.take (t-1).toNat)) k++[(((YQ (ds.take ((t-1).toNat)))+k:Nat):Int)])) (Z8 (VN (YQ (ds.take (t-1).toNat)) k)) (Z8 [(((YQ (ds.take ((t-1).toNat)))+k:Nat):Int)]) v none 1 (YL _) (YL _) (Ww _) (by simp<;>omega) (by simp [Wv,Z8]) fun v3=>Z0 (az (Z2 1 (ZJ k (Z0 (⟨_,_,_,(by first|omega|rfl|(simp<;>omega)|grind [ZW,VN]),⟨k+1,v3,(by first|omega|rfl|(simp<;>omega)|grind [ZW,VN]),rfl,rfl,rfl⟩,(wk [0] (fc (x:=ZQ (VN (YQ (ds.take (t-1).toNat)) k++[(((YQ (ds.take ((t-1).toNat)))+k:Nat):Int)]) v3) (Zc.slh _ (Yu Z8 (Se _ _).symm)) (fc (x:=.i (k+1:Nat)) (li (by first|omega|rfl|(simp<;>omega)|grind [ZW,VN])) fl)))⟩)))))))))))))))
 exact ax 0 (ar (Zo (r2 [0] [ZQ (VN (YQ (ds.take (t-1).toNat)) k) v] ⟨v,rfl,rfl⟩ (Zc.slh _ (Yu Z8 (by rw [ZW,Ze Za,hd1,show k=d.cons.length by omega];rfl))))))
theorem Z1l (ds:List Zf) (frm:Int) (to_:Int) (hl_ds:ds.length<=4294967296:=by exact ob):Zj 282 [ZP ds,.i frm,.i to_] [] (Yn (.i (Ut ds frm to_))):=by
 refine ZE 41 Tryz.func282 (Zy (Ym (ab 0 (Y4 (fun fz gz m F h=>∃(k:Nat),(k<=ds.length)/\(KQ frm to_ (ds.drop k) k=Ut ds frm to_)/\F=sF [0,1,2] fz [(7,.i k)]/\h=gz/\m=ds.length-k) _ _ _ ⟨0,ob,ob,rfl,rfl,rfl⟩ (wk [] (Yb fl)) ?_))))
 rintro m F h ⟨k,Ye,Zk,rfl,rfl,rfl⟩
 refine YP 2 (iw (Uf ds) (Y9 ((k:Int)<(ds.length:Int)) (fun Za=>?_) (fun Za=>?_)))
 ·refine ak (aq (ab 1 (Y1 2 ?_)))
  obtain ⟨x1,Z3⟩:=Zs ds k om
  refine Zp (Zl none (k:Int) 3 (WQ Z3)) (Z2 2 (iw (Uo x1.cons) (XD 16 [0,1,2,7] [(29,.b (((x1.cons.length:Int)==0)&&(x1.frm==frm)))] (fun gz=>gz) ?_ (fun hj1=>?_))))
  ·refine Xv [0,1,2,7] [(38,.b ((((x1.cons.length:Int)==0)&&(x1.frm==frm))&&(x1.to_==to_)))] (fun gz=>gz) ?_ ?_
   ·refine Z2 1 (ib (b:=(((x1.cons.length:Int)==0)&&(x1.frm==frm))) 30 (fun Zb=>?_) (fun Zb=>?_))
    ·have ZY:((x1.cons.length:Int)=0)/\(x1.frm=frm):=((YK Zq Zq)).1 Zb
     exact Z2 2 (Zp (Zl none (k:Int) 3 (WQ Z3)) (Z0 (wk [] (Zt (x1.to_==to_) Zb fl))))
    have Yi:¬(((x1.cons.length:Int)=0)/\(x1.frm=frm)):=Y6 (YK Zq Zq) Zb
    exact Z0 (wk [] (Zt false Zb fl))
   refine ac ((((x1.cons.length:Int)==0)&&(x1.frm==frm))&&(x1.to_==to_)) (p:=(((x1.cons.length:Int)=0)/\(x1.frm=frm))/\(x1.to_=to_)) (YK (YK Zq Zq) Zq) (fun Zg=>?_) (fun Zg=>?_)
   ·refine Y1 1 (ZJ k (Z0 ?_))
    rw [Y5 Z3] at Zk
    exact ZB (ZU (.i (k+1:Nat)) (li (by clear Z3;first|rfl|omega|grind [KQ])))
   refine ak (az (Z2 1 (ZJ k (Z0 ?_))))
   have hdr:=Y5 Z3
   exact ZK ⟨k+1,ob,(by rw [hdr] at Zk;clear hdr Z3;grind [KQ]),rfl,rfl,rfl⟩ (wk [] (ZM k fl))
  refine Z2 2 (ib (b:=((x1.cons.length:Int)==0)) 21 (fun Zz=>?_) (fun Zz=>?_))
  ·have YJ:(x1.cons.length:Int)=0:=(Zq).1 Zz
   exact Z2 2 (Zp (Zl none (k:Int) 3 (WQ Z3)) (Z2 5 (Yp (wk [] (Zt (x1.frm==frm) Zz fl)) hj1)))
  have YR:¬((x1.cons.length:Int)=0):=Y6 Zq Zz
  exact Z2 8 (Yp (wk [] (Zt false Zz fl)) hj1)
 refine ax 0 (Zy ?_)
 try rw [Xj (xs:=ds) (k:=k) om] at Zk
 exact ZB (ZU (.i (-1)) (li (by first|rfl|omega|grind [KQ])))
theorem Fg (ds:List Zf) (t:Int) (hd:Wu ds:=by exact ob):Zj 255 [ZP ds,.i t] [] (Yn (.b (XT ds t))):=by
 have hdn:=hd.len
 refine ZE 19 Tryz.func255 (Zy (Y1 2 (iw (Uf ds) (Zx [] (TJ t 1 (ds.length:Int)) (Z2 1 (ib (b:=(decide (1<=t/\t<=(ds.length:Int)))) 9 (fun Zb=>?_) (fun Zb=>?_)))))))
 ·have ZY:1<=t/\t<=(ds.length:Int):=(dq).1 Zb
  refine Z2 2 (ia ((t-1)) ((t)-(1)) ?_)
  obtain ⟨x1,Z3⟩:=Zs ds ((t-1).toNat) om
  exact Zp (Zl none (t-1) 3 (WQ Z3)) (Z2 2 (iw (Uo x1.cons) (Zo (ZU (.b ((x1.cons.length:Int)==0)) (lb (by first|omega|rfl|(rw [GJ ZY Z3])|exact Lx Yi))))))
 have Yi:¬(1<=t/\t<=(ds.length:Int)):=Y6 dq Zb
 exact Zo (ZU (.b false) (lb (by first|omega|rfl|(rw [GJ ZY Z3])|exact Lx Yi)))
theorem KG (xs:LI) (ys:LI) (hl:xs.length+ys.length<=4294967296:=by exact ob):Zj 258 [Z4 xs,Z4 ys] [] (fun r h=>∃(v:Value),r=ZQ (xs++ys) v/\h=[.tail v 1]):=by
 refine ZE 9 Tryz.func258 (Zy (Y1 1 (ic [] (T2 xs) ?_)))
 rintro _ _ ⟨v1,rfl,rfl⟩
 exact Z2 1 (ip 0 (Z8 (xs++ys)) (Z8 xs) (Z8 ys) v1 none 1 (YL _) (YL _) (Ww _) (by simp<;>omega) (by simp [Wv,Z8]) fun v2=>Zo (r1 [0] ⟨v2,rfl,rfl⟩))
theorem Z1j (ds:List Zf) (xs:LI) (hl_ds:ds.length<=4294967296:=by exact ob) (hl_xs:xs.length<=4294967296:=by exact ob):Zj 262 [ZP ds,Z4 xs] [] (Yn (.b (Wo ds.length xs))):=by
 refine ZE 20 Tryz.func262 (Zy (Ym (ab 0 (Y4 (fun fz gz m F h=>∃(k:Nat),(k<=xs.length)/\(Wo ds.length (xs.drop k)=Wo ds.length xs)/\F=sF [0,1] fz [(5,.i k)]/\h=gz/\m=xs.length-k) _ _ _ ⟨0,ob,ob,rfl,rfl,rfl⟩ (wk [] (Yb fl)) ?_))))
 rintro m F h ⟨k,Ye,Zk,rfl,rfl,rfl⟩
 refine YP 2 (iw (Ya xs) (Y9 ((k:Int)<(xs.length:Int)) (fun Za=>?_) (fun Za=>?_)))
 ·refine ak (aq (ab 1 (Y1 2 ?_)))
  obtain ⟨x1,Z3⟩:=Zs xs k om
  refine Zp (Zl none (k:Int) 1 (ZZ Z3)) (Z2 2 (iw (Uf ds) (Zx [] (TJ x1 0 (ds.length:Int)) (YD (!(decide (0<=x1/\x1<=(ds.length:Int)))) (p:=¬(0<=x1/\x1<=(ds.length:Int))) (Yl dq) (fun Zg=>?_) (fun Zg=>?_)))))
  ·refine Zy ?_
   rw [Y5 Z3] at Zk
   exact ZB (ZU (.b false) (lb (by clear Z3;first|rfl|omega|grind [Wo])))
  refine ak (az (Z2 1 (ZJ k (Z0 ?_))))
  have hdr:=Y5 Z3
  exact ZK ⟨k+1,ob,(by rw [hdr] at Zk;clear hdr Z3;grind [Wo]),rfl,rfl,rfl⟩ (wk [] (ZM k fl))
 refine ax 0 (Zy ?_)
 try rw [Xj (xs:=xs) (k:=k) om] at Zk
 exact ZB (ZU (.b true) (lb (by first|rfl|omega|grind [Wo])))
theorem Zae (code:LI) (hl:code.length<=1048576:=by exact ob) (hc:∀z∈code,0<=z/\z<=255):Zj 36 [Ui code] [] (fun r h=>∃(rd:Nat) (bs:LI),r=.p rd 0/\h=[.obj rd [Ui bs,.i 0]]/\∀z∈bs,0<=z/\z<=255):=by
 refine ZE 11 Tryz.func36 (Zy (YP 1 (iw (Jq code) (Z0 (Wj (fun fz gz F h=>F=sF [] fz [(0,Ui (if (code.length:Int)>2000 then (code.take 2000) else code))]/\h=gz) ?_ ?_)))))
 ·refine XB ((code.length:Int)>2000) (fun Za=>?_) (fun Za=>?_)
  ·exact az (Z2 1 (Zp (KH (es:=Qk code) (hv:=none) (l:=0) (m:=2000) (sz:=1) (es':=Qk (code.take 2000)) kr om (by simp<;>omega) (by simp<;>omega) (Z7o _) (by first|(simp only [VH,Vu,IB,IA];done)|(simp only [VH,Vu,IB,IA];rfl)|(simp [IB,IA];done))) (Z0 (ZV ⟨rfl,rfl⟩ (wk [] (fc (x:=Ui (code.take 2000)) (Zc.sl _ (Yu Qk (by first|rfl|(rw [Ze Za])|(rw [Z7 Za])|(simp [Za];done)|(rw [XH];simp [Za];done)|omega))) fl))))))
  exact ak (ZV ⟨rfl,rfl⟩ (wk [] (fc (x:=Ui code) (Zc.sl _ (Yu Qk (by first|rfl|(rw [Ze Za])|(rw [Z7 Za])|(simp [Za];done)|(rw [XH];simp [Za];done)|omega))) fl)))
 rintro F h ⟨rfl,rfl⟩
 exact Y1 2 (iA [Ui (if (code.length:Int)>2000 then (code.take 2000) else code),.i 0] fun b1=>Zo (r1 [0] ⟨b1,(if (code.length:Int)>2000 then (code.take 2000) else code),rfl,rfl,(by first|exact hc|exact fun z hz=>hc z (Tm hz)|(split<;>first|exact hc|exact fun z hz=>hc z (Tm hz)))⟩))
theorem WG (rd:Nat) (bs:LI) (p:Nat) (mx:Int) (ZO:∀z∈bs,0<=z/\z<=255) (hp:p+1<=1000000000:=by exact ob):Zj 37 [.p rd 0,.i mx] [YE rd bs p] (fun r h=>∃(k:Int),r=.i k/\h=[.obj rd [Ui bs,.i (p+1:Nat)]]/\Pk mx k):=by
 refine ZE 99 Tryz.func37 (Zy (Zv 5 [0] (ZJ p (Z2 2 (ZH 0 rd [Ui bs,.i (p+1:Nat)] (ie (X7 (Xv [0,1] [(24,.b ((decide (mx<1))||((bs.length:Int)==0)))] (fun gz=>gz) ?_ ?_))))))))
 ·refine Z2 3 (ib (b:=(decide (mx<1))) 17 (fun Zb=>?_) (fun Zb=>?_))
  ·exact Z0 (wk [0] (Zt true Zb fl))
  exact ZL 4 [0] (iw (Jq bs) (Z0 (wk [0] (Zt ((bs.length:Int)==0) Zb fl))))
 refine ac ((decide (mx<1))||((bs.length:Int)==0)) (p:=(mx<1)∨((bs.length:Int)=0)) (Yh dq Zq) (fun Za=>?_) (fun Za=>?_)
 ·exact ar (Zo (r1 [0] ⟨0,rfl,rfl,Pk.zero⟩))
 refine ak (Zv 4 [0] (ia ((p:Int)) ((((p+1:Nat):Int))-(1)) (Z0 (Yk 5 [0] (iw (Jq bs) (Y9 ((p:Int)<(bs.length:Int)) (fun Zg=>?_) (fun Zg=>?_)))))))
 ·refine Zv 5 [0] ?_
  obtain ⟨x1,Z3⟩:=Zs bs p om
  have hz:=ZO _ (Y0 Z3)
  exact Zp (Zl none (p:Int) 1 (D5 Z3)) (Z2 1 (Zp (Dq x1 om) (Z2 1 (Zp (EE x1 mx om om) (Zo (r1 [0] ⟨(x1 % mx),rfl,rfl,(Pk.rem om om)⟩))))))
 have hq1:p / bs.length<=p:=Nat.div_le_self _ _
 have hq0:(0:Int)<=((p / bs.length:Nat):Int):=Int.natCast_nonneg _
 refine ak (aD 46 (ZI 37 46 [0,1,2,3,4,5,6,7,8] [0,0] (dw 9 (Jq bs) (dx 10 (GO p bs.length om om) ?_))))
 obtain ⟨x2,Zr⟩:=Zs bs (p % bs.length) (Nat.mod_lt _ om)
 have hz:=ZO _ (Y0 Zr)
 refine dx 11 (Zl none ((p % bs.length:Nat):Int) 1 (D5 Zr)) (Zh 33 34 [12] (dx 13 (Dq x2 om) (da 14 ((x2*131)) ((x2)*(131)) (ZI 26 31 [15,16,17,18,19] [0] (da 20 (((p*7:Nat):Int)) (((p:Int))*(7)) (da 21 (((p*7+3:Nat):Int)) ((((p*7:Nat):Int))+(3)) (ZI 20 24 [22,23,24,25] [0] (dw 26 (Jq bs) (dx 27 (GO (p*7+3) bs.length om om) ?_)))))))))
 obtain ⟨x3,YG⟩:=Zs bs ((p*7+3) % bs.length) (Nat.mod_lt _ om)
 have hz3:=ZO _ (Y0 YG)
 exact dx 28 (Zl none (((p*7+3) % bs.length:Nat):Int) 1 (D5 YG)) (Zh 16 17 [29] (dx 30 (Dq x3 om) (da 31 ((x3*1117)) ((x3)*(1117)) (da 32 (((x2*131)+(x3*1117))) (((x2*131))+((x3*1117))) (Zh 12 13 [33] (da 34 (((p*29:Nat):Int)) (((p:Int))*(29)) (da 35 ((((x2*131)+(x3*1117))+((p*29:Nat):Int))) ((((x2*131)+(x3*1117)))+(((p*29:Nat):Int))) (ZI 5 10 [36,37,38,39,40] [0] (dw 41 (Jq bs) (dx 42 (Cv p bs.length om om) (da 43 ((((p / bs.length:Nat):Int)*53)) ((((p / bs.length:Nat):Int))*(53)) (da 44 (((((x2*131)+(x3*1117))+((p*29:Nat):Int))+(((p / bs.length:Nat):Int)*53))) (((((x2*131)+(x3*1117))+((p*29:Nat):Int)))+((((p / bs.length:Nat):Int)*53))) (Zh 0 1 [45] (de (Y1 2 (Zp (LD ((((x2*131)+(x3*1117))+((p*29:Nat):Int))+(((p / bs.length:Nat):Int)*53)) 64 om om) (Zp (Rq ((((x2*131)+(x3*1117))+((p*29:Nat):Int))+(((p / bs.length:Nat):Int)*53)) (((((x2*131)+(x3*1117))+((p*29:Nat):Int))+(((p / bs.length:Nat):Int)*53)) / 64)) (Z0 (Y1 2 (Zp (EE (Bj ((((x2*131)+(x3*1117))+((p*29:Nat):Int))+(((p / bs.length:Nat):Int)*53)) (((((x2*131)+(x3*1117))+((p*29:Nat):Int))+(((p / bs.length:Nat):Int)*53)) / 64)) mx om (HJ ⟨by omega,by omega⟩ ⟨by omega,by omega⟩).1) (Zo (r1 [0] ⟨((Bj ((((x2*131)+(x3*1117))+((p*29:Nat):Int))+(((p / bs.length:Nat):Int)*53)) (((((x2*131)+(x3*1117))+((p*29:Nat):Int))+(((p / bs.length:Nat):Int)*53)) / 64)) % mx),rfl,rfl,(Pk.rem (HJ ⟨by omega,by omega⟩ ⟨by omega,by omega⟩).1 om)⟩))))))))))))))))))))))
theorem Uh (rd:Nat) (bs:LI) (p:Nat) (xs:LI) (ZO:∀z∈bs,0<=z/\z<=255) (hp:p+1<=1000000000:=by exact ob) (hx:0<xs.length/\xs.length<=1000000:=by exact ob):Zj 153 [.p rd 0,Z4 xs] [YE rd bs p] (fun r h=>∃(z:Int),r=.i z/\h=[.obj rd [Ui bs,.i (p+1:Nat)]]/\z∈xs):=by
 refine ZE 12 Tryz.func153 (Zy (Y1 3 (iw (Ya xs) (ic [0] (WG rd bs p (xs.length:Int) (ZO:=ob)) ?_))))
 rintro _ _ ⟨k1,rfl,rfl,ZY⟩
 have hk:=ZY.lt om
 obtain ⟨x1,Z3⟩:=Zs xs k1.toNat om
 exact Zp (Zl none k1 1 (ZZ Z3)) (Zo (r1 [0] ⟨x1,rfl,rfl,(Y0 Z3)⟩))
theorem QI (fs:LI) :Zj 155 [Z4 fs] [] (Yn (CN (Yg.mk fs))):=by
 exact ZE 5 Tryz.func155 (ar (iA [nl] fun b1=>ie (Y1 2 (ZH 0 b1 [Z4 fs] (ie (ZB (r3 [] [.agg [Z4 fs]] [0] [(b1,b1)] ⟨rfl,rfl⟩ (Zc.agg (.cons (Zc.sl _ (Yu Z8 ob)) .nil)))))))))
theorem Pu (rd:Nat) (bs:LI) (p:Nat) (ZO:∀z∈bs,0<=z/\z<=255) (hp:p+1<=1000000000:=by exact ob):Zj 154 [.p rd 0] [YE rd bs p] (fun r h=>∃(ds:List Zf) (v:Hd),r=.h v/\h=[rK v 3 (Zi (YB ds)),.obj rd [Ui bs,.i (p+1:Nat)]]/\GD ds):=by
 refine ZE 51 Tryz.func154 (Zy (ar (iL (Z8 []) 0 1 fun v1=>ZT 0 [(8,Z4 [])] (Zx [] (QI []) (iL (Z8 [0,1]) 2 1 fun v2=>ZT 0 [(10,Z4 [0,1])] (Zx [] (QI [0,1]) (iL (XR [Yg.mk [],Yg.mk [0,1]]) 2 1 fun v3=>Z2 1 (iA [.i 0,.i 0,nl] fun b1=>ZH 0 b1 [.i 0,.i 0,H5 [Yg.mk [],Yg.mk [0,1]] v3] (ie (ar (iL (Z8 []) 0 1 fun v4=>ZT 0 [(14,Z4 [])] (Zx [] (QI []) (iL (Z8 [3,0,3]) 3 1 fun v5=>ZT 0 [(16,Z4 [3,0,3])] (Zx [] (QI [3,0,3]) (iL (XR [Yg.mk [],Yg.mk [3,0,3]]) 2 1 fun v6=>Z2 1 (iA [.i 0,.i 0,nl] fun b2=>ZH 0 b2 [.i 0,.i 0,H5 [Yg.mk [],Yg.mk [3,0,3]] v6] (ie (ar (iL (Z8 [1,3]) 2 1 fun v7=>ZT 0 [(20,Z4 [1,3])] (Zx [] (QI [1,3]) (iL (XR [Yg.mk [1,3]]) 1 1 fun v8=>Z2 2 (iL (Z8 [1,1,0]) 3 1 fun v9=>ZT 0 [(25,Z4 [1,1,0])] (Zx [] (QI [1,1,0]) (iL (Z8 [0]) 1 1 fun v10=>ZT 0 [(27,Z4 [0])] (Zx [] (QI [0]) (iL (Z8 [3]) 1 1 fun v11=>ZT 0 [(29,Z4 [3])] (Zx [] (QI [3]) (iL (XR [Yg.mk [1,1,0],Yg.mk [0],Yg.mk [3]]) 3 1 fun v12=>ZT 2 [(23,.agg [.i 0,.i 0,J7 [Yg.mk [1,3]]]),(24,.agg [.i 1,.i 0,.sl [] none]),(32,.agg [.i 0,.i 0,J7 [Yg.mk [1,1,0],Yg.mk [0],Yg.mk [3]]]),(33,.agg [.i 0,.i 1,.sl [] none])] (iL (YB [Zf.mk 0 0 [Yg.mk [1,3]],Zf.mk 1 0 [],Zf.mk 0 0 [Yg.mk [1,1,0],Yg.mk [0],Yg.mk [3]],Zf.mk 0 1 []]) 4 3 fun v13=>Z0 (ar (Kc 3 [(35,.agg [.i 0,.i 0,J7 [Yg.mk [],Yg.mk [0,1]]]),(36,.agg [.i 0,.i 0,.sl [] none]),(37,.agg [.i 0,.i 0,J7 [Yg.mk [],Yg.mk [3,0,3]]])] [11,7] (iKN (Zi (YB [Zf.mk 0 0 [Yg.mk [],Yg.mk [0,1]],Zf.mk 0 0 [],Zf.mk 0 0 [Yg.mk [],Yg.mk [3,0,3]]])) 3 3 fun g1=>Z0 (Y1 1 (ic [16] (WG rd bs p 5 (ZO:=ob)) ?_))))))))))))))))))))))))))))))))))
 rintro _ _ ⟨k1,rfl,rfl,ZY⟩
 have hk:=ZY.lt om
 refine Z0 (X7 (Y9 (k1<4) (fun Za=>?_) (fun Za=>?_)))
 ·refine az (Z2 3 ?_)
  obtain ⟨x1,Z3⟩:=Zs [Zf.mk 0 0 [Yg.mk [1,3]],Zf.mk 1 0 [],Zf.mk 0 0 [Yg.mk [1,1,0],Yg.mk [0],Yg.mk [3]],Zf.mk 0 1 []] k1.toNat (by show k1.toNat<4;omega)
  exact Zp (Zl (some v13) k1 3 (WQ Z3)) (Z2 1 (iL (YB [x1]) 1 3 fun v14=>ZT 0 [(48,ZP [x1])] (Gw 2 3 (⟨some ⟨g1,0,none⟩,3,3⟩:Hd) 3 (Zi (YB [Zf.mk 0 0 [Yg.mk [],Yg.mk [0,1]],Zf.mk 0 0 [],Zf.mk 0 0 [Yg.mk [],Yg.mk [3,0,3]]])) (YB [x1]) none rfl (KX _) (FV _) (by simp [YB]) (by simp<;>omega) fun v15=>Z0 (ar (Zo (r1 [0,1] ⟨([AR,Zf.mk 0 0 [],AS]++[x1]),v15,rfl,rfl,(GD.four Z3)⟩ (eq:=(rr (ls:=Zi (YB [Zf.mk 0 0 [Yg.mk [],Yg.mk [0,1]],Zf.mk 0 0 [],Zf.mk 0 0 [Yg.mk [],Yg.mk [3,0,3]]])++Zi (YB [x1])) (L0 _ _) (rc rz)))))))))
 exact ak (ar (Zo (r1 [1,0] ⟨[AR,Zf.mk 0 0 [],AS],(⟨some ⟨g1,0,none⟩,3,3⟩:Hd),rfl,rfl,GD.three⟩ (eq:=(rr (ls:=Zi (YB [Zf.mk 0 0 [Yg.mk [],Yg.mk [0,1]],Zf.mk 0 0 [],Zf.mk 0 0 [Yg.mk [],Yg.mk [3,0,3]]])) rfl (rc rz))))))
theorem Z9v (rd:Nat) (bs:LI) (p:Nat) (ZO:∀z∈bs,0<=z/\z<=255) (hp:p+1<=1000000000:=by exact ob):Zj 154 [.p rd 0] [YE rd bs p] (fun r h=>∃(ds:List Zf) (v:Value),r=Ay ds v/\h=[.tail v 3,.obj rd [Ui bs,.i (p+1:Nat)]]/\GD ds):=(Pu rd bs p ZO hp).frz (es:=YB) (hs:=fun _=>[.obj rd [Ui bs,.i (p+1:Nat)]]) KX om
theorem Z9a (rd:Nat) (bs:LI) (p:Nat) (ZO:∀z∈bs,0<=z/\z<=255) (hp:p+5<=1000000000:=by exact ob):Zj 93 [.p rd 0] [YE rd bs p] (fun r h=>∃(dz:List Zf) (p2:Nat),r=ZP dz/\h=[YE rd bs p2]/\AD dz/\p<=p2/\p2<=p+5):=by
 refine ZE 89 Tryz.func93 (Zy (Y1 1 (ic [0] (Pu rd bs p (ZO:=ob)) ?_)))
 rintro _ _ ⟨ds1,v1,rfl,rfl,ZY⟩
 have hgl:=ZY.len
 have hga:=ZY.ad
 refine Gv 0 ds1.length (v:=v1) (Cl _) om (fun g1 c1 he1=>?_)
 subst he1
 refine Z0 (Y1 2 (io (.i ds1.length) (.i ds1.length) (lr _) (ic [1] (WG rd bs (p+1) (ds1.length:Int) (ZO:=ob)) ?_)))
 rintro _ _ ⟨k1,rfl,rfl,Yi⟩
 have qhp2:=Yi.lt om
 refine Z0 (YP 1 (ic [0] (WG rd bs ((p+1)+1) 14 (ZO:=ob)) ?_))
 rintro _ _ ⟨k2,rfl,rfl,YJ⟩
 have qhp3:=YJ.lt om
 refine ie (ab 0 (Zy (KV (fun fz gz F h=>∃(dq:List Zf) (vq:Hd) (pq:Nat),(AD dq)/\(p<=pq/\pq<=p+5)/\F=sF [] fz [(3,.h vq)]/\h=[YE rd bs pq,rK vq 3 (Zi (YB dq))]) (fun _ _=>rfl) ?_ ?_)))
 ·refine ac (k2==0) Zq (fun Za=>?_) (fun Za=>?_)
  ·refine az (Z2 3 (iL (Z8 [-1,5,0,2]) 4 1 fun v2=>ZT 0 [(18,Z4 [-1,5,0,2])] (ic [1] (Uh rd bs (((p+1)+1)+1) [-1,5,0,2] (ZO:=ob)) ?_)))
   rintro _ _ ⟨z1,rfl,rfl,YR⟩
   refine Z2 1 (iL (Z8 [0,1,5]) 3 1 fun v3=>ZT 0 [(21,Z4 [0,1,5])] (ic [1] (Uh rd bs ((((p+1)+1)+1)+1) [0,1,5] (ZO:=ob)) ?_))
   rintro _ _ ⟨z2,rfl,rfl,Xk⟩
   exact Z2 1 (Zp (Ws g1 ds1.length c1 k1.toNat 3 k1) (ZT 0 [(23,.agg [.i z1,.i z2,.sl [] none])] (EA 3 g1 ds1.length c1 3 (k1.toNat * 3) [.i z1,.i z2,.sl [] none] (Zi (YB ds1)) (Zi (YB (ds1.set k1.toNat (Zf.mk z1 z2 [])))) (by rw [Cl];simp only [YW,XJ];omega) (Gd (Zf.mk z1 z2 []) om) (ie (ZV ⟨(ds1.set k1.toNat (Zf.mk z1 z2 [])),(⟨some ⟨g1,0,none⟩,ds1.length,c1⟩:Hd),((((p+1)+1)+1)+1)+1,(hga.set _ (by simp)),ob,rfl,rfl⟩ (wk [1,0] fl))))))
  refine ar (YD (k2==1) Zq (fun Zg=>?_) (fun Zg=>?_))
  ·refine az (Z2 3 (iL (Z8 [-1,0,4,5]) 4 1 fun v4=>ZT 0 [(30,Z4 [-1,0,4,5])] (ic [1] (Uh rd bs (((p+1)+1)+1) [-1,0,4,5] (ZO:=ob)) ?_)))
   rintro _ _ ⟨z3,rfl,rfl,XX⟩
   exact iL (Z8 [z3]) 1 1 fun v5=>ZT 0 [(32,Z4 [z3])] (Zx [] (QI [z3]) (iL (Z8 [0,0,0,0]) 4 1 fun v6=>ZT 0 [(34,Z4 [0,0,0,0])] (Zx [] (QI [0,0,0,0]) (iL (Z8 []) 0 1 fun v7=>ZT 0 [(36,Z4 [])] (Zx [] (QI []) (iL (XR [Yg.mk [z3],Yg.mk [0,0,0,0],Yg.mk []]) 3 1 fun v8=>Z2 1 (Zp (Ws g1 ds1.length c1 k1.toNat 3 k1) (ZT 0 [(39,.agg [.i 0,.i 0,J7 [Yg.mk [z3],Yg.mk [0,0,0,0],Yg.mk []]])] (EA 6 g1 ds1.length c1 3 (k1.toNat * 3) [.i 0,.i 0,J7 [Yg.mk [z3],Yg.mk [0,0,0,0],Yg.mk []]] (Zi (YB ds1)) (Zi (YB (ds1.set k1.toNat (Zf.mk 0 0 [Yg.mk [z3],Yg.mk [0,0,0,0],Yg.mk []])))) (by rw [Cl];simp only [YW,XJ];omega) (Gd (Zf.mk 0 0 [Yg.mk [z3],Yg.mk [0,0,0,0],Yg.mk []]) om) (ie (ZV ⟨(ds1.set k1.toNat (Zf.mk 0 0 [Yg.mk [z3],Yg.mk [0,0,0,0],Yg.mk []])),(⟨some ⟨g1,0,none⟩,ds1.length,c1⟩:Hd),(((p+1)+1)+1)+1,(hga.set _ (by simp)),ob,rfl,rfl⟩ (wk [5,0] fl))))))))))))
  refine ar (YD (k2==2) Zq (fun ZD=>?_) (fun ZD=>?_))
  ·exact az (Z2 3 (ia ((k1+1)) ((k1)+(1)) (iL (Z8 [k1+1]) 1 1 fun v9=>ZT 0 [(47,Z4 [k1+1])] (Zx [] (QI [k1+1]) (iL (XR [Yg.mk [k1+1]]) 1 1 fun v10=>Z2 1 (Zp (Ws g1 ds1.length c1 k1.toNat 3 k1) (ZT 0 [(50,.agg [.i 0,.i 0,J7 [Yg.mk [k1+1]]])] (EA 3 g1 ds1.length c1 3 (k1.toNat * 3) [.i 0,.i 0,J7 [Yg.mk [k1+1]]] (Zi (YB ds1)) (Zi (YB (ds1.set k1.toNat (Zf.mk 0 0 [Yg.mk [(k1+1)]])))) (by rw [Cl];simp only [YW,XJ];omega) (Gd (Zf.mk 0 0 [Yg.mk [(k1+1)]]) om) (ie (ZV ⟨(ds1.set k1.toNat (Zf.mk 0 0 [Yg.mk [(k1+1)]])),(⟨some ⟨g1,0,none⟩,ds1.length,c1⟩:Hd),((p+1)+1)+1,(hga.set _ (by simp)),ob,rfl,rfl⟩ (wk [3,0] fl)))))))))))
  refine ar (YD (k2==3) Zq (fun Yj=>?_) (fun Yj=>?_))
  ·refine az (Z2 2 (iL (Z8 [0,2,1]) 3 1 fun v11=>ZT 0 [(56,Z4 [0,2,1])] (ic [1] (Uh rd bs (((p+1)+1)+1) [0,2,1] (ZO:=ob)) ?_)))
   rintro _ _ ⟨z4,rfl,rfl,WA⟩
   exact ZT 1 [(58,.agg [.i 2,.i z4,.sl [] none])] (iL (YB [Zf.mk 2 z4 []]) 1 3 fun v12=>ZT 0 [(59,ZP [Zf.mk 2 z4 []])] (Gw 3 ds1.length (⟨some ⟨g1,0,none⟩,ds1.length,c1⟩:Hd) 3 (Zi (YB ds1)) (YB [Zf.mk 2 z4 []]) none (Cl _) (KX _) (FV _) (by simp [YB]) (by simp<;>omega) fun v13=>Z0 (ZV ⟨(ds1++[Zf.mk 2 z4 []]),v13,(((p+1)+1)+1)+1,(hga.app (by simp;omega) (by simp)),ob,rfl,rfl⟩ (wk [2,0] fl (e:=(rc (rr (ls:=Zi (YB ds1)++Zi (YB [Zf.mk 2 z4 []])) (L0 _ _) rz)))))))
  refine ar (YD (k2==4) Zq (fun Xh=>?_) (fun Xh=>?_))
  ·refine az (Z2 3 (ic [0] (WG rd bs (((p+1)+1)+1) 2 (ZO:=ob)) ?_))
   rintro _ _ ⟨k3,rfl,rfl,WY⟩
   have qhp8:=WY.lt om
   refine iL (Z8 []) 0 1 fun v14=>ZT 0 [(67,Z4 [])] (Zx [] (QI []) (iL (Z8 [2]) 1 1 fun v15=>ZT 0 [(69,Z4 [2])] (Zx [] (QI [2]) (iL (Z8 []) 0 1 fun v16=>ZT 0 [(71,Z4 [])] (Zx [] (QI []) (iL (Z8 []) 0 1 fun v17=>ZT 0 [(73,Z4 [])] (Zx [] (QI []) (iL (XR [Yg.mk [],Yg.mk [2],Yg.mk [],Yg.mk []]) 4 1 fun v18=>Z2 1 (ic [5] (WG rd bs ((((p+1)+1)+1)+1) 3 (ZO:=ob)) ?_)))))))))
   rintro _ _ ⟨k4,rfl,rfl,Vr⟩
   have qhp9:=Vr.lt om
   exact Zp (KH (es:=XR [Yg.mk [],Yg.mk [2],Yg.mk [],Yg.mk []]) (hv:=some v18) (l:=k4) (m:=(((XR [Yg.mk [],Yg.mk [2],Yg.mk [],Yg.mk []]).length:Nat):Int)) (sz:=1) (es':=XR ([Yg.mk [],Yg.mk [2],Yg.mk [],Yg.mk []].drop k4.toNat)) kr om (by simp<;>omega) (by simp<;>omega) (Ej _) (by first|(simp only [VH,Vu,ID,IC];done)|(simp only [VH,Vu,ID,IC];rfl)|(simp [ID,IC];done))) (Z2 1 (Zp (Ws g1 ds1.length c1 k1.toNat 3 k1) (EA 6 g1 ds1.length c1 3 (k1.toNat * 3) [.i k3,.i 0,J7 ([Yg.mk [],Yg.mk [2],Yg.mk [],Yg.mk []].drop k4.toNat)] (Zi (YB ds1)) (Zi (YB (ds1.set k1.toNat (Zf.mk k3 0 ([Yg.mk [],Yg.mk [2],Yg.mk [],Yg.mk []].drop k4.toNat))))) (by rw [Cl];simp only [YW,XJ];omega) (Gd (Zf.mk k3 0 ([Yg.mk [],Yg.mk [2],Yg.mk [],Yg.mk []].drop k4.toNat)) om) (ie (ZV ⟨(ds1.set k1.toNat (Zf.mk k3 0 ([Yg.mk [],Yg.mk [2],Yg.mk [],Yg.mk []].drop k4.toNat))),(⟨some ⟨g1,0,none⟩,ds1.length,c1⟩:Hd),((((p+1)+1)+1)+1)+1,(hga.set _ ⟨by simp,fun c hc=>(by decide:∀c∈[Yg.mk [],Yg.mk [2],Yg.mk [],Yg.mk []],c.fields.length<=4) c (List.mem_of_mem_drop hc)⟩),ob,rfl,rfl⟩ (wk [1,0] fl))))))
  refine ar (YD (k2==5) Zq (fun Xl=>?_) (fun Xl=>?_))
  ·exact az (ZT 3 [(84,.agg [.i 0,.i 0,.sl [] none]),(85,.agg [.i 3,.i 0,.sl [] none])] (iL (YB [Zf.mk 0 0 [],Zf.mk 3 0 []]) 2 3 fun v19=>ZT 0 [(86,ZP [Zf.mk 0 0 [],Zf.mk 3 0 []])] (Gw 2 ds1.length (⟨some ⟨g1,0,none⟩,ds1.length,c1⟩:Hd) 3 (Zi (YB ds1)) (YB [Zf.mk 0 0 [],Zf.mk 3 0 []]) none (Cl _) (KX _) (FV _) (by simp [YB]) (by simp<;>omega) fun v20=>Z0 (ZV ⟨(ds1++[Zf.mk 0 0 [],Zf.mk 3 0 []]),v20,((p+1)+1)+1,(hga.app (by simp;omega) (by simp)),ob,rfl,rfl⟩ (wk [2,0] fl (e:=(rc (rr (ls:=Zi (YB ds1)++Zi (YB [Zf.mk 0 0 [],Zf.mk 3 0 []])) (L0 _ _) rz))))))))
  exact ak (ZV ⟨ds1,(⟨some ⟨g1,0,none⟩,ds1.length,c1⟩:Hd),((p+1)+1)+1,hga,ob,rfl,rfl⟩ (wk [0,0] fl))
 rintro F h ⟨dq,vq,pq,B8,Rd,rfl,rfl⟩
 exact Zy (Rk 2 1 (v:=vq) (YB dq) (KX _) (ZB (r2 [1] [Ay dq vq.v] ⟨dq,pq,rfl,rfl,⟨B8,Rd⟩⟩ (Zc.forget _ _))))
theorem Zj9 (ds:List Zf) (n:Nat) (hz:KN ds:=by exact ob) (hn:n<ds.length:=by exact ob):Zj 284 [ZP ds,.i n] [] (Yn (.b (Cf ds n))):=by
 have hl_ds:ds.length<=4294967296:=by have:=hz.len;omega
 refine ZE 100 Tryz.func284 (Zy (Y1 2 ?_))
 obtain ⟨x1,Z3⟩:=Zs ds n om
 have hdo:=Eg Z3
 have hz1:=hz.cons_at Z3
 refine Zp (Zl none (n:Int) 3 (WQ Z3)) (Z2 1 (iA [.i 0,.i 0,nl] fun b1=>ZH 0 b1 (TZ x1) (ie (Yk 2 [0] (iw (Uo x1.cons) (Y9 ((x1.cons.length:Int)>0) (fun Za=>?_) (fun Za=>?_)))))))
 ·refine Yk 2 [0] (iw (Uo x1.cons) (XD 9 [0,5] [(24,.b ((decide ((x1.cons.length:Int)>3))||(x1.frm != 0)))] (fun gz=>gz) ?_ (fun hj1=>?_)))
  ·refine Xv [0,5] [(29,.b (((decide ((x1.cons.length:Int)>3))||(x1.frm != 0))||(x1.to_ != 0)))] (fun gz=>gz) ?_ ?_
   ·refine Z2 1 (ib (b:=((decide ((x1.cons.length:Int)>3))||(x1.frm != 0))) 25 (fun Zb=>?_) (fun Zb=>?_))
    ·have ZY:((x1.cons.length:Int)>3)∨(x1.frm≠0):=((Yh dq Y3)).1 Zb
     exact Z0 (wk [0] (Zt true Zb fl))
    have Yi:¬(((x1.cons.length:Int)>3)∨(x1.frm≠0)):=Y6 (Yh dq Y3) Zb
    exact VX [0] (wk [0] (Zt (x1.to_ != 0) Zb fl))
   refine ac (((decide ((x1.cons.length:Int)>3))||(x1.frm != 0))||(x1.to_ != 0)) (p:=(((x1.cons.length:Int)>3)∨(x1.frm≠0))∨(x1.to_≠0)) (Yh (Yh dq Y3) Y3) (fun Zg=>?_) (fun Zg=>?_)
   ·exact ar (Zo (ZU (.b false) (lb (by clear Z3;first|rfl|omega|grind [UT]))))
   refine ak (Ym (ab 0 (Y4 (fun fz gz m F h=>∃(k:Nat),(k<=x1.cons.length)/\(Q5 ds.length (x1.cons.drop k)=Q5 ds.length x1.cons)/\F=sF [0,5] fz [(6,.i k)]/\h=gz/\m=x1.cons.length-k) _ _ _ ⟨0,ob,ob,rfl,rfl,rfl⟩ (wk [0] (Yb fl)) ?_)))
   rintro m F h ⟨k,Ye,Zk,rfl,rfl,rfl⟩
   refine Yk 3 [0] (iw (Uo x1.cons) (Y9 ((k:Int)<(x1.cons.length:Int)) (fun ZD=>?_) (fun ZD=>?_)))
   ·refine ak (aq (ab 1 (Zv 3 [0] ?_)))
    obtain ⟨x2,Zr⟩:=Zs x1.cons k om
    refine Zp (Zl none (k:Int) 1 (AU Zr)) (Z2 2 (iw (Ya x2.fields) (Xv [0,5,6] [(55,.b ((decide ((x2.fields.length:Int)>3))||(!Wo ds.length x2.fields)))] (fun gz=>gz) ?_ ?_)))
    ·refine Z2 2 (ib (b:=(decide ((x2.fields.length:Int)>3))) 45 (fun Zz=>?_) (fun Zz=>?_))
     ·have YJ:(x2.fields.length:Int)>3:=(dq).1 Zz
      exact Z0 (wk [0] (Zt true Zz fl))
     have YR:¬((x2.fields.length:Int)>3):=Y6 dq Zz
     exact ZL 4 [0] (Zp (Zl none (k:Int) 1 (AU Zr)) (Z2 2 (Zx [] (Z1j ds x2.fields) (Z0 (wk [0] (Zt (!Wo ds.length x2.fields) Zz fl))))))
    refine ac ((decide ((x2.fields.length:Int)>3))||(!Wo ds.length x2.fields)) (p:=((x2.fields.length:Int)>3)∨(¬(Wo ds.length x2.fields=true))) (Yh dq (Yl Iff.rfl)) (fun Yj=>?_) (fun Yj=>?_)
    ·refine Zy ?_
     rw [Y5 Zr] at Zk
     exact ZB (ZU (.b false) (lb (by clear Z3 Zr;first|rfl|omega|grind [Q5,JY,UT])))
    refine ak (az (Z2 1 (ZJ k (Z0 ?_))))
    have hdr:=Y5 Zr
    exact ZK ⟨k+1,ob,(by rw [hdr] at Zk;clear hdr Z3 Zr;grind [Q5,JY]),rfl,rfl,rfl⟩ (wk [0] (ZM k fl))
   refine ax 0 (Zy ?_)
   try rw [Xj (xs:=x1.cons) (k:=k) om] at Zk
   exact ZB (ZU (.b true) (lb (by clear Z3;first|rfl|omega|grind [Q5,JY,UT])))
  refine Z2 2 (ib (b:=(decide ((x1.cons.length:Int)>3))) 20 (fun Yo=>?_) (fun Yo=>?_))
  ·have Xk:(x1.cons.length:Int)>3:=(dq).1 Yo
   exact Z2 4 (Yp (wk [0] (Zt true Yo fl)) hj1)
  have XX:¬((x1.cons.length:Int)>3):=Y6 dq Yo
  exact ZL 4 [0] (Yp (wk [0] (Zt (x1.frm != 0) Yo fl)) hj1)
 refine ak (Ym (ab 2 (Y4 (fun fz gz m F h=>∃(j:Nat),(j<=n)/\(Ko x1 ((ds.take n).drop j)=Ko x1 (ds.take n))/\F=sF [0,1,5] fz [(7,.i j)]/\h=gz/\m=n-j) _ _ _ ⟨0,ob,ob,rfl,rfl,rfl⟩ (wk [0] (Yb fl)) ?_)))
 rintro m F h ⟨j,U7,XO,rfl,rfl,rfl⟩
 refine X7 (Y9 ((j:Int)<(n:Int)) (fun Xh=>?_) (fun Xh=>?_))
 ·refine ak (aq (ab 3 (aD 27 (Zh 25 27 [0,1] ?_))))
  obtain ⟨x3,YG⟩:=Zs ds j om
  refine dx 2 (Zl none (j:Int) 3 (WQ YG)) (Zh 22 24 [3,4] (dw 5 (Uo x3.cons) (JZ [0,1,5,7] [(87,.b (((x3.cons.length:Int)==0)&&((x3.frm==x1.frm)&&(x3.to_==x1.to_))))] (fun gz=>gz) ?_ ?_)))
  ·refine Zh 19 21 [6,7] (db (b:=((x3.cons.length:Int)==0)) 68 (fun Xg=>?_) (fun Xg=>?_))
   ·have WA:(x3.cons.length:Int)=0:=(Zq).1 Xg
    refine Zh 17 19 [8,9] (dx 10 (Zl none (j:Int) 3 (WQ YG)) (ZI 9 16 [11,12,13,14,15,16,17] [0] (db (b:=(x3.frm==x1.frm)) 78 (fun Wx=>?_) (fun Wx=>?_))))
    ·have WY:x3.frm=x1.frm:=(Zq).1 Wx
     exact Zh 7 9 [18,19] (dx 20 (Zl none (j:Int) 3 (WQ YG)) (ZI 0 6 [21,22,23,24,25,26] [0] (de (wk [0] (Zt (x3.to_==x1.to_) (And.intro Xg Wx) fl)))))
    have Vr:¬(x3.frm=x1.frm):=Y6 Zq Wx
    exact Zh 0 9 [18,19,20,21,22,23,24,25,26] (de (wk [0] (Zt false (And.intro Xg Wx) fl)))
   have UH:¬((x3.cons.length:Int)=0):=Y6 Zq Xg
   exact Zh 0 19 [8,9,10,11,12,13,14,15,16,17,18,19,20,21,22,23,24,25,26] (de (wk [0] (Zt false Xg fl)))
  refine ac (((x3.cons.length:Int)==0)&&((x3.frm==x1.frm)&&(x3.to_==x1.to_))) (p:=((x3.cons.length:Int)=0)/\((x3.frm=x1.frm)/\(x3.to_=x1.to_))) (YK Zq (YK Zq Zq)) (fun Xl=>?_) (fun Xl=>?_)
  ·refine Zy ?_
   rw [Y5 (show (ds.take n)[j]? = some x3 by rw [Qf,Ze om];exact YG),Ko,Ze om] at XO
   exact ZB (ZU (.b false) (lb (by clear Z3 YG;first|rfl|omega|grind [UT])))
  refine ak (az (Z2 1 (ZJ j (hb:=(by have:=hz.len;omega)) (Z0 ?_))))
  have hdr:=Y5 YG
  exact ZK ⟨j+1,ob,(by rw [Y5 (show (ds.take n)[j]? = some x3 by rw [Qf,Ze om];exact YG),Ko,Z7 om] at XO;exact XO),rfl,rfl,rfl⟩ (wk [0] (ZM j fl))
 refine ax 2 (Zv 3 [0] (iw (Uf ds) (Zx [] (TJ x1.frm 0 (ds.length:Int)) (XD 12 [] [(99,.b ((decide (0<=x1.frm/\x1.frm<=(ds.length:Int)))&&(decide (0<=x1.to_/\x1.to_<=(ds.length:Int)))))] (fun gz=>gz) ?_ (fun hj2=>?_)))))
 ·refine Z0 ?_
  rw [Xj (show (ds.take n).length<=j by rw [WW];omega),Ko] at XO
  exact ZB (ZU (.b ((decide (0<=x1.frm/\x1.frm<=(ds.length:Int)))&&(decide (0<=x1.to_/\x1.to_<=(ds.length:Int))))) (lb (by clear Z3;first|rfl|omega|grind [UT])))
 refine Z2 1 (ib (b:=(decide (0<=x1.frm/\x1.frm<=(ds.length:Int)))) 93 (fun WM=>?_) (fun WM=>?_))
 ·have T0:0<=x1.frm/\x1.frm<=(ds.length:Int):=(dq).1 WM
  exact ZL 3 [0] (iw (Uf ds) (Zx [] (TJ x1.to_ 0 (ds.length:Int)) (Z2 1 (Yp (wk [0] (Zt (decide (0<=x1.to_/\x1.to_<=(ds.length:Int))) WM fl)) hj2))))
 have T1:¬(0<=x1.frm/\x1.frm<=(ds.length:Int)):=Y6 dq WM
 exact Z2 6 (Yp (wk [0] (Zt false WM fl)) hj2)
theorem Zje (ds:List Zf) (hz:KN ds:=by exact ob):Zj 261 [ZP ds] [] (Yn (.b (V2 ds))):=by
 have hzl:=hz.len
 refine ZE 17 Tryz.func261 (Zy (YP 1 (iw (Uf ds) (Y9 ((ds.length:Int)>4) (fun Za=>?_) (fun Za=>?_)))))
 ·exact ar (Zo (ZU (.b false) (lb (by first|rfl|omega|grind [V2]))))
 refine ak (Ym (ab 0 (Y4 (fun fz gz m F h=>∃(k:Nat),(k<=ds.length)/\(Tw ds (ds.drop k) k=Tw ds ds 0)/\F=sF [0] fz [(3,.i k)]/\h=gz/\m=ds.length-k) _ _ _ ⟨0,ob,ob,rfl,rfl,rfl⟩ (wk [] (Yb fl)) ?_)))
 rintro m F h ⟨k,Ye,Zk,rfl,rfl,rfl⟩
 refine YP 2 (iw (Uf ds) (Y9 ((k:Int)<(ds.length:Int)) (fun Zg=>?_) (fun Zg=>?_)))
 ·refine ak (aq (ab 1 (Y1 2 (Zx [] (Zj9 ds k) (YD (!Cf ds k) (p:=¬(Cf ds k=true)) (Yl Iff.rfl) (fun ZD=>?_) (fun ZD=>?_))))))
  ·refine Zy ?_
   try rw [Xj (xs:=ds) (k:=k) om] at Zk
   obtain ⟨x1,Z3⟩:=Zs ds k om
   rw [Y5 Z3] at Zk
   exact ZB (ZU (.b false) (lb (by first|rfl|omega|grind [Tw,V2])))
  refine ak (az (Z2 1 (ZJ k (Z0 ?_))))
  obtain ⟨x1,Z3⟩:=Zs ds k om
  have hdr:=Y5 Z3
  exact ZK ⟨k+1,ob,(by rw [hdr] at Zk;clear hdr ;grind [Tw]),rfl,rfl,rfl⟩ (wk [] (ZM k fl))
 refine ax 0 (Zy ?_)
 try rw [Xj (xs:=ds) (k:=k) om] at Zk
 exact ZB (ZU (.b true) (lb (by first|rfl|omega|grind [Tw,V2])))
theorem Zj1 (n:Zm) (hz:n.routines.length<=4194304:=by exact ob):Zj 215 [Yr n] [] (Yn (.agg [ZP n.decls,.sl (Uv (n.routines.map Ua)) none])):=by
 refine ZE 35 Tryz.func215 (ar (iA (YZ n) fun b1=>iA [nl,nl] fun b2=>ie (Zv 2 [1] (iL (Uv []) 0 5 fun v1=>Z2 1 (iA [nl,nl] fun b3=>?_)))))
 refine ZH 0 b3 [ZP n.decls,.sl (Uv []) (some v1)] (ie (Ym (ab 0 (Y4 (fun fz gz m F h=>∃(k:Nat) (v:Value),(k<=n.routines.length)/\F=sF [1,2,3] fz [(4,.i k)]/\h=[.obj b3 [ZP n.decls,.sl (Uv ((n.routines.take k).map Ua)) (some v)],Zd gz 2,Zd gz 3,.tail v 5]/\m=n.routines.length-k) _ _ _ ⟨0,v1,ob,rfl,rfl,rfl⟩ (wk [0,1,1,0] (Yb fl)) ?_))))
 rintro m F h ⟨k,v,Ye,rfl,rfl,rfl⟩
 refine Yk 3 [2] (iw (U9 n.routines) (Y9 ((k:Int)<(n.routines.length:Int)) (fun Za=>?_) (fun Za=>?_)))
 ·refine ak (aq (ab 1 (aE 19 (ZI 14 19 [0,1,2,3,4] [0,2] ?_))))
  obtain ⟨x1,Z3⟩:=Zs n.routines k om
  refine dx 5 (Zl none (k:Int) 5 (WR Z3)) (ZI 8 13 [6,7,8,9,10] [2] (dx 11 (Zl none (k:Int) 5 (WR Z3)) (YA 4 7 [12,13,14] [(30,.agg [Z4 x1.params,.i x1.result,.i 0,.i 0,.sl [] none])] (Z9 15 (dL 15 [0] [b3] (Uv [Sg.mk x1.params x1.result]) 1 5 fun v2=>YA 3 3 [] [(31,.sl (Uv [Sg.mk x1.params x1.result]) none)] (Z9 16 (dp 16 4 [] [] (Uv ((n.routines.take (k+1)).map Ua)) (Uv ((n.routines.take k).map Ua)) (Uv [Sg.mk x1.params x1.result]) v none 5 (OO _) (OO _) (Z85 _) (by simp<;>omega) (by rw [V1 Z3];simp [Uv,Ua]) fun v3=>Zh 1 2 [17] (Z9 18 (YO 18 2 [] [] b3 [ZP n.decls,.sl (Uv ((n.routines.take (k+1)).map Ua)) (some v3)] (de (az (Z2 1 (ZJ k (Z0 ?_))))))))))))))
  have hdr:=Y5 Z3
  exact ZK ⟨k+1,v3,ob,rfl,rfl,rfl⟩ (wk [0,2,2,0] (ZM k fl))
 exact ax 0 (Zv 1 [0] (ZH 1 b2 [ZP n.decls,.sl (Uv ((n.routines.take k).map Ua)) (some v)] (ie (ZB (r3 [] [.agg [ZP n.decls,.sl (Uv ((n.routines.take k).map Ua)) (some v)]] [0] [(b2,b2)] ⟨rfl,rfl⟩ (Zc.agg (.cons (lr _) (.cons (Zc.sl _ (Yu Uv (by rw [show k=n.routines.length by omega,Vu]))) .nil))))))))
theorem Zjd (ds:List Zf) (fs:List Sg) (hz:KN ds:=by exact ob) (hf:∀f∈fs,f.params.length<=4194304):Zj 214 [.agg [ZP ds,.sl (Uv fs) none]] [] (Yn (.b (Kf ds fs))):=by
 have hzl:=hz.len
 refine ZE 64 Tryz.func214 (ar (iA [ZP ds,.sl (Uv fs) none] fun b1=>Z0 (Yk 2 [0] (Zx [] (Zje ds) (Xv [1] [(15,.b ((!V2 ds)||(!(decide (1<=(fs.length:Int)/\(fs.length:Int)<=4)))))] (fun gz=>gz) ?_ ?_)))))
 ·refine Z2 2 (ib (b:=(!V2 ds)) 9 (fun Zb=>?_) (fun Zb=>?_))
  ·have ZY:¬(V2 ds=true):=((Yl Iff.rfl)).1 Zb
   exact Z0 (wk [0] (Zt true Zb fl))
  have Yi:¬(¬(V2 ds=true)):=Y6 (Yl Iff.rfl) Zb
  exact ZL 2 [0] (iw (OP fs) (Zx [] (TJ (fs.length:Int) 1 4) (Z0 (wk [0] (Zt (!(decide (1<=(fs.length:Int)/\(fs.length:Int)<=4))) Zb fl)))))
 refine ac ((!V2 ds)||(!(decide (1<=(fs.length:Int)/\(fs.length:Int)<=4)))) (p:=(¬(V2 ds=true))∨(¬(1<=(fs.length:Int)/\(fs.length:Int)<=4))) (Yh (Yl Iff.rfl) (Yl dq)) (fun Za=>?_) (fun Za=>?_)
 ·exact ar (Zo (ZU (.b false) (lb (by first|rfl|omega|grind [Kf]))))
 refine ak (Ym (ab 0 (Y4 (fun fz gz m F h=>∃(k:Nat),(k<=fs.length)/\(JC ds.length (fs.drop k)=JC ds.length fs)/\F=sF [1] fz [(3,.i k)]/\h=gz/\m=fs.length-k) _ _ _ ⟨0,ob,ob,rfl,rfl,rfl⟩ (wk [0] (Yb fl)) ?_)))
 rintro m F h ⟨k,Ye,Zk,rfl,rfl,rfl⟩
 refine Yk 3 [0] (iw (OP fs) (Y9 ((k:Int)<(fs.length:Int)) (fun Zg=>?_) (fun Zg=>?_)))
 ·refine ak (aq (ab 1 (Zv 3 [0] ?_)))
  obtain ⟨x1,Z3⟩:=Zs fs k om
  refine Zp (Zl none (k:Int) 5 (IM Z3)) (Z2 1 (iA [nl,.i 0,.i 0,.i 0,nl] fun b2=>ZH 0 b2 [Z4 x1.params,.i x1.result,.i 0,.i 0,.sl [] none] (ie (Zv 2 [0] (iw (Ya x1.params) (XD 12 [1,3,4] [(39,.b ((decide ((x1.params.length:Int)>3))||(!Wo ds.length x1.params)))] (fun gz=>gz) ?_ (fun hj1=>?_)))))))
  ·refine Xv [1,3] [(48,.b (((decide ((x1.params.length:Int)>3))||(!Wo ds.length x1.params))||(!(decide (0<=x1.result/\x1.result<=(ds.length:Int))))))] (fun gz=>gz) ?_ ?_
   ·refine Z2 1 (ib (b:=((decide ((x1.params.length:Int)>3))||(!Wo ds.length x1.params))) 40 (fun Zz=>?_) (fun Zz=>?_))
    ·have YJ:((x1.params.length:Int)>3)∨(¬(Wo ds.length x1.params=true)):=((Yh dq (Yl Iff.rfl))).1 Zz
     exact Z0 (wk [0,0] (Zt true Zz fl))
    have YR:¬(((x1.params.length:Int)>3)∨(¬(Wo ds.length x1.params=true))):=Y6 (Yh dq (Yl Iff.rfl)) Zz
    exact ZL 4 [0,1] (iw (Uf ds) (Zx [] (TJ x1.result 0 (ds.length:Int)) (Z0 (wk [0,0] (Zt (!(decide (0<=x1.result/\x1.result<=(ds.length:Int)))) Zz fl)))))
   refine ac (((decide ((x1.params.length:Int)>3))||(!Wo ds.length x1.params))||(!(decide (0<=x1.result/\x1.result<=(ds.length:Int))))) (p:=(((x1.params.length:Int)>3)∨(¬(Wo ds.length x1.params=true)))∨(¬(0<=x1.result/\x1.result<=(ds.length:Int)))) (Yh (Yh dq (Yl Iff.rfl)) (Yl dq)) (fun ZD=>?_) (fun ZD=>?_)
   ·refine Zy ?_
    rw [Y5 Z3] at Zk
    exact ZB (ZU (.b false) (lb (by clear Z3;first|rfl|omega|grind [JC,Jb,Kf])))
   refine ak (az (Z2 1 (ZJ k (Z0 ?_))))
   have hdr:=Y5 Z3
   exact ZK ⟨k+1,ob,(by rw [hdr] at Zk;clear hdr Z3;grind [JC,Jb]),rfl,rfl,rfl⟩ (wk [1] (ZM k fl))
  refine Z2 2 (ib (b:=(decide ((x1.params.length:Int)>3))) 32 (fun Yo=>?_) (fun Yo=>?_))
  ·have Xk:(x1.params.length:Int)>3:=(dq).1 Yo
   exact Z2 7 (Yp (wk [0,0] (Zt true Yo fl)) hj1)
  have XX:¬((x1.params.length:Int)>3):=Y6 dq Yo
  exact ZL 4 [1,0] (Zx [] (Z1j ds x1.params) (Z2 2 (Yp (wk [0,0] (Zt (!Wo ds.length x1.params) Yo fl)) hj1)))
 refine ax 0 (Zv 2 [0] ?_)
 obtain ⟨x2,Zr⟩:=Zs fs 0 om
 have hfo:=Z8q Zr
 refine Zp (Zl none 0 5 (IM Zr)) (Z2 2 (iw (Ya x2.params) (XD 15 [] [(63,.b (((x2.params.length:Int)==0)&&(x2.result==0)))] (fun gz=>gz) ?_ (fun hj2=>?_))))
 ·refine Z0 ?_
  try rw [Xj (xs:=fs) (k:=k) om] at Zk
  exact ZB (ZU (.b (((x2.params.length:Int)==0)&&(x2.result==0))) (lb (by clear Zr;first|rfl|omega|grind [JC,Jb,Kf])))
 refine Z2 2 (ib (b:=((x2.params.length:Int)==0)) 56 (fun Xg=>?_) (fun Xg=>?_))
 ·have WA:(x2.params.length:Int)=0:=(Zq).1 Xg
  exact ZL 2 [0] (Zp (Zl none 0 5 (IM Zr)) (Z2 4 (Yp (wk [0] (Zt (x2.result==0) Xg fl)) hj2)))
 have WY:¬((x2.params.length:Int)=0):=Y6 Zq Xg
 exact Z2 7 (Yp (wk [0] (Zt false Xg fl)) hj2)
theorem Zjb (ps:LI) (ls:LI) (hl_ps:ps.length<=4294967296:=by exact ob) (hl_ls:ls.length<=4294967296:=by exact ob):Zj 216 [Z4 ps,Z4 ls] [] (Yn (.b (JM ps ls))):=by
 refine ZE 47 Tryz.func216 (Zy (Ym (ab 0 (Y4 (fun fz gz m F h=>∃(k:Nat),(k<=ls.length)/\(K8 ps (ls.drop k) (if k=0 then none else ls[k-1]?)=JM ps ls)/\F=sF [0,1] fz [(5,.i k)]/\h=gz/\m=ls.length-k) _ _ _ ⟨0,ob,ob,rfl,rfl,rfl⟩ (wk [] (Yb fl)) ?_))))
 rintro m F h ⟨k,Ye,Zk,rfl,rfl,rfl⟩
 refine YP 2 (iw (Ya ls) (Y9 ((k:Int)<(ls.length:Int)) (fun Za=>?_) (fun Za=>?_)))
 ·refine ak (aq (ab 1 (aD 35 (Zh 33 35 [0,1] ?_))))
  obtain ⟨x1,Z3⟩:=Zs ls k om
  refine dx 2 (Zl none (k:Int) 1 (ZZ Z3)) (Zh 30 32 [3,4] (dw 5 (Ya ps) (da 6 (((ps.length:Int)-1)) (((ps.length:Int))-(1)) (Z9 7 (Yz 7 [] [] [] (TJ x1 0 ((ps.length:Int)-1)) (Zh 25 27 [8,9] (db (b:=(!(decide (0<=x1/\x1<=((ps.length:Int)-1))))) 21 (fun Zb=>?_) (fun Zb=>?_))))))))
  ·have ZY:¬(0<=x1/\x1<=((ps.length:Int)-1)):=((Yl dq)).1 Zb
   refine Zh 0 25 [10,11,12,13,14,15,16,17,18,19,20,21,22,23,24,25,26,27,28,29,30,31,32,33,34] (de (W6 (Zy ?_)))
   rw [Y5 Z3] at Zk
   exact ZB (ZU (.b false) (lb (by have hq:=GZ (ps:=ps) (v:=x1) (r:=ls.drop (k+1)) (prev:=if k=0 then none else ls[k-1]?);rw [<-Zk,hq];rintro ⟨q1,q2,q3⟩;first|omega|(rw [hps] at q2;exact q2 (Yu some om))|(have:=q3 _ (by rw [Z7 om,hls]);omega))))
  have Yi:¬(¬(0<=x1/\x1<=((ps.length:Int)-1))):=Y6 (Yl dq) Zb
  refine Zh 22 25 [10,11,12] (dx 13 (Zl none (k:Int) 1 (ZZ Z3)) (Zh 20 21 [14] ?_))
  obtain ⟨x2,Zr⟩:=Zs ps x1.toNat om
  have hps:=Zr
  refine dx 15 (Zl none x1 1 (ZZ Zr)) (Zh 15 19 [16,17,18,19] (db (b:=(x2==0)) 31 (fun Zz=>?_) (fun Zz=>?_)))
  ·have YJ:x2=0:=(Zq).1 Zz
   refine Zh 0 15 [20,21,22,23,24,25,26,27,28,29,30,31,32,33,34] (de (W6 (Zy ?_)))
   rw [Y5 Z3] at Zk
   exact ZB (ZU (.b false) (lb (by have hq:=GZ (ps:=ps) (v:=x1) (r:=ls.drop (k+1)) (prev:=if k=0 then none else ls[k-1]?);rw [<-Zk,hq];rintro ⟨q1,q2,q3⟩;first|omega|(rw [hps] at q2;exact q2 (Yu some om))|(have:=q3 _ (by rw [Z7 om,hls]);omega))))
  have YR:¬(x2=0):=Y6 Zq Zz
  refine Zh 12 15 [20,21,22] (db (b:=(decide ((k:Int)>0))) 34 (fun Yo=>?_) (fun Yo=>?_))
  ·have Xk:(k:Int)>0:=(dq).1 Yo
   refine Zh 10 12 [23,24] (dx 25 (Zl none (k:Int) 1 (ZZ Z3)) (Zh 6 9 [26,27,28] (da 29 (((k-1:Nat):Int)) (((k:Int))-(1)) ?_)))
   obtain ⟨x3,YG⟩:=Zs ls (k-1) om
   have hls:=YG
   refine dx 30 (Zl none ((k-1:Nat):Int) 1 (ZZ YG)) (Zh 0 4 [31,32,33,34] (de (XB (x1<=x3) (fun Zg=>?_) (fun Zg=>?_))))
   ·refine Zy ?_
    rw [Y5 Z3] at Zk
    exact ZB (ZU (.b false) (lb (by have hq:=GZ (ps:=ps) (v:=x1) (r:=ls.drop (k+1)) (prev:=if k=0 then none else ls[k-1]?);rw [<-Zk,hq];rintro ⟨q1,q2,q3⟩;first|omega|(rw [hps] at q2;exact q2 (Yu some om))|(have:=q3 _ (by rw [Z7 om,hls]);omega))))
   refine ak (az (Z2 1 (ZJ k (Z0 ?_))))
   have hl1:ls[k+1-1]? = some x1:=Z3
   have hlc:(0<=x1/\x1<=(ps.length:Int)-1)/\ps[x1.toNat]?≠some 0/\(∀p,(if k=0 then none else ls[k-1]?)=some p->p<x1):=⟨by omega,by rw [hps];intro q;cases q;omega,fun p hp=>by first|(rw [Z7 om,hls] at hp;cases hp;omega)|(rw [Ze om] at hp;cases hp)⟩
   have hdr:=Y5 Z3
   exact ZK ⟨k+1,ob,(by have hq:=LQ (r:=ls.drop (k+1)) hlc;rw [hdr,hq] at Zk;rw [Z7 om,hl1];exact Zk),rfl,rfl,rfl⟩ (wk [] (ZM k fl))
  have XX:¬((k:Int)>0):=Y6 dq Yo
  refine Zh 0 12 [23,24,25,26,27,28,29,30,31,32,33,34] (de (WE (ak (az (Z2 1 (ZJ k (Z0 ?_)))))))
  have hl1:ls[k+1-1]? = some x1:=Z3
  have hlc:(0<=x1/\x1<=(ps.length:Int)-1)/\ps[x1.toNat]?≠some 0/\(∀p,(if k=0 then none else ls[k-1]?)=some p->p<x1):=⟨by omega,by rw [hps];intro q;cases q;omega,fun p hp=>by first|(rw [Z7 om,hls] at hp;cases hp;omega)|(rw [Ze om] at hp;cases hp)⟩
  have hdr:=Y5 Z3
  exact ZK ⟨k+1,ob,(by have hq:=LQ (r:=ls.drop (k+1)) hlc;rw [hdr,hq] at Zk;rw [Z7 om,hl1];exact Zk),rfl,rfl,rfl⟩ (wk [] (ZM k fl))
 refine ax 0 (Zy ?_)
 try rw [Xj (xs:=ls) (k:=k) om] at Zk
 exact ZB (ZU (.b true) (lb (by first|rfl|omega|grind [K8])))
theorem Zjc (n:Zm) (hz:KN n.decls:=by exact ob) (hr:∀r∈n.routines,r.params.length<=4194304/\r.lent.length<=4194304):Zj 168 [Yr n] [] (Yn (.b (Vy n))):=by
 have hzl:=hz.len
 refine ZE 35 Tryz.func168 (ar (iA (YZ n) fun b1=>Z0 (Yk 2 [0] (iw (U9 n.routines) (Xv [1] [(13,.b ((decide ((n.routines.length:Int)>4))||(!Kf n.decls (n.routines.map Ua))))] (fun gz=>gz) ?_ ?_)))))
 ·refine Z2 2 (ib (b:=(decide ((n.routines.length:Int)>4))) 8 (fun Zb=>?_) (fun Zb=>?_))
  ·have ZY:(n.routines.length:Int)>4:=(dq).1 Zb
   exact Z0 (wk [0] (Zt true Zb fl))
  have Yi:¬((n.routines.length:Int)>4):=Y6 dq Zb
  exact ZL 1 [0] (Zx [] (Zj1 n) (Zx [] (Zjd n.decls (n.routines.map Ua) (hf:=(by intro f hf;obtain ⟨r,h1,rfl⟩:=XF.1 hf;exact (hr r h1).1))) (Z0 (wk [0] (Zt (!Kf n.decls (n.routines.map Ua)) Zb fl)))))
 refine ac ((decide ((n.routines.length:Int)>4))||(!Kf n.decls (n.routines.map Ua))) (p:=((n.routines.length:Int)>4)∨(¬(Kf n.decls (n.routines.map Ua)=true))) (Yh dq (Yl Iff.rfl)) (fun Za=>?_) (fun Za=>?_)
 ·exact ar (Zo (ZU (.b false) (lb (by first|rfl|omega|grind [Vy]))))
 refine ak (Ym (ab 0 (Y4 (fun fz gz m F h=>∃(k:Nat),(k<=n.routines.length)/\(QV (n.routines.drop k)=QV n.routines)/\F=sF [1] fz [(3,.i k)]/\h=gz/\m=n.routines.length-k) _ _ _ ⟨0,ob,ob,rfl,rfl,rfl⟩ (wk [0] (Yb fl)) ?_)))
 rintro m F h ⟨k,Ye,Zk,rfl,rfl,rfl⟩
 refine Yk 3 [0] (iw (U9 n.routines) (Y9 ((k:Int)<(n.routines.length:Int)) (fun Zg=>?_) (fun Zg=>?_)))
 ·refine ak (aq (ab 1 (aD 14 (ZI 11 14 [0,1,2] [0] ?_))))
  obtain ⟨x1,Z3⟩:=Zs n.routines k om
  refine dx 3 (Zl none (k:Int) 5 (WR Z3)) (ZI 5 10 [4,5,6,7,8] [0] (dx 9 (Zl none (k:Int) 5 (WR Z3)) (Zh 2 4 [10,11] (Z9 12 (Yz 12 [] [] [] (Zjb x1.params x1.lent (hl_ps:=(by have:=hr _ (Y0 Z3);omega)) (hl_ls:=(by have:=hr _ (Y0 Z3);omega))) (Zh 0 1 [13] (de (ac (!JM x1.params x1.lent) (p:=¬(JM x1.params x1.lent=true)) (Yl Iff.rfl) (fun ZD=>?_) (fun ZD=>?_)))))))))
  ·refine Zy ?_
   rw [Y5 Z3] at Zk
   exact ZB (ZU (.b false) (lb (by clear Z3;first|rfl|omega|grind [QV,Vy])))
  refine ak (az (Z2 1 (ZJ k (Z0 ?_))))
  have hdr:=Y5 Z3
  exact ZK ⟨k+1,ob,(by rw [hdr] at Zk;clear hdr Z3;grind [QV]),rfl,rfl,rfl⟩ (wk [0] (ZM k fl))
 refine ax 0 (Zy ?_)
 try rw [Xj (xs:=n.routines) (k:=k) om] at Zk
 exact ZB (ZU (.b true) (lb (by first|rfl|omega|grind [QV,Vy])))
theorem JE (op:Int) :Zj 143 [.i op] [] (Yn (.b (W7 op))):=by
 exact ZE 5 Tryz.func143 (Zy (Y1 1 (Zx [] (TJ op 0 11) (Zo (ZU (.b (decide (0<=op/\op<=11))) (lb (by first|rfl|omega|grind [W7])))))))
theorem Ziv (op:Int) :Zj 250 [.i op] [] (Yn (.b (VE op))):=by
 refine ZE 21 Tryz.func250 (Zy (ar (XD 6 [0] [(8,.b ((op==0)||(op==6)))] (fun gz=>gz) ?_ (fun hj1=>?_))))
 ·refine XD 10 [0] [(12,.b (((op==0)||(op==6))||(op==8)))] (fun gz=>gz) ?_ (fun hj2=>?_)
  ·refine XD 14 [0] [(16,.b ((((op==0)||(op==6))||(op==8))||(op==9)))] (fun gz=>gz) ?_ (fun hj3=>?_)
   ·refine XD 18 [] [(20,.b (((((op==0)||(op==6))||(op==8))||(op==9))||(op==10)))] (fun gz=>gz) ?_ (fun hj4=>?_)
    ·exact Zo (ZU (.b (((((op==0)||(op==6))||(op==8))||(op==9))||(op==10))) (lb (by rw [VE];simp only [Bool.or_assoc])))
    refine Z2 1 (ib (b:=((((op==0)||(op==6))||(op==8))||(op==9))) 17 (fun Zb=>?_) (fun Zb=>?_))
    ·exact Z2 3 (Yp (wk [] (Zt true Zb fl)) hj4)
    exact Z2 3 (Yp (wk [] (Zt (op==10) Zb fl)) hj4)
   refine Z2 1 (ib (b:=(((op==0)||(op==6))||(op==8))) 13 (fun Zz=>?_) (fun Zz=>?_))
   ·exact Z2 3 (Yp (wk [] (Zt true Zz fl)) hj3)
   exact Z2 3 (Yp (wk [] (Zt (op==9) Zz fl)) hj3)
  refine Z2 1 (ib (b:=((op==0)||(op==6))) 9 (fun Yo=>?_) (fun Yo=>?_))
  ·exact Z2 3 (Yp (wk [] (Zt true Yo fl)) hj2)
  exact Z2 3 (Yp (wk [] (Zt (op==8) Yo fl)) hj2)
 refine Z2 3 (ib (b:=(op==0)) 5 (fun Xg=>?_) (fun Xg=>?_))
 ·exact Z2 3 (Yp (wk [] (Zt true Xg fl)) hj1)
 exact Z2 3 (Yp (wk [] (Zt (op==6) Xg fl)) hj1)
theorem BT (us:LI) (args:LI) (tys:LI) (hl_us:us.length<=4294967296:=by exact ob) (hl_args:args.length<=4294967296:=by exact ob) (hl_tys:tys.length<=4294967296:=by exact ob):Zj 252 [Z4 us,Z4 args,Z4 tys] [] (Yn (.b (W9 us args tys))):=by
 refine ZE 42 Tryz.func252 (Zy (YP 1 (iw (Ya args) (Z2 1 (iw (Ya tys) (YD ((args.length:Int) != (tys.length:Int)) Y3 (fun Za=>?_) (fun Za=>?_)))))))
 ·exact ar (Zo (ZU (.b false) (lb (N1 om).symm)))
 refine ak (Ym (ab 0 (Y4 (fun fz gz m F h=>∃(k:Nat),(k<=args.length)/\(Tj us (args.drop k) (tys.drop k)=W9 us args tys)/\F=sF [0,1,2] fz [(7,.i k)]/\h=gz/\m=args.length-k) _ _ _ ⟨0,ob,ob,rfl,rfl,rfl⟩ (wk [] (Yb fl)) ?_)))
 rintro m F h ⟨k,Ye,Zk,rfl,rfl,rfl⟩
 refine YP 2 (iw (Ya args) (Y9 ((k:Int)<(args.length:Int)) (fun Zg=>?_) (fun Zg=>?_)))
 ·refine ak (aq (ab 1 (aD 23 (Zh 21 23 [0,1] ?_))))
  obtain ⟨x1,Z3⟩:=Zs args k om
  refine dx 2 (Zl none (k:Int) 1 (ZZ Z3)) (Zh 18 20 [3,4] (dw 5 (Ya us) (da 6 (((us.length:Int)-1)) (((us.length:Int))-(1)) (Z9 7 (Yz 7 [] [] [] (TJ x1 0 ((us.length:Int)-1)) (Zh 13 15 [8,9] (db (b:=(!(decide (0<=x1/\x1<=((us.length:Int)-1))))) 28 (fun Zb=>?_) (fun Zb=>?_))))))))
  ·have ZY:¬(0<=x1/\x1<=((us.length:Int)-1)):=((Yl dq)).1 Zb
   refine Zh 0 13 [10,11,12,13,14,15,16,17,18,19,20,21,22] (de (W6 (Zy ?_)))
   obtain ⟨y,hy⟩:=Zs tys k om
   exact ZB (ZU (.b false) (lb (by rw [<-Zk];exact (Z2m Z3 hy (by rw [KR ZY];simp)).symm)))
  have Yi:¬(¬(0<=x1/\x1<=((us.length:Int)-1))):=Y6 (Yl dq) Zb
  refine Zh 10 13 [10,11,12] (dx 13 (Zl none (k:Int) 1 (ZZ Z3)) (Zh 8 9 [14] ?_))
  obtain ⟨x2,Zr⟩:=Zs us x1.toNat om
  refine dx 15 (Zl none x1 1 (ZZ Zr)) (Zh 4 7 [16,17,18] ?_)
  obtain ⟨x3,YG⟩:=Zs tys k om
  refine dx 19 (Zl none (k:Int) 1 (ZZ YG)) (Zh 0 3 [20,21,22] (de (ac (x2 != x3) Y3 (fun ZD=>?_) (fun ZD=>?_))))
  ·exact ar (Zo (ZU (.b false) (lb (by rw [<-Zk];exact (Z2m Z3 YG (by rw [Q3 om Zr];simpa using ZD)).symm))))
  refine ak (az (Z2 1 (ZJ k (Z0 ?_))))
  have hdr:=Y5 Z3
  exact ZK ⟨k+1,ob,(by rw [<-Zk];exact (Zko Z3 YG (by rw [Q3 om Zr];congr 1;omega)).symm),rfl,rfl,rfl⟩ (wk [] (ZM k fl))
 exact ax 0 (ar (Zo (ZU (.b true) (lb (by rw [<-Zk];exact (Zkm om om).symm)))))
theorem Zja (us:LI) (s:Z5) (hl_us:us.length<=4294967296:=by exact ob):Zj 251 [Z4 us,YF s] [] (Yn (.b (U5 us s.op s.into))):=by
 refine ZE 27 Tryz.func251 (ar (iA (Xx s) fun b1=>Z0 (X7 (VX [0] (ac (s.into==0) Zq (fun Za=>?_) (fun Za=>?_))))))
 ·exact ar (Zo (ZU (.b true) (lb (by rw [U5,Ze Za]))))
 refine ak (ar (XD 10 [0,3] [(17,.b ((s.op==6)&&(decide (1<=s.into/\s.into<=(us.length:Int)))))] (fun gz=>gz) ?_ (fun hj1=>?_)))
 ·refine Z2 1 (ib (b:=((s.op==6)&&(decide (1<=s.into/\s.into<=(us.length:Int))))) 18 (fun Zb=>?_) (fun Zb=>?_))
  ·have ZY:(s.op=6)/\(1<=s.into/\s.into<=(us.length:Int)):=((YK Zq dq)).1 Zb
   refine ZL 3 [0] (ia ((s.into-1)) ((s.into)-(1)) ?_)
   obtain ⟨x1,Z3⟩:=Zs us ((s.into-1).toNat) om
   exact Zp (Zl none (s.into-1) 1 (ZZ Z3)) (Zo (ZU (.b (decide (x1>0))) (lb (by rw [U5,Z7 Za];first|(rw [Ze om,Q3 om Z3];rfl)|(rw [Ze om,KR om];rfl)|(rw [Z7 om])|(by_cases q:s.op=6;rw [Ze q,KR om];rfl;rw [Z7 q])))))
  have Yi:¬((s.op=6)/\(1<=s.into/\s.into<=(us.length:Int))):=Y6 (YK Zq dq) Zb
  exact Zo (ZU (.b false) (lb (by rw [U5,Z7 Za];first|(rw [Ze om,Q3 om Z3];rfl)|(rw [Ze om,KR om];rfl)|(rw [Z7 om])|(by_cases q:s.op=6;rw [Ze q,KR om];rfl;rw [Z7 q]))))
 refine ZL 4 [0] (ib (b:=(s.op==6)) 11 (fun Zz=>?_) (fun Zz=>?_))
 ·have YJ:s.op=6:=(Zq).1 Zz
  exact ZL 3 [0] (iw (Ya us) (Zx [] (TJ s.into 1 (us.length:Int)) (Z2 1 (Yp (wk [0] (Zt (decide (1<=s.into/\s.into<=(us.length:Int))) Zz fl)) hj1))))
 have YR:¬(s.op=6):=Y6 Zq Zz
 exact Z2 6 (Yp (wk [0] (Zt false Zz fl)) hj1)
theorem Ziz (n:Zm) (us:LI) (s:Z5) (hn:X4 n:=by exact ob) (hl_us:us.length<=4294967296:=by exact ob) (ha:s.args.length<=1000000000:=by exact ob):Zj 254 [Yr n,Z4 us,YF s] [] (Yn (.i (Us n us s.op s.num s.args))):=by
 have hrl:=hn.len
 have hdl:=hn.decls.len
 refine ZE 69 Tryz.func254 (ar (iA (YZ n) fun b1=>iA (Xx s) fun b2=>Z0 (Yk 4 [0,1] (iw (U9 n.routines) (ia (((n.routines.length:Int)-1)) (((n.routines.length:Int))-(1)) (Zx [] (TJ s.num 0 ((n.routines.length:Int)-1)) (YD (!(decide (0<=s.num/\s.num<=((n.routines.length:Int)-1)))) (p:=¬(0<=s.num/\s.num<=((n.routines.length:Int)-1))) (Yl dq) (fun Za=>?_) (fun Za=>?_))))))))
 ·exact ar (Zo (ZU (.i (-1)) (li (Zgm om).symm)))
 refine ak (Zv 4 [1,0] ?_)
 obtain ⟨x1,Z3⟩:=Zs n.routines s.num.toNat om
 have hrp:=hn.params_at Z3
 have hrt:=hn.lent_at Z3
 have hre:Us n us s.op s.num s.args=Ja n.decls us s.op s.args x1:=Zgk om Z3
 refine Zp (Zl none s.num 5 (WR Z3)) (Z2 1 (iA [nl,nl,.i 0,nl,.i 0] fun b3=>ZH 0 b3 (TG x1) (ie (Zv 2 [0] (iw (Ya x1.params) (Z0 (X7 (VX [1] (ac (s.op==9) Zq (fun Zg=>?_) (fun Zg=>?_))))))))))
 ·refine Yk 5 [1,0] (Zx [] (BT us s.args x1.params) (YD (!W9 us s.args x1.params) (p:=¬(W9 us s.args x1.params=true)) (Yl Iff.rfl) (fun ZD=>?_) (fun ZD=>?_)))
  ·exact ar (Zo (ZU (.i (-1)) (li (by clear Z3;first|rfl|omega|grind [Ja,Jm]))))
  exact ak (A1 [0] (ZB (ZU (.i x1.result) (li (by clear Z3;first|rfl|omega|grind [Ja,Jm])))))
 refine ak (aq (aD 20 (JZ [3,7,8] [(57,.b (((x1.params.length:Int)==0)||((decide ((x1.lent.length:Int)>0))||(!W9 us s.args (x1.params.take (x1.params.length-1))))))] (fun gz=>gz) ?_ ?_)))
 ·refine Zh 17 20 [0,1,2] (db (b:=((x1.params.length:Int)==0)) 40 (fun Zb=>?_) (fun Zb=>?_))
  ·have ZY:(x1.params.length:Int)=0:=(Zq).1 Zb
   exact Zh 0 17 [3,4,5,6,7,8,9,10,11,12,13,14,15,16,17,18,19] (de (ZG 3 (Zt true Zb fl)))
  have Yi:¬((x1.params.length:Int)=0):=Y6 Zq Zb
  refine ZI 15 17 [3,4] [0] (dw 5 (Ya x1.lent) (Zh 11 14 [6,7,8] (db (b:=(decide ((x1.lent.length:Int)>0))) 46 (fun Zz=>?_) (fun Zz=>?_))))
  ·have YJ:(x1.lent.length:Int)>0:=(dq).1 Zz
   exact Zh 0 11 [9,10,11,12,13,14,15,16,17,18,19] (de (ZG 3 (Zt true (And.intro Zb Zz) fl)))
  have YR:¬((x1.lent.length:Int)>0):=Y6 dq Zz
  exact ZI 5 11 [9,10,11,12,13,14] [1,0] (da 15 (((x1.params.length-1:Nat):Int)) (((x1.params.length:Int))-(1)) (dx 16 (KH (es:=Z8 x1.params) (hv:=none) (l:=0) (m:=((x1.params.length-1:Nat):Int)) (sz:=1) (es':=Z8 (x1.params.take (x1.params.length-1))) kr om (by simp<;>omega) (by simp<;>omega) (YL _) (by first|(simp only [VH,Vu,A0,AW];done)|(simp only [VH,Vu,A0,AW];rfl)|(simp [A0,AW];done))) (Z9 17 (Yz 17 [] [] [] (BT us s.args (x1.params.take (x1.params.length-1))) (Zh 0 2 [18,19] (de (ZG 3 (Zt (!W9 us s.args (x1.params.take (x1.params.length-1))) (And.intro Zb Zz) fl))))))))
 refine ac (((x1.params.length:Int)==0)||((decide ((x1.lent.length:Int)>0))||(!W9 us s.args (x1.params.take (x1.params.length-1))))) (p:=((x1.params.length:Int)=0)∨(((x1.lent.length:Int)>0)∨(¬(W9 us s.args (x1.params.take (x1.params.length-1))=true)))) (Yh Zq (Yh dq (Yl Iff.rfl))) (fun Yj=>?_) (fun Yj=>?_)
 ·exact ar (Zo (ZU (.i (-1)) (li (by clear Z3;first|rfl|omega|grind [Ja,Jm]))))
 refine ak (aD 12 (ZI 7 12 [0,1,2,3,4] [2,0] (da 5 (((x1.params.length-1:Nat):Int)) (((x1.params.length:Int))-(1)) ?_)))
 obtain ⟨x2,Zr⟩:=Zs x1.params (x1.params.length-1) om
 have hgl:=PG Zr
 exact dx 6 (Zl none ((x1.params.length-1:Nat):Int) 1 (ZZ Zr)) (ZI 2 5 [7,8,9] [0] (Z9 10 (Yz 10 [] [] [] (Z1l n.decls x2 x1.result) (Zh 0 1 [11] (de (ZB (ZU (.i (Ut n.decls x2 x1.result)) (li (by clear Z3 Zr;first|rfl|omega|grind [Ja,Jm])))))))))
theorem Zis (n:Zm) (us:LI) (s:Z5) (hn:X4 n:=by exact ob) (hl_us:us.length<=4294967296:=by exact ob) (ha:s.args.length<=1000000000:=by exact ob):Zj 256 [Yr n,Z4 us,YF s] [] (Yn (.i (Qj n.decls us s.op s.args))):=by
 have Xz:=hn.decls
 refine ZE 52 Tryz.func256 (ar (iA (YZ n) fun b1=>iA (Xx s) fun b2=>Z0 (Yk 2 [0] (iw (Ya s.args) (Z2 2 (ib (b:=((s.args.length:Int) != 1)) 11 (fun Zb=>?_) (fun Zb=>?_)))))))
 ·have ZY:(s.args.length:Int)≠1:=(Y3).1 Zb
  exact Z0 (W6 (ar (Zo (ZU (.i (-1)) (li (by first|assumption|omega|rfl|(rw [D1 om])|(rw [D3 (Jl om Z3) om])|(rw [D0 (Jl om Z3) om Zr];clear Z3 Zr;grind)))))))
 have Yi:¬((s.args.length:Int)≠1):=Y6 Y3 Zb
 refine ZL 2 [0] ?_
 obtain ⟨x1,Z3⟩:=Zs s.args 0 om
 refine Zp (Zl none 0 1 (ZZ Z3)) (Z2 2 (iw (Ya us) (ia (((us.length:Int)-1)) (((us.length:Int))-(1)) (Zx [] (TJ x1 0 ((us.length:Int)-1)) (Z2 3 (ib (b:=(!(decide (0<=x1/\x1<=((us.length:Int)-1))))) 22 (fun Zz=>?_) (fun Zz=>?_)))))))
 ·have YJ:¬(0<=x1/\x1<=((us.length:Int)-1)):=((Yl dq)).1 Zz
  exact Z0 (W6 (ar (Zo (ZU (.i (-1)) (li (by first|assumption|omega|rfl|(rw [D1 om])|(rw [D3 (Jl om Z3) om])|(rw [D0 (Jl om Z3) om Zr];clear Z3 Zr;grind)))))))
 have YR:¬(¬(0<=x1/\x1<=((us.length:Int)-1))):=Y6 (Yl dq) Zz
 refine ZL 3 [0] (Zp (Zl none 0 1 (ZZ Z3)) (Z2 1 ?_))
 obtain ⟨x2,Zr⟩:=Zs us x1.toNat om
 refine Zp (Zl none x1 1 (ZZ Zr)) (YD (x2==0) Zq (fun Za=>?_) (fun Za=>?_))
 ·exact ar (Zo (ZU (.i (-1)) (li (by first|assumption|omega|rfl|(rw [D1 om])|(rw [D3 (Jl om Z3) om])|(rw [D0 (Jl om Z3) om Zr];clear Z3 Zr;grind)))))
 refine ak (aq (aD 20 (JZ [] [(51,.b ((s.op != 14)&&((s.op != 15)&&XT n.decls x2)))] (fun gz=>gz) ?_ ?_)))
 ·refine ZI 16 20 [0,1,2,3] [0] (db (b:=(s.op != 14)) 35 (fun Yo=>?_) (fun Yo=>?_))
  ·have Xk:s.op≠14:=(Y3).1 Yo
   refine ZI 11 16 [4,5,6,7,8] [0] (db (b:=(s.op != 15)) 40 (fun Xg=>?_) (fun Xg=>?_))
   ·have XX:s.op≠15:=(Y3).1 Xg
    exact ZI 6 11 [9,10,11,12,13] [1,0] (dx 14 (Zl none 0 1 (ZZ Z3)) (Zh 4 5 [15] (dx 16 (Zl none x1 1 (ZZ Zr)) (Zh 2 3 [17] (Z9 18 (Yz 18 [] [] [] (Fg n.decls x2 (hd:=(by first|assumption|omega|rfl|(rw [D1 om])|(rw [D3 (Jl om Z3) om])|(rw [D0 (Jl om Z3) om Zr];clear Z3 Zr;grind)))) (Zh 0 1 [19] (de (wk [0,0] (Zt (XT n.decls x2) (And.intro Yo Xg) fl))))))))))
   have WA:¬(s.op≠15):=Y6 Y3 Xg
   exact Zh 0 11 [9,10,11,12,13,14,15,16,17,18,19] (de (wk [0,0] (Zt false (And.intro Yo Xg) fl)))
  have WY:¬(s.op≠14):=Y6 Y3 Yo
  exact Zh 0 16 [4,5,6,7,8,9,10,11,12,13,14,15,16,17,18,19] (de (wk [0,0] (Zt false Yo fl)))
 refine ac ((s.op != 14)&&((s.op != 15)&&XT n.decls x2)) (p:=(s.op≠14)/\((s.op≠15)/\(XT n.decls x2=true))) (YK Y3 (YK Y3 Iff.rfl)) (fun Zg=>?_) (fun Zg=>?_)
 ·exact ar (Zo (ZU (.i (-1)) (li (by first|assumption|omega|rfl|(rw [D1 om])|(rw [D3 (Jl om Z3) om])|(rw [D0 (Jl om Z3) om Zr];clear Z3 Zr;grind)))))
 exact ak (ar (Zo (ZU (.i 0) (li (by first|assumption|omega|rfl|(rw [D1 om])|(rw [D3 (Jl om Z3) om])|(rw [D0 (Jl om Z3) om Zr];clear Z3 Zr;grind))))))
theorem Z1p (n:Zm) (us:LI) (s:Z5) (hn:X4 n:=by exact ob) (hop:s.op=7∨s.op=8:=by exact ob) (hb:us.length+4*s.sz<=1000000000:=by exact ob) (ih:∀(b:Z6) (us:LI),(b.sz<s.sz)->(us.length+4*b.sz<=1000000000)->Zj 169 [Yr n,Z4 us,Y7 b] [] (Yn (.i (YT n us b)))):Zj 253 [Yr n,Z4 us,YF s] [] (Yn (.i (TX n us s.op s.num s.kids))):=by
 have Xz:=hn.decls
 have hkz:=Te s
 refine ZE 71 Tryz.func253 (ar (iA (YZ n) fun b1=>iA (Xx s) fun b2=>Z0 (Zv 4 [1,0] (ic [] (Bf n.decls s.num) ?_))))
 rintro _ _ ⟨v1,rfl,rfl⟩
 refine Z0 (Y1 1 (io (.i (((ZW n.decls s.num).length:Nat):Int)) (.i (((Z8 (ZW n.decls s.num)).length:Nat):Int)) (li (by rw [Ya])) (Z0 (X7 (VX [1] (Wj (fun fz gz F h=>F=sF [1,3,5] fz [(7,Z4 (ZW n.decls s.num)),(8,.i (((X9 n.decls s.op s.num).length:Nat):Int))]/\h=[Zd gz 1,Zd gz 2]) ?_ ?_))))))
 ·refine ac (s.op==7) Zq (fun Za=>?_) (fun Za=>?_)
  ·exact UY (ZV ⟨rfl,rfl⟩ (wk [1,1] (fc (x:=ZQ (ZW n.decls s.num) v1) (Zc.forget _ _) (fc (x:=.i 2) (li (by rw [X9,Ze Za];rfl)) fl))))
  exact ak (ZV ⟨rfl,rfl⟩ (wk [1,1] (fc (x:=ZQ (ZW n.decls s.num) v1) (Zc.forget _ _) (fc (x:=.i (((ZW n.decls s.num).length:Nat):Int)) (li (by rw [X9,Z7 Za,QC])) fl))))
 rintro F h ⟨rfl,rfl⟩
 refine X7 (Xv [1,3,5,7,8] [(31,.b (((((X9 n.decls s.op s.num).length:Nat):Int)==0)||((s.kids.length:Int) != (((X9 n.decls s.op s.num).length:Nat):Int))))] (fun gz=>gz) ?_ ?_)
 ·refine Z2 3 (ib (b:=((((X9 n.decls s.op s.num).length:Nat):Int)==0)) 25 (fun Zb=>?_) (fun Zb=>?_))
  ·exact Z0 (wk [0,0] (Zt true Zb fl))
  exact ZL 2 [0] (iw (U8 s.kids) (Z0 (wk [0,0] (Zt ((s.kids.length:Int) != (((X9 n.decls s.op s.num).length:Nat):Int)) Zb fl))))
 refine ac (((((X9 n.decls s.op s.num).length:Nat):Int)==0)||((s.kids.length:Int) != (((X9 n.decls s.op s.num).length:Nat):Int))) (p:=((((X9 n.decls s.op s.num).length:Nat):Int)=0)∨((s.kids.length:Int)≠(((X9 n.decls s.op s.num).length:Nat):Int))) (Yh Zq Y3) (fun Zg=>?_) (fun Zg=>?_)
 ·exact ar (Zo (ZU (.i (-1)) (li (by rw [TX,Ze om]))))
 refine ak (Zy (Ym (ab 0 (Y4 (fun fz gz m F h=>∃(k:Nat) (t:Int),(k<=s.kids.length)/\(XY n us (s.kids.drop k) ((X9 n.decls s.op s.num).drop k) (decide (k=0)) t=XY n us s.kids (X9 n.decls s.op s.num) true 0)/\F=sF [1,3,5,7,8] fz [(9,.i t),(10,.i k)]/\h=gz/\m=s.kids.length-k) _ _ _ ⟨0,0,ob,(by rfl),rfl,rfl,rfl⟩ (wk [0,0] (fr (Yb fl))) ?_))))
 rintro m F h ⟨k,t,Ye,Zk,rfl,rfl,rfl⟩
 refine X7 (Y9 ((k:Int)<(((X9 n.decls s.op s.num).length:Nat):Int)) (fun ZD=>?_) (fun ZD=>?_))
 ·refine ak (aq (ab 1 (Zy (X7 (VX [0] (Wj (fun fz gz F h=>∃(m:LI),((X9 n.decls s.op s.num)[k]? = some m)/\F=sF [1,3,5,7,8,9,10] fz [(11,Z4 (us++m))]/\h=gz) ?_ ?_))))))
  ·refine ac (s.op==8) Zq (fun Yj=>?_) (fun Yj=>?_)
   ·refine aE 10 (ZI 5 10 [0,1,2,3,4] [1] ?_)
    obtain ⟨x1,Z3⟩:=Zs (ZW n.decls s.num) k (by rw [X9,Z7 om,QC] at ZD;omega)
    refine dx 5 (Zl none (k:Int) 1 (ZZ Z3)) (Zh 3 4 [6] (Z9 7 (Yz 7 [] [] [] (JD n.decls x1) (Z9 8 (dc 8 [] [] [] (KG us (ZX n.decls x1) (hl:=(by have:=Uu Xz x1;omega))) ?_)))))
    rintro _ _ ⟨v2,rfl,rfl⟩
    exact Zh 0 1 [9] (de (ZV ⟨(ZX n.decls x1),(by rw [show s.op=8 from Yj];exact Z4g Z3),rfl,rfl⟩ (wk [1,1] fl)))
   exact ak (ZV ⟨[],(by rw [X9,Ze om];have:k=0∨k=1:=(by rw [X9,Ze om] at ZD;simp at ZD;omega);rcases this with rfl|rfl<;>rfl),rfl,rfl⟩ (wk [0,0] (fc (x:=Z4 us) (Zc.sl _ (Yu Z8 (by simp))) fl)))
  rintro F h ⟨m,ED,rfl,rfl⟩
  refine aD 9 (ZI 4 9 [0,1,2,3,4] [1,0] ?_)
  obtain ⟨x2,Zr⟩:=Zs s.kids k om
  have hks:=TF Zr
  have hm3:=E6 Xz ED
  refine dx 5 (Zl none (k:Int) 2 (UV Zr)) (Zh 2 3 [6] (Z9 7 (Yz 7 [] [] [] (ih x2 (us++m) ob (by simp only [Ys];omega)) (Zh 0 1 [8] (de (X7 (Xv [1,3,5,7,8,10,12] [(68,.b ((decide ((YT n (us++m) x2)<0))||((decide ((k:Int)>0))&&((YT n (us++m) x2) != t))))] (fun gz=>gz) ?_ ?_)))))))
  ·refine Z2 3 (ib (b:=(decide ((YT n (us++m) x2)<0))) 60 (fun Zz=>?_) (fun Zz=>?_))
   ·exact Z0 (wk [0,0] (Zt true Zz fl))
   refine Z2 3 (ib (b:=(decide ((k:Int)>0))) 63 (fun Yo=>?_) (fun Yo=>?_))
   ·exact Z0 (wk [0,0] (Zt ((YT n (us++m) x2) != t) (And.intro Zz Yo) fl))
   exact Z0 (wk [0,0] (Zt false (And.intro Zz Yo) fl))
  refine ac ((decide ((YT n (us++m) x2)<0))||((decide ((k:Int)>0))&&((YT n (us++m) x2) != t))) (p:=((YT n (us++m) x2)<0)∨(((k:Int)>0)/\((YT n (us++m) x2)≠t))) (Yh dq (YK dq Y3)) (fun Xh=>?_) (fun Xh=>?_)
  ·exact ar (Zo (ZU (.i (-1)) (li (by rw [TX,Z7 om,<-Zk];exact (RA Zr ED Xh).symm))))
  exact ak (UY (az (Z2 1 (ZJ k (Z0 (ZK ⟨k+1,YT n (us++m) x2,ob,(by rw [<-Zk];exact (RC Zr ED Xh).symm),rfl,rfl,rfl⟩ (wk [0,0] (fr (ZM k fl)))))))))
 exact ax 0 (ar (Zo (ZU (.i t) (li (by rw [TX,Z7 om,<-Zk];exact (RB om).symm)))))
theorem Z1s (n:Zm) (us:LI) (s:Z5) (hn:X4 n:=by exact ob) (hb:us.length+4*s.sz<=1000000000:=by exact ob) (ih:∀(b:Z6) (us:LI),(b.sz<s.sz)->(us.length+4*b.sz<=1000000000)->Zj 169 [Yr n,Z4 us,Y7 b] [] (Yn (.i (YT n us b)))):Zj 203 [Yr n,Z4 us,YF s] [] (Yn (.i (Y2 n us s))):=by
 have Xz:=hn.decls
 have hkz:=Te s
 have haz:=K6 s
 have hdl:=Xz.len
 have hst:=Aa n us s
 refine ZE 183 Tryz.func203 (ar (iA (YZ n) fun b1=>iA (Xx s) fun b2=>Z0 (X7 (XD 9 [1,3,5] [(16,.b ((s.num != 0)&&(!VE s.op)))] (fun gz=>gz) ?_ (fun hj1=>?_)))))
 ·refine XD 15 [1,3,5] [(22,.b (((s.num != 0)&&(!VE s.op))||(!U5 us s.op s.into)))] (fun gz=>gz) ?_ (fun hj2=>?_)
  ·refine Xv [1,3,5] [(38,.b ((((s.num != 0)&&(!VE s.op))||(!U5 us s.op s.into))||((decide ((s.kids.length:Int)>0))&&((s.op != 7)&&(s.op != 8)))))] (fun gz=>gz) ?_ ?_
   ·refine Z2 1 (ib (b:=(((s.num != 0)&&(!VE s.op))||(!U5 us s.op s.into))) 23 (fun Zb=>?_) (fun Zb=>?_))
    ·have ZY:((s.num≠0)/\(¬(VE s.op=true)))∨(¬(U5 us s.op s.into=true)):=((Yh (YK Y3 (Yl Iff.rfl)) (Yl Iff.rfl))).1 Zb
     exact Z0 (wk [0,0] (Zt true Zb fl))
    have Yi:¬(((s.num≠0)/\(¬(VE s.op=true)))∨(¬(U5 us s.op s.into=true))):=Y6 (Yh (YK Y3 (Yl Iff.rfl)) (Yl Iff.rfl)) Zb
    refine ZL 2 [0] (iw (U8 s.kids) (Z2 2 (ib (b:=(decide ((s.kids.length:Int)>0))) 28 (fun Zz=>?_) (fun Zz=>?_))))
    ·have YJ:(s.kids.length:Int)>0:=(dq).1 Zz
     refine ZL 5 [0] (ib (b:=(s.op != 7)) 33 (fun Yo=>?_) (fun Yo=>?_))
     ·have YR:s.op≠7:=(Y3).1 Yo
      exact VX [0] (wk [0,0] (Zt (s.op != 8) (And.intro Zb (And.intro Zz Yo)) fl))
     have Xk:¬(s.op≠7):=Y6 Y3 Yo
     exact Z0 (wk [0,0] (Zt false (And.intro Zb (And.intro Zz Yo)) fl))
    have XX:¬((s.kids.length:Int)>0):=Y6 dq Zz
    exact Z0 (wk [0,0] (Zt false (And.intro Zb Zz) fl))
   refine ac ((((s.num != 0)&&(!VE s.op))||(!U5 us s.op s.into))||((decide ((s.kids.length:Int)>0))&&((s.op != 7)&&(s.op != 8)))) (p:=(((s.num≠0)/\(¬(VE s.op=true)))∨(¬(U5 us s.op s.into=true)))∨(((s.kids.length:Int)>0)/\((s.op≠7)/\(s.op≠8)))) (Yh (Yh (YK Y3 (Yl Iff.rfl)) (Yl Iff.rfl)) (YK dq (YK Y3 Y3))) (fun Za=>?_) (fun Za=>?_)
   ·exact ar (Zo (ZU (.i (-1)) (li (by first|rfl|( grind)|(have q:=T7 (ds:=n.decls) (us:=us) (args:=s.args) om; grind)|(have q:=T8 (ds:=n.decls) (us:=us) (args:=s.args) om ‹s.args[0]? = some _› om; grind)|(have q:=UR (ds:=n.decls) (us:=us) (args:=s.args) om ‹s.args[0]? = some _› om ‹us[_]? = some _›; grind)))))
   refine ak (X7 (VX [0] (ab 0 (ar (YD (s.op==0) Zq (fun Zg=>?_) (fun Zg=>?_))))))
   ·refine Zv 2 [0] (iw (Ya s.args) (Xv [] [(51,.b (((s.args.length:Int)==0)&&(decide ((-999)<=s.num/\s.num<=999))))] (fun gz=>gz) ?_ ?_))
    ·refine Z2 2 (ib (b:=((s.args.length:Int)==0)) 47 (fun Xg=>?_) (fun Xg=>?_))
     ·have WA:(s.args.length:Int)=0:=(Zq).1 Xg
      exact ZL 2 [0] (Zx [] (TJ s.num (-999) 999) (Z0 (wk [0,0] (Zt (decide ((-999)<=s.num/\s.num<=999)) Xg fl))))
     have WY:¬((s.args.length:Int)=0):=Y6 Zq Xg
     exact Z0 (wk [0,0] (Zt false Xg fl))
    refine ac (((s.args.length:Int)==0)&&(decide ((-999)<=s.num/\s.num<=999))) (p:=((s.args.length:Int)=0)/\((-999)<=s.num/\s.num<=999)) (YK Zq dq) (fun ZD=>?_) (fun ZD=>?_)
    ·exact ar (Zo (ZU (.i 0) (li (by first|rfl|( grind)|(have q:=T7 (ds:=n.decls) (us:=us) (args:=s.args) om; grind)|(have q:=T8 (ds:=n.decls) (us:=us) (args:=s.args) om ‹s.args[0]? = some _› om; grind)|(have q:=UR (ds:=n.decls) (us:=us) (args:=s.args) om ‹s.args[0]? = some _› om ‹us[_]? = some _›; grind)))))
    exact ak (ar (Zo (ZU (.i (-1)) (li (by first|rfl|( grind)|(have q:=T7 (ds:=n.decls) (us:=us) (args:=s.args) om; grind)|(have q:=T8 (ds:=n.decls) (us:=us) (args:=s.args) om ‹s.args[0]? = some _› om; grind)|(have q:=UR (ds:=n.decls) (us:=us) (args:=s.args) om ‹s.args[0]? = some _› om ‹us[_]? = some _›; grind))))))
   refine Ym (Wj (fun fz gz F h=>F=sF [1,3,5,40] fz [(52,.b ((s.op==1)||((s.op==2)||((s.op==3)||(s.op==4)))))]/\h=gz) ?_ ?_)
   ·refine ac (s.op==1) Zq (fun Yj=>?_) (fun Yj=>?_)
    ·exact ak (ZV ⟨rfl,rfl⟩ (wk [0,0] (fc (x:=.b (s.op==1)) (lb (by first|rfl|(rw [Ze Yj])|(rw [Z7 Yj])|(simp [Yj];done)|(rw [XH];simp [Yj];done)|omega)) fl)))
    refine ar (YD (s.op==2) Zq (fun Xh=>?_) (fun Xh=>?_))
    ·exact ak (ZV ⟨rfl,rfl⟩ (wk [0,0] (fc (x:=.b (s.op==2)) (lb (by first|rfl|(rw [Ze Yj])|(rw [Z7 Yj])|(simp [Yj,Xh];done)|(rw [XH];simp [Yj,Xh];done)|omega)) fl)))
    refine ar (YD (s.op==3) Zq (fun Xl=>?_) (fun Xl=>?_))
    ·exact ak (ZV ⟨rfl,rfl⟩ (wk [0,0] (fc (x:=.b (s.op==3)) (lb (by first|rfl|(rw [Ze Yj])|(rw [Z7 Yj])|(simp [Yj,Xh,Xl];done)|(rw [XH];simp [Yj,Xh,Xl];done)|omega)) fl)))
    exact UY (ZV ⟨rfl,rfl⟩ (wk [0,0] (fc (x:=.b (s.op==4)) (lb (by first|rfl|(rw [Ze Yj])|(rw [Z7 Yj])|(simp [Yj,Xh,Xl];done)|(rw [XH];simp [Yj,Xh,Xl];done)|omega)) fl)))
   rintro F h ⟨rfl,rfl⟩
   refine ac ((s.op==1)||((s.op==2)||((s.op==3)||(s.op==4)))) (p:=(s.op=1)∨((s.op=2)∨((s.op=3)∨(s.op=4)))) (Yh Zq (Yh Zq (Yh Zq Zq))) (fun U0=>?_) (fun U0=>?_)
   ·refine Zv 3 [0] (iL (Z8 [0,0]) 2 1 fun v1=>ZT 0 [(60,Z4 [0,0])] (Zx [] (BT us s.args [0,0] (hl_tys:=(by first|(simp;done)|(have:=Uu Xz s.num;omega)))) (ie (ac (W9 us s.args [0,0]) Iff.rfl (fun VT=>?_) (fun VT=>?_)))))
    ·exact ar (Zo (ZU (.i 0) (li (by first|rfl|( grind)|(have q:=T7 (ds:=n.decls) (us:=us) (args:=s.args) om; grind)|(have q:=T8 (ds:=n.decls) (us:=us) (args:=s.args) om ‹s.args[0]? = some _› om; grind)|(have q:=UR (ds:=n.decls) (us:=us) (args:=s.args) om ‹s.args[0]? = some _› om ‹us[_]? = some _›; grind)))))
    exact ak (ar (Zo (ZU (.i (-1)) (li (by first|rfl|( grind)|(have q:=T7 (ds:=n.decls) (us:=us) (args:=s.args) om; grind)|(have q:=T8 (ds:=n.decls) (us:=us) (args:=s.args) om ‹s.args[0]? = some _› om; grind)|(have q:=UR (ds:=n.decls) (us:=us) (args:=s.args) om ‹s.args[0]? = some _› om ‹us[_]? = some _›; grind))))))
   refine ar (YD (s.op==5) Zq (fun VU=>?_) (fun VU=>?_))
   ·refine Zv 3 [0] (iL (Z8 [0]) 1 1 fun v2=>ZT 0 [(67,Z4 [0])] (Zx [] (BT us s.args [0] (hl_tys:=(by first|(simp;done)|(have:=Uu Xz s.num;omega)))) (ie (ac (W9 us s.args [0]) Iff.rfl (fun TU=>?_) (fun TU=>?_)))))
    ·exact ar (Zo (ZU (.i 0) (li (by first|rfl|( grind)|(have q:=T7 (ds:=n.decls) (us:=us) (args:=s.args) om; grind)|(have q:=T8 (ds:=n.decls) (us:=us) (args:=s.args) om ‹s.args[0]? = some _› om; grind)|(have q:=UR (ds:=n.decls) (us:=us) (args:=s.args) om ‹s.args[0]? = some _› om ‹us[_]? = some _›; grind)))))
    exact ak (ar (Zo (ZU (.i (-1)) (li (by first|rfl|( grind)|(have q:=T7 (ds:=n.decls) (us:=us) (args:=s.args) om; grind)|(have q:=T8 (ds:=n.decls) (us:=us) (args:=s.args) om ‹s.args[0]? = some _› om; grind)|(have q:=UR (ds:=n.decls) (us:=us) (args:=s.args) om ‹s.args[0]? = some _› om ‹us[_]? = some _›; grind))))))
   refine ar (YD (s.op==6) Zq (fun A4=>?_) (fun A4=>?_))
   ·refine aD 17 (ZI 13 17 [0,1,2,3] [1,0] (Z9 4 (Yz 4 [] [] [] (MN n.decls s.num) (JZ [3,5] [(87,.b ((decide ((Wi n.decls s.num)>0))&&W9 us s.args (ZX n.decls s.num)))] (fun gz=>gz) ?_ ?_))))
    ·refine Zh 10 12 [5,6] (db (b:=(decide ((Wi n.decls s.num)>0))) 77 (fun Wx=>?_) (fun Wx=>?_))
     ·have Vr:(Wi n.decls s.num)>0:=(dq).1 Wx
      exact ZI 3 10 [7,8,9,10,11,12,13] [0,1,0] (Z9 14 (Yz 14 [] [0] [b2] (JD n.decls s.num (hd:=Xz)) (Z9 15 (Yz 15 [] [] [] (BT us s.args (ZX n.decls s.num) (hl_tys:=(by first|(simp;done)|(have:=Uu Xz s.num;omega)))) (Zh 0 1 [16] (de (wk [0,0] (Zt (W9 us s.args (ZX n.decls s.num)) Wx fl))))))))
     have UH:¬((Wi n.decls s.num)>0):=Y6 dq Wx
     exact Zh 0 10 [7,8,9,10,11,12,13,14,15,16] (de (wk [0,0] (Zt false Wx fl)))
    refine ac ((decide ((Wi n.decls s.num)>0))&&W9 us s.args (ZX n.decls s.num)) (p:=((Wi n.decls s.num)>0)/\(W9 us s.args (ZX n.decls s.num)=true)) (YK dq Iff.rfl) (fun Qo=>?_) (fun Qo=>?_)
    ·exact Zv 4 [1,0] (Zx [] (MN n.decls s.num) (Zo (ZU (.i (Wi n.decls s.num)) (li (by first|rfl|( grind)|(have q:=T7 (ds:=n.decls) (us:=us) (args:=s.args) om; grind)|(have q:=T8 (ds:=n.decls) (us:=us) (args:=s.args) om ‹s.args[0]? = some _› om; grind)|(have q:=UR (ds:=n.decls) (us:=us) (args:=s.args) om ‹s.args[0]? = some _› om ‹us[_]? = some _›; grind))))))
    exact ak (ar (Zo (ZU (.i (-1)) (li (by first|rfl|( grind)|(have q:=T7 (ds:=n.decls) (us:=us) (args:=s.args) om; grind)|(have q:=T8 (ds:=n.decls) (us:=us) (args:=s.args) om ‹s.args[0]? = some _› om; grind)|(have q:=UR (ds:=n.decls) (us:=us) (args:=s.args) om ‹s.args[0]? = some _› om ‹us[_]? = some _›; grind))))))
   refine ar (YD (s.op==7) Zq (fun Jy=>?_) (fun Jy=>?_))
   ·refine Zv 3 [0] (iL (Z8 [0]) 1 1 fun v3=>ZT 0 [(98,Z4 [0])] (Zx [] (BT us s.args [0] (hl_tys:=(by first|(simp;done)|(have:=Uu Xz s.num;omega)))) (ie (ac (W9 us s.args [0]) Iff.rfl (fun Cr=>?_) (fun Cr=>?_)))))
    ·exact Zv 3 [2,1] (Zx [] (Z1p n us s (ih:=ob)) (Zo (ZU (.i (TX n us s.op s.num s.kids)) (li (by first|rfl|( grind)|(have q:=T7 (ds:=n.decls) (us:=us) (args:=s.args) om; grind)|(have q:=T8 (ds:=n.decls) (us:=us) (args:=s.args) om ‹s.args[0]? = some _› om; grind)|(have q:=UR (ds:=n.decls) (us:=us) (args:=s.args) om ‹s.args[0]? = some _› om ‹us[_]? = some _›; grind))))))
    exact ak (ar (Zo (ZU (.i (-1)) (li (by first|rfl|( grind)|(have q:=T7 (ds:=n.decls) (us:=us) (args:=s.args) om; grind)|(have q:=T8 (ds:=n.decls) (us:=us) (args:=s.args) om ‹s.args[0]? = some _› om; grind)|(have q:=UR (ds:=n.decls) (us:=us) (args:=s.args) om ‹s.args[0]? = some _› om ‹us[_]? = some _›; grind))))))
   refine ar (YD (s.op==8) Zq (fun Ll=>?_) (fun Ll=>?_))
   ·refine Zv 5 [0,0] (iL (Z8 [s.num]) 1 1 fun v4=>ZT 0 [(111,Z4 [s.num])] (Zx [] (BT us s.args [s.num] (hl_tys:=(by first|(simp;done)|(have:=Uu Xz s.num;omega)))) (ie (ac (W9 us s.args [s.num]) Iff.rfl (fun Lm=>?_) (fun Lm=>?_)))))
    ·exact Zv 3 [2,1] (Zx [] (Z1p n us s (ih:=ob)) (Zo (ZU (.i (TX n us s.op s.num s.kids)) (li (by first|rfl|( grind)|(have q:=T7 (ds:=n.decls) (us:=us) (args:=s.args) om; grind)|(have q:=T8 (ds:=n.decls) (us:=us) (args:=s.args) om ‹s.args[0]? = some _› om; grind)|(have q:=UR (ds:=n.decls) (us:=us) (args:=s.args) om ‹s.args[0]? = some _› om ‹us[_]? = some _›; grind))))))
    exact ak (ar (Zo (ZU (.i (-1)) (li (by first|rfl|( grind)|(have q:=T7 (ds:=n.decls) (us:=us) (args:=s.args) om; grind)|(have q:=T8 (ds:=n.decls) (us:=us) (args:=s.args) om ‹s.args[0]? = some _› om; grind)|(have q:=UR (ds:=n.decls) (us:=us) (args:=s.args) om ‹s.args[0]? = some _› om ‹us[_]? = some _›; grind))))))
   refine Ym (Wj (fun fz gz F h=>F=sF [1,3,5,40] fz [(117,.b ((s.op==9)||(s.op==10)))]/\h=gz) ?_ ?_)
   ·refine ac (s.op==9) Zq (fun A5=>?_) (fun A5=>?_)
    ·exact ak (ZV ⟨rfl,rfl⟩ (wk [0,0] (fc (x:=.b (s.op==9)) (lb (by first|rfl|(rw [Ze A5])|(rw [Z7 A5])|(simp [A5];done)|(rw [XH];simp [A5];done)|omega)) fl)))
    exact UY (ZV ⟨rfl,rfl⟩ (wk [0,0] (fc (x:=.b (s.op==10)) (lb (by first|rfl|(rw [Ze A5])|(rw [Z7 A5])|(simp [A5];done)|(rw [XH];simp [A5];done)|omega)) fl)))
   rintro F h ⟨rfl,rfl⟩
   refine ac ((s.op==9)||(s.op==10)) (p:=(s.op=9)∨(s.op=10)) (Yh Zq Zq) (fun Zb1=>?_) (fun Zb1=>?_)
   ·exact Zv 3 [1,0] (Zx [] (Ziz n us s) (Zo (ZU (.i (Us n us s.op s.num s.args)) (li (by first|rfl|( grind)|(have q:=T7 (ds:=n.decls) (us:=us) (args:=s.args) om; grind)|(have q:=T8 (ds:=n.decls) (us:=us) (args:=s.args) om ‹s.args[0]? = some _› om; grind)|(have q:=UR (ds:=n.decls) (us:=us) (args:=s.args) om ‹s.args[0]? = some _› om ‹us[_]? = some _›; grind))))))
   refine ar (YD (s.op==11) Zq (fun Zb2=>?_) (fun Zb2=>?_))
   ·refine aD 26 (ZI 24 26 [0,1] [0] (dw 2 (Ya s.args) (Zh 21 23 [3,4] (db (b:=((s.args.length:Int)==2)) 130 (fun WM=>?_) (fun WM=>?_)))))
    ·have T0:(s.args.length:Int)=2:=(Zq).1 WM
     refine ZI 19 21 [5,6] [0] ?_
     obtain ⟨x1,Z3⟩:=Zs s.args 0 om
     refine dx 7 (Zl none 0 1 (ZZ Z3)) (Zh 16 18 [8,9] (dw 10 (Ya us) (da 11 (((us.length:Int)-1)) (((us.length:Int))-(1)) (Z9 12 (Yz 12 [] [] [] (TJ x1 0 ((us.length:Int)-1)) (Zh 11 13 [13,14] (db (b:=(decide (0<=x1/\x1<=((us.length:Int)-1)))) 140 (fun WT=>?_) (fun WT=>?_))))))))
     ·have T1:0<=x1/\x1<=((us.length:Int)-1):=(dq).1 WT
      refine ZI 6 11 [15,16,17,18,19] [1,0] (dx 20 (Zl none 0 1 (ZZ Z3)) (Zh 4 5 [21] ?_))
      obtain ⟨x2,Zr⟩:=Zs us x1.toNat om
      refine dx 22 (Zl none x1 1 (ZZ Zr)) (Zh 2 3 [23] (Z9 24 (Yz 24 [] [] [] (Fg n.decls x2) (Zh 0 1 [25] (de (ac (XT n.decls x2) Iff.rfl (fun Zb3=>?_) (fun Zb3=>?_)))))))
      ·refine aD 14 (ZI 9 14 [0,1,2,3,4] [1,0] (dx 5 (Zl none 0 1 (ZZ Z3)) (Zh 7 8 [6] (dx 7 (Zl none x1 1 (ZZ Zr)) (Zh 5 6 [8] (da 9 ((x2-1)) ((x2)-(1)) (hb:=(by have:=Ly ‹XT n.decls _=true›;omega)) ?_))))))
       obtain ⟨x3,YG⟩:=Zs n.decls ((x2-1).toNat) (by have:=Ly ‹XT n.decls _=true›;omega)
       have had:=Z47 (us:=us) (args:=s.args) om ‹s.args[0]? = some _› om ‹us[_]? = some _› ‹XT n.decls _=true› YG
       refine dx 10 (Bh (es:=YB n.decls) (hv:=none) (j:=(x2-1)) (sz:=3) (y:=AM x3) kr (by have:=Ly ‹XT n.decls _=true›;omega) (WQ YG) rfl) (Zh 2 3 [11] (Z9 12 (dA 12 [0,1] [b2,b1] [.i 0,.i 0,nl] fun b3=>Z9 13 (YO 13 0 [] [] b3 (TZ x3) (de (aD 8 (ZI 5 8 [0,1,2] [1] (dx 3 (KH (es:=Z8 s.args) (hv:=none) (l:=1) (m:=(((Z8 s.args).length:Nat):Int)) (sz:=1) (es':=Z8 (s.args.drop 1)) kr om (by simp<;>omega) (by simp<;>omega) (YL _) (by first|(simp only [VH,Vu,A0,AW];done)|(simp only [VH,Vu,A0,AW];rfl)|(simp [A0,AW];done))) (ZI 2 4 [4,5] [0] (Z9 6 (dL 6 [1] [b2] (Z8 [x3.frm]) 1 1 fun v5=>YA 1 1 [] [(170,Z4 [x3.frm])] (Z9 7 (Yz 7 [] [] [] (BT us (s.args.drop 1) [x3.frm] (hl_tys:=(by first|(simp;done)|(have:=Uu Xz s.num;omega)))) (de (ac (W9 us (s.args.drop 1) [x3.frm]) Iff.rfl (fun PJ=>?_) (fun PJ=>?_))))))))))))))))
       ·exact A1 [1] (ZB (ZU (.i x3.to_) (li (by first|rfl|(clear Z3 Zr YG;grind)|(have q:=T7 (ds:=n.decls) (us:=us) (args:=s.args) om;clear Z3 Zr YG;grind)|(have q:=T8 (ds:=n.decls) (us:=us) (args:=s.args) om ‹s.args[0]? = some _› om;clear Z3 Zr YG;grind)|(have q:=UR (ds:=n.decls) (us:=us) (args:=s.args) om ‹s.args[0]? = some _› om ‹us[_]? = some _›;clear Z3 Zr YG;grind)))))
       exact ak (ar (Zo (ZU (.i (-1)) (li (by first|rfl|(clear Z3 Zr YG;grind)|(have q:=T7 (ds:=n.decls) (us:=us) (args:=s.args) om;clear Z3 Zr YG;grind)|(have q:=T8 (ds:=n.decls) (us:=us) (args:=s.args) om ‹s.args[0]? = some _› om;clear Z3 Zr YG;grind)|(have q:=UR (ds:=n.decls) (us:=us) (args:=s.args) om ‹s.args[0]? = some _› om ‹us[_]? = some _›;clear Z3 Zr YG;grind))))))
      exact ak (ar (Zo (ZU (.i (-1)) (li (by first|rfl|(clear Z3 Zr;grind)|(have q:=T7 (ds:=n.decls) (us:=us) (args:=s.args) om;clear Z3 Zr;grind)|(have q:=T8 (ds:=n.decls) (us:=us) (args:=s.args) om ‹s.args[0]? = some _› om;clear Z3 Zr;grind)|(have q:=UR (ds:=n.decls) (us:=us) (args:=s.args) om ‹s.args[0]? = some _› om ‹us[_]? = some _›;clear Z3 Zr;grind))))))
     have QQ:¬(0<=x1/\x1<=((us.length:Int)-1)):=Y6 dq WT
     exact Zh 0 11 [15,16,17,18,19,20,21,22,23,24,25] (de (WE (ak (ar (Zo (ZU (.i (-1)) (li (by first|rfl|(clear Z3;grind)|(have q:=T7 (ds:=n.decls) (us:=us) (args:=s.args) om;clear Z3;grind)|(have q:=T8 (ds:=n.decls) (us:=us) (args:=s.args) om ‹s.args[0]? = some _› om;clear Z3;grind)|(have q:=UR (ds:=n.decls) (us:=us) (args:=s.args) om ‹s.args[0]? = some _› om ‹us[_]? = some _›;clear Z3;grind)))))))))
    have Qv:¬((s.args.length:Int)=2):=Y6 Zq WM
    exact Zh 0 21 [5,6,7,8,9,10,11,12,13,14,15,16,17,18,19,20,21,22,23,24,25] (de (WE (ak (ar (Zo (ZU (.i (-1)) (li (by first|rfl|( grind)|(have q:=T7 (ds:=n.decls) (us:=us) (args:=s.args) om; grind)|(have q:=T8 (ds:=n.decls) (us:=us) (args:=s.args) om ‹s.args[0]? = some _› om; grind)|(have q:=UR (ds:=n.decls) (us:=us) (args:=s.args) om ‹s.args[0]? = some _› om ‹us[_]? = some _›; grind)))))))))
   refine Ym (Wj (fun fz gz F h=>F=sF [1,3,5] fz [(174,.b ((s.op==14)||((s.op==15)||((s.op==16)||(s.op==17)))))]/\h=gz) ?_ ?_)
   ·refine ac (s.op==14) Zq (fun Qa=>?_) (fun Qa=>?_)
    ·exact ak (ZV ⟨rfl,rfl⟩ (wk [0,0] (fc (x:=.b (s.op==14)) (lb (by first|rfl|(rw [Ze Qa])|(rw [Z7 Qa])|(simp [Qa];done)|(rw [XH];simp [Qa];done)|omega)) fl)))
    refine ar (YD (s.op==15) Zq (fun B5=>?_) (fun B5=>?_))
    ·exact ak (ZV ⟨rfl,rfl⟩ (wk [0,0] (fc (x:=.b (s.op==15)) (lb (by first|rfl|(rw [Ze Qa])|(rw [Z7 Qa])|(simp [Qa,B5];done)|(rw [XH];simp [Qa,B5];done)|omega)) fl)))
    refine ar (YD (s.op==16) Zq (fun Ex=>?_) (fun Ex=>?_))
    ·exact ak (ZV ⟨rfl,rfl⟩ (wk [0,0] (fc (x:=.b (s.op==16)) (lb (by first|rfl|(rw [Ze Qa])|(rw [Z7 Qa])|(simp [Qa,B5,Ex];done)|(rw [XH];simp [Qa,B5,Ex];done)|omega)) fl)))
    exact UY (ZV ⟨rfl,rfl⟩ (wk [0,0] (fc (x:=.b (s.op==17)) (lb (by first|rfl|(rw [Ze Qa])|(rw [Z7 Qa])|(simp [Qa,B5,Ex];done)|(rw [XH];simp [Qa,B5,Ex];done)|omega)) fl)))
   rintro F h ⟨rfl,rfl⟩
   refine ac ((s.op==14)||((s.op==15)||((s.op==16)||(s.op==17)))) (p:=(s.op=14)∨((s.op=15)∨((s.op=16)∨(s.op=17)))) (Yh Zq (Yh Zq (Yh Zq Zq))) (fun Zb4=>?_) (fun Zb4=>?_)
   ·exact Zv 3 [1,0] (Zx [] (Zis n us s) (Zo (ZU (.i (Qj n.decls us s.op s.args)) (li (by first|rfl|( grind)|(have q:=T7 (ds:=n.decls) (us:=us) (args:=s.args) om; grind)|(have q:=T8 (ds:=n.decls) (us:=us) (args:=s.args) om ‹s.args[0]? = some _› om; grind)|(have q:=UR (ds:=n.decls) (us:=us) (args:=s.args) om ‹s.args[0]? = some _› om ‹us[_]? = some _›; grind))))))
   exact ak (ar (Zo (ZU (.i (-1)) (li (by first|rfl|( grind)|(have q:=T7 (ds:=n.decls) (us:=us) (args:=s.args) om; grind)|(have q:=T8 (ds:=n.decls) (us:=us) (args:=s.args) om ‹s.args[0]? = some _› om; grind)|(have q:=UR (ds:=n.decls) (us:=us) (args:=s.args) om ‹s.args[0]? = some _› om ‹us[_]? = some _›; grind))))))
  refine Z2 1 (ib (b:=((s.num != 0)&&(!VE s.op))) 17 (fun WJ=>?_) (fun WJ=>?_))
  ·have J2:(s.num≠0)/\(¬(VE s.op=true)):=((YK Y3 (Yl Iff.rfl))).1 WJ
   exact Z2 5 (Yp (wk [0,0] (Zt true WJ fl)) hj2)
  have Kw:¬((s.num≠0)/\(¬(VE s.op=true))):=Y6 (YK Y3 (Yl Iff.rfl)) WJ
  exact ZL 2 [0] (Zx [] (Zja us s) (Z2 2 (Yp (wk [0,0] (Zt (!U5 us s.op s.into) WJ fl)) hj2)))
 refine ZL 4 [0] (ib (b:=(s.num != 0)) 11 (fun Vq=>?_) (fun Vq=>?_))
 ·have B6:s.num≠0:=(Y3).1 Vq
  exact ZL 2 [0] (Zx [] (Ziv s.op) (Z2 2 (Yp (wk [0,0] (Zt (!VE s.op) Vq fl)) hj1)))
 have A6:¬(s.num≠0):=Y6 Y3 Vq
 exact Z2 5 (Yp (wk [0,0] (Zt false Vq fl)) hj1)
theorem Zio (n:Zm) (us:LI) (b:Z6) (hn:X4 n:=by exact ob) (hb:us.length+4*b.sz<=1000000000:=by exact ob) (ih:∀(s:Z5) (us:LI),(s.sz<b.sz)->(us.length+4*s.sz<=1000000000)->Zj 203 [Yr n,Z4 us,YF s] [] (Yn (.i (Y2 n us s)))):Zj 169 [Yr n,Z4 us,Y7 b] [] (Yn (.i (YT n us b))):=by
 have hbz:=T3 b
 have hbe:=CS n us b
 refine ZE 52 Tryz.func169 (ar (iA (YZ n) fun b1=>iA (Xs b) fun b2=>Z0 (Y1 1 (ic [] (T2 us) ?_))))
 rintro _ _ ⟨v1,rfl,rfl⟩
 refine Z0 (Ym (ab 0 (Y4 (fun fz gz m F h=>∃(k:Nat) (vs:LI) (v:Value),(k<=b.steps.length)/\(vs.length<=us.length+k)/\(Xp n (b.steps.drop k) vs=Xp n b.steps us)/\F=sF [3,5] fz [(7,ZQ vs v),(8,.i k)]/\h=[Zd gz 1,Zd gz 2,.tail v 1]/\m=b.steps.length-k) _ _ _ ⟨0,us,v1,ob,ob,ob,rfl,rfl,rfl⟩ (wk [1,1,0] (fr (Yb fl))) ?_)))
 rintro m F h ⟨k,vs,v,Ye,Zk,Zw,rfl,rfl,rfl⟩
 refine Yk 3 [0] (iw (VR b.steps) (Y9 ((k:Int)<(b.steps.length:Int)) (fun Za=>?_) (fun Za=>?_)))
 ·refine ak (aq (ab 1 (aD 9 (ZI 4 9 [0,1,2,3,4] [1,0] ?_))))
  obtain ⟨x1,Z3⟩:=Zs b.steps k om
  have hss:=DM Z3
  refine dx 5 (Zl none (k:Int) 5 (VK Z3)) (YA 2 3 [6] [(20,Z4 vs)] (Z9 7 (Yz 7 [] [] [] (ih x1 vs ob ob) (Zh 0 1 [8] (de (X7 (Y9 ((Y2 n vs x1)<0) (fun Zg=>?_) (fun Zg=>?_))))))))
  ·refine Zy ?_
   rw [Y5 Z3] at Zw
   exact ZB (ZU (.i (-1)) (li (by clear Z3;first|rfl|omega|grind [Xp])))
  refine ak (Zv 3 [0] (Zp (Zl none (k:Int) 5 (VK Z3)) (Z2 2 (Zx [] (JE x1.op) (ie (KV (fun fz gz F h=>∃(w:Value),F=sF [3,5,8] fz [(7,ZQ (if W7 x1.op=true then vs++[Y2 n vs x1] else vs) w)]/\h=[Zd gz 0,Zd gz 1,.tail w 1]) (fun _ _=>rfl) ?_ ?_))))))
  ·refine ac (W7 x1.op) Iff.rfl (fun ZD=>?_) (fun ZD=>?_)
   ·exact az (Z2 2 (iL (Z8 [Y2 n vs x1]) 1 1 fun v2=>ZT 0 [(38,Z4 [Y2 n vs x1])] (ip 3 (Z8 (vs++[Y2 n vs x1])) (Z8 vs) (Z8 [Y2 n vs x1]) v none 1 (YL _) (YL _) (Ww _) (by simp<;>omega) (by simp [Wv,Z8]) fun v3=>Z0 (ZV ⟨v3,rfl,rfl⟩ (wk [2,2,0] (fc (x:=ZQ (vs++[Y2 n vs x1]) v3) (Zc.slh _ (Yu Z8 (by first|rfl|(rw [Ze ZD])|(rw [Z7 ZD])|(simp [ZD];done)|(rw [XH];simp [ZD];done)|omega))) fl))))))
   exact ak (ZV ⟨v,rfl,rfl⟩ (ZG 3 (fc (x:=ZQ vs v) (Zc.slh _ (Yu Z8 (by first|rfl|(rw [Ze ZD])|(rw [Z7 ZD])|(simp [ZD];done)|(rw [XH];simp [ZD];done)|omega))) fl)))
  rintro F h ⟨w,rfl,rfl⟩
  refine az (Z2 1 (ZJ k (Z0 ?_)))
  have hdr:=Y5 Z3
  exact ZK ⟨k+1,(if W7 x1.op=true then vs++[Y2 n vs x1] else vs),w,ob,(by split<;>(try simp)<;>omega),(by rw [hdr] at Zw;clear hdr Z3;grind [Xp]),rfl,rfl,rfl⟩ (ZG 3 (fr (ZM k fl)))
 refine ax 0 (Yk 3 [0] (iw (Ya vs) (ia (((vs.length:Int)-1)) (((vs.length:Int))-(1)) (Zx [] (TJ b.result 0 ((vs.length:Int)-1)) (YD (!(decide (0<=b.result/\b.result<=((vs.length:Int)-1)))) (p:=¬(0<=b.result/\b.result<=((vs.length:Int)-1))) (Yl dq) (fun Yj=>?_) (fun Yj=>?_))))))
 ·refine Zy ?_
  try rw [Xj (xs:=b.steps) (k:=k) om] at Zw
  exact ZB (ZU (.i (-1)) (li (by rw [hbe,<-Zw];show _=(Xa vs b.result).getD (-1);rw [KR Yj];rfl)))
 refine ak (Zv 3 [0] ?_)
 obtain ⟨x2,Zr⟩:=Zs vs b.result.toNat om
 refine Zp (Zl (some v) b.result 1 (ZZ Zr)) (Z0 ?_)
 try rw [Xj (xs:=b.steps) (k:=k) om] at Zw
 exact ZB (ZU (.i x2) (li (by rw [hbe,<-Zw];show _=(Xa vs b.result).getD (-1);rw [Q3 om Zr];rfl)))
theorem Zj7 (b:Z6) (l:Int) (hb:b.sz<=1000000000) (hl:0<=l/\l<=600) (ih:∀(b2:Z6) (l:Int),(b2.sz<b.sz)->(0<=l/\l<=600)->Zj 175 [Y7 b2,.i l] [] (Yn (.i (WU b2 l)))):Zj 175 [Y7 b,.i l] [] (Yn (.i (WU b l))):=by
 have hbz:=T3 b
 have hbe:=RQ b l
 refine ZE 43 Tryz.func175 (ar (iA (Xs b) fun b1=>?_))
 refine Z0 (Ym (ab 0 (Y4 (fun fz gz m F h=>∃(k:Nat) (q:Int),(k<=b.steps.length)/\(0<=q/\q<=600)/\(Qw (b.steps.drop k) q=Qw b.steps l)/\F=sF [2] fz [(1,.i q),(5,.i k)]/\h=gz/\m=b.steps.length-k) _ _ _ ⟨0,l,ob,ob,ob,rfl,rfl,rfl⟩ (wk [0] (fr (Yb fl))) ?_)))
 rintro m F h ⟨k,q,Ye,Zk,Zw,rfl,rfl,rfl⟩
 refine Yk 3 [0] (iw (VR b.steps) (Y9 ((k:Int)<(b.steps.length:Int)) (fun Za=>?_) (fun Za=>?_)))
 ·refine ak (aq (ab 1 (X7 (Y9 (q<1) (fun Zg=>?_) (fun Zg=>?_)))))
  ·refine Zy ?_
   try rw [Xj (xs:=b.steps) (k:=k) om] at Zw
   obtain ⟨x1,Z3⟩:=Zs b.steps k om
   rw [Y5 Z3] at Zw
   clear Z3
   exact ZB (ZU (.i (-1)) (li (by first|rfl|omega|grind [Qw])))
  obtain ⟨s1,hxs1⟩:=Zs b.steps k om
  have hss:=Ab hxs1
  have hkz:=Te s1
  refine ak (Y1 1 (ia ((q-1)) ((q)-(1)) (Z0 (Zy (ab 2 (Y4 (fun fz gz m F h=>∃(j:Nat) (j2:Int),(j<=s1.kids.length)/\(0<=j2/\j2<=600)/\(QU (s1.kids.drop j) j2=QU s1.kids (q-1))/\F=sF [2,5] fz [(1,.i j2),(6,.i j)]/\h=gz/\m=s1.kids.length-j) _ _ _ ⟨0,(q-1),ob,ob,ob,rfl,rfl,rfl⟩ (wk [0] (fr (Yb fl))) ?_))))))
  rintro m F h ⟨j,j2,U7,XO,XP,rfl,rfl,rfl⟩
  refine Yk 4 [0] (Zp (Zl none (k:Int) 5 (VK hxs1)) (Z2 2 (iw (U8 s1.kids) (Y9 ((j:Int)<(s1.kids.length:Int)) (fun ZD=>?_) (fun ZD=>?_)))))
  ·refine ak (aq (ab 3 (Zv 3 [0] (Zp (Zl none (k:Int) 5 (VK hxs1)) (Z2 3 ?_)))))
   obtain ⟨x1,Z3⟩:=Zs s1.kids j om
   have hks:=TF Z3
   have hle:=LP.2 x1 j2 om
   refine Zp (Zl none (j:Int) 2 (UV Z3)) (Z2 2 (Zx [] (ih x1 j2 ob ob) (Z0 (ar (Y9 ((WU x1 j2)<0) (fun Yj=>?_) (fun Yj=>?_))))))
   ·refine Zy ?_
    rw [Y5 hxs1] at Zw
    rw [Y5 Z3] at XP
    have hls:=GY s1 (q-1)
    exact ZB (ZU (.i (-1)) (li (by clear Z3 hxs1;first|rfl|omega|grind [Qw,QU])))
   refine ak (az (Z2 1 (ZJ j (Z0 ?_))))
   have hdr:=Y5 Z3
   exact ZK ⟨j+1,(WU x1 j2),ob,ob,(by rw [hdr] at XP;clear hdr Z3 hxs1;grind [QU]),rfl,rfl,rfl⟩ (wk [0] (fr (ZM j fl)))
  refine ax 2 (az (Z2 1 (ZJ k (Z0 ?_))))
  rw [Xj om] at XP
  have hls:=GY s1 (q-1)
  rw [QU] at XP
  have hdr:=Y5 hxs1
  exact ZK ⟨k+1,j2,ob,ob,(by rw [hdr] at Zw;clear hdr hxs1;grind [Qw]),rfl,rfl,rfl⟩ (wk [0] (fr (ZM k fl)))
 refine ax 0 (Zy ?_)
 try rw [Xj (xs:=b.steps) (k:=k) om] at Zw
 exact ZB (ZU (.i q) (li (by first|rfl|omega|grind [Qw])))
theorem Zj6 (b:Z6) (l:Int) (hb:b.sz<=1000000000) (hl:0<=l/\l<=600):Zj 175 [.agg [.sl (ZF b.steps) none,.i b.result],.i l] [] (Yn (.i (WU b l))):=by
 have key:∀m:Nat,∀(b:Z6) (l:Int),b.sz<=m->b.sz<=1000000000->(0<=l/\l<=600)->Zj 175 [.agg [.sl (ZF b.steps) none,.i b.result],.i l] [] (Yn (.i (WU b l))):=by
  intro m
  induction m with
  | zero=>intro b l h;have:=b.sz_pos;omega
  | succ m ih=>intro b l h1 h2 h3;exact Zj7 b l h2 h3 fun b2 l2 k1 k2=>ih b2 l2 om om k2
 exact key b.sz b l (YU _) hb hl
theorem Zin (n:Zm) (hn:X4 n) (m:Nat):∀(b:Z6) (us:LI),(b.sz<=m)->(us.length+4*b.sz<=1000000000)->Zj 169 [Yr n,Z4 us,Y7 b] [] (Yn (.i (YT n us b))):=by
 induction m with
 | zero=>intro b us h;have:=b.sz_pos;omega
 | succ m ih=>intro b us h1 h2;exact Zio n us b hn h2 fun s us2 k1 k2=>Z1s n us2 s hn k2 fun b2 us3 q1 q2=>ih b2 us3 om q2
theorem Z1m (n:Zm) (us:LI) (b:Z6) (hn:X4 n) (hb:us.length+4*b.sz<=1000000000):Zj 169 [Yr n,Z4 us,Y7 b] [] (Yn (.i (YT n us b))):=
 Zin n hn b.sz b us (YU _) hb
theorem MP (n:Zm) (us:LI) (s:Z5) (hn:X4 n) (hb:us.length+4*s.sz<=1000000000):Zj 203 [Yr n,Z4 us,YF s] [] (Yn (.i (Y2 n us s))):=
 Z1s n us s hn hb fun b2 us3 _ q2=>Z1m n us3 b2 hn q2
theorem Z1t (b:Z6) (hb:b.sz<=1000000000:=by exact ob):Zj 121 [Y7 b] [] (Yn (.i (UB b))):=by
 have hle:=LP.2 b 600 om
 refine ZE 10 Tryz.func121 (ar (iA (Xs b) fun b1=>Z0 (Zv 1 [0] (Zx [] (Zj6 b 600 ob ob) (Z0 (X7 (Y9 ((WU b 600)<0) (fun Za=>?_) (fun Za=>?_))))))))
 ·exact ar (Zo (ZU (.i (-1)) (li (by first|rfl|omega|grind [UB]))))
 exact ak (Y1 1 (ia ((600-(WU b 600))) ((600)-(WU b 600)) (Zo (ZU (.i (600-(WU b 600))) (li (by first|rfl|omega|grind [UB]))))))
theorem B0 (z:Int) :Zj 236 [.i z] [] (Yn (Y8 (Z1.mk 0 z []))):=by
 exact ZE 6 Tryz.func236 (ar (iA [.i 0,.i 0,nl] fun b1=>ie (Y1 1 (iL (Yt []) 0 3 fun v1=>Z2 1 (ZH 1 b1 [.i 0,.i z,K9 [] v1] (ie (ZB (r3 [] [.agg [.i 0,.i z,K9 [] v1]] [0] [(b1,b1)] ⟨rfl,rfl⟩ (Zc.agg (.cons li (.cons li (.cons (Zc.sl _ (Yu Yt rfl)) .nil))))))))))))
theorem QJ (z:Int) :Zj 275 [.i z] [] (Yn (Y8 (Z1.mk 12 z []))):=by
 exact ZE 6 Tryz.func275 (ar (iA [.i 0,.i 0,nl] fun b1=>ie (Y1 1 (iL (Yt []) 0 3 fun v1=>Z2 1 (ZH 1 b1 [.i 12,.i z,K9 [] v1] (ie (ZB (r3 [] [.agg [.i 12,.i z,K9 [] v1]] [0] [(b1,b1)] ⟨rfl,rfl⟩ (Zc.agg (.cons li (.cons li (.cons (Zc.sl _ (Yu Yt rfl)) .nil))))))))))))
theorem XZ (op:Int) (nm:Int) (ks:List Z1) :Zj 273 [.i op,.i nm,XE ks] [] (Yn (Y8 (Z1.mk op nm ks))):=by
 exact ZE 11 Tryz.func273 (ar (iA [.i 0,.i 0,nl] fun b1=>ie (Y1 4 (ZH 0 b1 [.i op,.i nm,XE ks] (ie (ZB (r3 [] [.agg [.i op,.i nm,XE ks]] [0] [(b1,b1)] ⟨rfl,rfl⟩ (Zc.agg (.cons li (.cons li (.cons (Zc.sl _ (Yu Yt rfl)) .nil)))))))))))
theorem PA (rd:Nat) (bs:LI) (p:Nat) (ZO:∀z∈bs,0<=z/\z<=255) (hp:p+4<=1000000000:=by exact ob):Zj 291 [.p rd 0] [YE rd bs p] (fun r h=>∃(z:Int),r=.i z/\h=[.obj rd [Ui bs,.i (p+4:Nat)]]/\-2000<=z/\z<=2000):=by
 refine ZE 12 Tryz.func291 (Zy (Y1 2 (ic [0] (WG rd bs p 6 (ZO:=ob)) ?_)))
 rintro _ _ ⟨k1,rfl,rfl,ZY⟩
 have qhp1:=ZY.lt om
 refine Z2 1 (ic [0] (WG rd bs (p+1) 6 (ZO:=ob)) ?_)
 rintro _ _ ⟨k2,rfl,rfl,Yi⟩
 have qhp2:=Yi.lt om
 refine Z2 1 (ic [0] (WG rd bs ((p+1)+1) 40 (ZO:=ob)) ?_)
 rintro _ _ ⟨k3,rfl,rfl,YJ⟩
 have qhp3:=YJ.lt om
 refine iL (Z8 [k1,k2,0,1,2,-1,3,k3,999,-998]) 10 1 fun v1=>ZT 0 [(10,Z4 [k1,k2,0,1,2,-1,3,k3,999,-998])] (ic [1] (Uh rd bs (((p+1)+1)+1) [k1,k2,0,1,2,-1,3,k3,999,-998] (ZO:=ob)) ?_)
 rintro _ _ ⟨z1,rfl,rfl,YR⟩
 exact Zo (r1 [0] ⟨z1,rfl,rfl,(by simp at YR;omega)⟩)
theorem Pq (g:Wc) (gb:Nat) (rs:List Func) (t:Int) (hg:GP g:=by exact ob) (WB:g.funcs <+: rs:=by exact ob):Zj 298 [.agg (WF g gb),.i t] [XW gb rs] (fun r h=>∃(xs:LI),r=Z4 xs/\h=[XW gb rs]/\xs.length<=4/\∀i∈xs,AH g t i):=by
 have hgl:=hg.len
 have hdl:=hg.decls.len
 refine ZE 53 Tryz.func298 (ar (iA (WF g gb) fun b1=>Z0 (ar (iL (Z8 []) 0 1 fun v1=>?_))))
 refine Z0 (Ym (ab 0 (Y4 (fun fz gz m F h=>∃(k:Nat) (ys:LI) (u:Value),(k<=g.funcs.length)/\(ys.length<=k)/\(∀i∈ys,AH g t i)/\F=sF [1,2] fz [(5,ZQ ys u),(6,.i k)]/\h=[Zd gz 1,Zd gz 2,.tail u 1]/\m=g.funcs.length-k) _ _ _ ⟨0,[],v1,ob,ob,(fun i hi=>by cases hi),rfl,rfl,rfl⟩ (wk [1,1,0] (fr (Yb fl))) ?_)))
 rintro m F h ⟨k,ys,u,Ye,Zk,Zw,rfl,rfl,rfl⟩
 refine Yk 3 [0] (io (.i g.funcs.length) (.i g.funcs.length) (lr _) (Y9 ((k:Int)<(g.funcs.length:Int)) (fun Za=>?_) (fun Za=>?_)))
 ·refine ak (aq (ab 1 (Zv 3 [0] ?_)))
  obtain ⟨x1,Z3⟩:=Zs g.funcs k om
  have hso:=(hg.sigs _ (Y0 Z3)).bd
  refine Zp (Ws gb g.funcs.length 4 k 5 (k:Int)) (Z2 1 (V7 (Vx 1 gb 4 4 5 (k*5+0) (Zi (Xw rs)) [Z4 x1.params] 31 (Z4 x1.params) (UW WB Z3 0 rfl (Vk rfl))) (iw (Ya x1.params) (Z0 (aD 25 (Zh 22 25 [0,1,2] (db (b:=(decide ((x1.params.length:Int)>0))) 25 (fun Zb=>?_) (fun Zb=>?_))))))))
  ·have ZY:(x1.params.length:Int)>0:=(dq).1 Zb
   refine ZI 17 22 [3,4,5,6,7] [0,0] (dx 8 (Ws gb g.funcs.length 4 k 5 (k:Int)) (Zh 15 16 [9] (Ue 10 (Vx 1 gb 4 4 5 (k*5+0) (Zi (Xw rs)) [Z4 x1.params] 31 (Z4 x1.params) (UW WB Z3 0 rfl (Vk rfl))) (Zh 13 14 [11] (da 12 ((((x1.params.length-1):Nat):Int)) (((x1.params.length:Int))-(1)) ?_)))))
   obtain ⟨x2,Zr⟩:=Zs x1.params (x1.params.length-1) om
   refine dx 13 (Zl none (((x1.params.length-1):Nat):Int) 1 (ZZ Zr)) (ZI 7 11 [14,15,16,17] [0] (dx 18 (Ws gb g.funcs.length 4 k 5 (k:Int)) (Zh 5 6 [19] (Ue 20 (Vx 1 gb 4 4 5 (k*5+1) (Zi (Xw rs)) [.i x1.result] 3 (.i x1.result) (UW WB Z3 1 rfl (Vk rfl))) (Zh 3 4 [22] (Z9 21 (Yz 21 [] [] [] (Z1l g.decls x2 x1.result) (Zh 0 2 [23,24] (de (ac ((Ut g.decls x2 x1.result)==t) Zq (fun Zg=>?_) (fun Zg=>?_)))))))))))
   ·exact az (Z2 2 (iL (Z8 [(k:Int)]) 1 1 fun v2=>ZT 0 [(50,Z4 [(k:Int)])] (ip 3 (Z8 (ys++[(k:Int)])) (Z8 ys) (Z8 [(k:Int)]) u none 1 (YL _) (YL _) (Ww _) (by simp<;>omega) (by simp [Wv,Z8]) fun v3=>Z0 (az (Z2 1 (ZJ k (Z0 (ZK ⟨k+1,(ys++[(k:Int)]),v3,ob,ob,(XS Zw (AH.mk Z3 om Zr Zg)),rfl,rfl,rfl⟩ (wk [2,2,0] (fr (ZM k fl)))))))))))
   exact ak (az (Z2 1 (ZJ k (Z0 (ZK ⟨k+1,ys,u,ob,ob,ob,rfl,rfl,rfl⟩ (ZG 3 (fr (ZM k fl))))))))
  have Yi:¬((x1.params.length:Int)>0):=Y6 dq Zb
  exact Zh 0 22 [3,4,5,6,7,8,9,10,11,12,13,14,15,16,17,18,19,20,21,22,23,24] (de (WE (ak (az (Z2 1 (ZJ k (Z0 (ZK ⟨k+1,ys,u,ob,ob,ob,rfl,rfl,rfl⟩ (ZG 3 (fr (ZM k fl)))))))))))
 exact ax 0 (ar (Zo (r2 [1] [ZQ ys u] ⟨ys,rfl,rfl,⟨by omega,Zw⟩⟩ (Zc.forget _ _))))
theorem Zax (vs:LI) (t:Int) (hv:vs.length<=2000:=by exact ob):Zj 292 [Z4 vs,.i t] [] (fun r h=>∃(xs:LI),r=Z4 xs/\h=[]/\xs.length<=vs.length/\∀i∈xs,0<=i/\i<vs.length):=by
 refine ZE 25 Tryz.func292 (Zy (ar (iL (Z8 []) 0 1 fun v1=>?_)))
 refine Z0 (Ym (ab 0 (Y4 (fun fz gz m F h=>∃(k:Nat) (ys:LI) (u:Value),(k<=vs.length)/\(ys.length<=k)/\(∀i∈ys,0<=i/\i<vs.length)/\F=sF [0,1] fz [(5,ZQ ys u),(6,.i k)]/\h=[.tail u 1]/\m=vs.length-k) _ _ _ ⟨0,[],v1,ob,ob,(fun i hi=>by cases hi),rfl,rfl,rfl⟩ (wk [0] (fr (Yb fl))) ?_)))
 rintro m F h ⟨k,ys,u,Ye,Zk,Zw,rfl,rfl,rfl⟩
 refine YP 2 (iw (Ya vs) (Y9 ((k:Int)<(vs.length:Int)) (fun Za=>?_) (fun Za=>?_)))
 ·refine ak (aq (ab 1 (Y1 2 ?_)))
  obtain ⟨x1,Z3⟩:=Zs vs k om
  refine Zp (Zl none (k:Int) 1 (ZZ Z3)) (YD (x1==t) Zq (fun Zg=>?_) (fun Zg=>?_))
  ·exact az (Z2 2 (iL (Z8 [(k:Int)]) 1 1 fun v2=>ZT 0 [(22,Z4 [(k:Int)])] (ip 1 (Z8 (ys++[(k:Int)])) (Z8 ys) (Z8 [(k:Int)]) u none 1 (YL _) (YL _) (Ww _) (by simp<;>omega) (by simp [Wv,Z8]) fun v3=>Z0 (az (Z2 1 (ZJ k (Z0 (ZK ⟨k+1,(ys++[(k:Int)]),v3,ob,ob,(XS Zw om),rfl,rfl,rfl⟩ (wk [0] (fr (ZM k fl)))))))))))
  exact ak (az (Z2 1 (ZJ k (Z0 (ZK ⟨k+1,ys,u,ob,ob,ob,rfl,rfl,rfl⟩ (wk [0] (fr (ZM k fl))))))))
 exact ax 0 (ar (Zo (r2 [] [ZQ ys u] ⟨ys,rfl,rfl,⟨by omega,Zw⟩⟩ (Zc.forget _ _))))
theorem Gj (g:Wc) (gb:Nat) (rs:List Func) (vs:LI) (t:Int) (hg:GP g:=by exact ob) (WB:g.funcs <+: rs:=by exact ob) (hv:vs.length<=2000:=by exact ob):Zj 293 [.agg (WF g gb),Z4 vs,.i t] [XW gb rs] (fun r h=>∃(w:Bool),r=.b w/\h=[XW gb rs]):=by
 have Xz:=hg.decls.ok
 refine ZE 24 Tryz.func293 (ar (iA (WF g gb) fun b1=>Z0 (Zv 3 [0] (Zx [] (Fg g.decls t) (Z2 2 (ib (b:=(!XT g.decls t)) 12 (fun Zb=>?_) (fun Zb=>?_)))))))
 ·exact Zo (r1 [1] ⟨true,rfl,rfl⟩)
 refine ZL 2 [0] (ic [1] (Pq g gb rs t) ?_)
 rintro _ _ ⟨xs1,rfl,rfl,YJ⟩
 have qhp3:=YJ.1
 refine iw (Ya xs1) (Z2 3 (ib (b:=(decide ((xs1.length:Int)>0))) 19 (fun Zz=>?_) (fun Zz=>?_)))
 ·exact Zo (r1 [0] ⟨true,rfl,rfl⟩)
 exact Z2 2 (Zx [] (Ti vs t) (Zo (r1 [0] ⟨(decide (t∈vs)),rfl,rfl⟩)))
theorem Zaq (rd:Nat) (bs:LI) (p:Nat) (g:Wc) (gb:Nat) (rs:List Func) (t:Int) (ZO:∀z∈bs,0<=z/\z<=255) (hp:p+5+15*rk t<=1000000000) (hg:GP g) (WB:g.funcs <+: rs) (ih:∀(rd:Nat) (bs:LI) (p:Nat) (t2:Int),(∀z∈bs,0<=z/\z<=255)->(p+5+15*rk t2<=1000000000)->(rk t2<rk t)->Zj 294 [.p rd 0,.agg (WF g gb),.i t2] [YE rd bs p,XW gb rs] (fun r h=>∃(e:Z1) (p2:Nat),r=Y8 e/\h=[YE rd bs p2,XW gb rs]/\SE g (1+3*rk t2) e/\p<=p2/\p2<=p+5+15*rk t2)):Zj 294 [.p rd 0,.agg (WF g gb),.i t] [YE rd bs p,XW gb rs] (fun r h=>∃(e:Z1) (p2:Nat),r=Y8 e/\h=[YE rd bs p2,XW gb rs]/\SE g (1+3*rk t) e/\p<=p2/\p2<=p+5+15*rk t):=by
 have Xz:=hg.decls.ok
 have hgl:=hg.len
 have hrk:=Mq t
 refine ZE 118 Tryz.func294 (ar (iA (WF g gb) fun b1=>iA [.i 0,.i 0,nl] fun b2=>ie (Zv 3 [1] (ic [] (Bf g.decls t) ?_))))
 rintro _ _ ⟨v1,rfl,rfl⟩
 refine Z0 (YP 1 (io (.i (((ZW g.decls t).length:Nat):Int)) (.i (((Z8 (ZW g.decls t)).length:Nat):Int)) (li (by rw [Ya])) (Y9 ((((ZW g.decls t).length:Nat):Int)>0) (fun Za=>?_) (fun Za=>?_))))
 ·refine Y1 1 ?_
  obtain ⟨x1,Z3⟩:=Zs (ZW g.decls t) 0 om
  refine Zp (Zl (some v1) 0 1 (ZZ Z3)) (Z0 (aq (aq (Wj (fun fz gz F h=>∃(w1:Bool) (p5:Nat),(w1=true->1<(ZW g.decls t).length)/\(p<=p5/\p5<=p+1)/\F=sF [0,2,4,6,8] fz [(7,Z4 (ZW g.decls t)),(34,.b w1)]/\h=[Zd gz 1,Zd gz 2,YE rd bs p5,Zd gz 4]) ?_ ?_))))
  ·refine az (Z2 1 (io (.i (((ZW g.decls t).length:Nat):Int)) (.i (((Z8 (ZW g.decls t)).length:Nat):Int)) (li (by rw [Ya])) (Z2 2 (ib (b:=(decide ((((ZW g.decls t).length:Nat):Int)>1))) 30 (fun Zb=>?_) (fun Zb=>?_)))))
   ·have ZY:(((ZW g.decls t).length:Nat):Int)>1:=(dq).1 Zb
    refine Z2 1 (ic [3] (WG rd bs p 4 (ZO:=ob)) ?_)
    rintro _ _ ⟨k1,rfl,rfl,Yi⟩
    have qhp2:=Yi.lt om
    exact Z0 (ZV ⟨(k1==0),p+1,(by first|exact (fun h=>by cases h)|exact fun _=>by omega),ob,rfl,rfl⟩ (wk [2,2,0,1] fl))
   have YJ:¬((((ZW g.decls t).length:Nat):Int)>1):=Y6 dq Zb
   exact Z0 (ZV ⟨false,p,(by first|exact (fun h=>by cases h)|exact fun _=>by omega),ob,rfl,rfl⟩ (wk [1,1,1,1] fl))
  rintro F h ⟨w1,p5,kR4_0,kR4_1,rfl,rfl⟩
  refine Wj (fun fz gz F h=>∃(c1:Int),(c1∈ZW g.decls t)/\F=sF [0,2,4,6,7] fz [(8,.i c1)]/\h=gz) ?_ ?_
  ·refine ac w1 Iff.rfl (fun Zg=>?_) (fun Zg=>?_)
   ·refine az (Z2 1 ?_)
    obtain ⟨x2,Zr⟩:=Zs (ZW g.decls t) 1 (kR4_0 (by assumption))
    exact Zp (Zl none 1 1 (ZZ Zr)) (Z0 (ZV ⟨x2,(Y0 Zr),rfl,rfl⟩ (ZG 4 fl)))
   exact ak (ZV ⟨x1,(Y0 Z3),rfl,rfl⟩ (ZG 4 fl))
  rintro F h ⟨c1,Ky,rfl,rfl⟩
  have hcf:=Uu Xz c1
  refine Yk 3 [1] (Zx [] (JD g.decls c1) (Z2 1 (Zx [] (Ti (ZX g.decls c1) t) (ie (Wj (fun fz gz F h=>∃(c2:Int),(Bu g.decls t c2)/\F=sF [0,4,6] fz [(8,.i c2)]/\h=gz) ?_ ?_)))))
  ·refine XB (t∈(ZX g.decls c1)) (fun ZD=>?_) (fun ZD=>?_)
   ·exact az (Z2 1 (Zp (Zl none 0 1 (ZZ Z3)) (Z0 (ZV ⟨x1,(Zhb hg.decls Ky (by assumption) Z3),rfl,rfl⟩ (ZG 4 fl)))))
   exact ak (ZV ⟨c1,(Zha hg.decls Ky (by assumption)),rfl,rfl⟩ (ZG 4 fl))
  rintro F h ⟨c2,GN,rfl,rfl⟩
  obtain ⟨PJ,Qa,B5⟩:=GN
  refine ar (iL (Yt []) 0 3 fun v2=>?_)
  refine Z0 (Zv 3 [2] (Zx [] (JD g.decls c2) (Z0 (Ym (ab 0 (Y4 (fun fz gz m F h=>∃(k:Nat) (ys:List Z1) (u:Value) (pq:Nat),(k<=(ZX g.decls c2).length)/\(ys.length=k)/\(∀e∈ys,SE g 1 e)/\(p<=pq/\pq<=p+1+5*k)/\F=sF [0,4,6,8,10] fz [(9,K9 ys u),(11,.i k)]/\h=[Zd gz 1,Zd gz 2,YE rd bs pq,Zd gz 4,.tail u 3]/\m=(ZX g.decls c2).length-k) _ _ _ ⟨0,[],v2,p5,ob,ob,(fun e he=>by cases he),ob,rfl,rfl,rfl⟩ (wk [1,1,1,1,0] (fr (Yb fl))) ?_))))))
  rintro m F h ⟨k,ys,u,pq,Ye,Zk,Zw,Yy,rfl,rfl,rfl⟩
  refine YP 2 (io (.i (((ZX g.decls c2).length:Nat):Int)) (.i (((Z8 (ZX g.decls c2)).length:Nat):Int)) (li (by rw [Ya])) (Y9 ((k:Int)<(((ZX g.decls c2).length:Nat):Int)) (fun Yj=>?_) (fun Yj=>?_)))
  ·refine ak (aq (ab 1 (aE 11 (ZI 6 11 [0,1,2,3,4] [1] ?_))))
   obtain ⟨x3,YG⟩:=Zs (ZX g.decls c2) k om
   have hz3:=Z00 (B5 _ (Y0 YG))
   refine dx 5 (Zl none (k:Int) 1 (ZZ YG)) (Zh 4 5 [6] (Z9 7 (dc 7 [2,2] [] [] (ih rd bs pq x3 ob ob om) ?_)))
   rintro _ _ ⟨e1,p21,rfl,rfl,YR⟩
   have hse:=YR.1
   rw [hz3] at hse
   exact Z9 8 (WP 8 [] [] [Y8 e1] (Yt [e1]) (XV [e1]).symm 1 3 fun v3=>YA 2 2 [] [(66,XE [e1])] (Z9 9 (dp 9 5 [] [] (Yt (ys++[e1])) (Yt ys) (Yt [e1]) u none 3 (Tx _) (Tx _) (Aq _) (by simp<;>omega) (by simp [Ap,Yt]) fun v4=>Zh 0 1 [10] (de (az (Z2 1 (ZJ k (Z0 (ZK ⟨k+1,(ys++[e1]),v4,p21,ob,ob,(XS Zw hse),ob,rfl,rfl,rfl⟩ (wk [4,4,2,2,0] (fr (ZM k fl))))))))))))
  exact ax 0 (ar (ZT 2 [(69,XE ys)] (Zx [] (XZ 6 c2 ys) (ZH 0 b2 (X2 (Z1.mk 6 c2 ys)) (ie (ZB (r3 [2,2] [Y8 (Z1.mk 6 c2 ys)] [0] [(b2,b2)] ⟨(Z1.mk 6 c2 ys),pq,rfl,rfl,⟨SE.node (k:=3*rk t) (.inl rfl) om Zw om om om,by omega⟩⟩ (lr _))))))))
 refine ak (Zv 2 [2] (ic [4] (Pq g gb rs t) ?_))
 rintro _ _ ⟨xs1,rfl,rfl,Xk⟩
 have hcl:=Xk.2
 have hcn:=Xk.1
 refine Z0 (X7 (Xv [0,4,6,12] [(80,.b ((decide (t>0))&&(decide ((xs1.length:Int)>0))))] (fun gz=>gz) ?_ ?_))
 ·refine Z2 3 (ib (b:=(decide (t>0))) 76 (fun Zz=>?_) (fun Zz=>?_))
  ·have XX:t>0:=(dq).1 Zz
   exact Z2 1 (iw (Ya xs1) (Z0 (ZG 5 (Zt (decide ((xs1.length:Int)>0)) Zz fl))))
  have WA:¬(t>0):=Y6 dq Zz
  exact Z0 (ZG 5 (Zt false Zz fl))
 refine ac ((decide (t>0))&&(decide ((xs1.length:Int)>0))) (p:=(t>0)/\((xs1.length:Int)>0)) (YK dq dq) (fun Xh=>?_) (fun Xh=>?_)
 ·refine Y1 3 (iw (Ya xs1) (ic [4] (WG rd bs p (xs1.length:Int) (ZO:=ob)) ?_))
  rintro _ _ ⟨k2,rfl,rfl,WY⟩
  have qhp8:=WY.lt om
  obtain ⟨x4,Wy⟩:=Zs xs1 k2.toNat om
  have hclo:=hcl _ (Y0 Wy)
  have hcb:=hclo.lt
  refine Zp (Zl none k2 1 (ZZ Wy)) (Z0 (Zv 3 [4] ?_))
  obtain ⟨x5,VF⟩:=Zs g.funcs x4.toNat om
  have hso:=(hg.sigs _ (Y0 VF)).bd
  have hr1:=Zge (t:=t) hg.decls om om
  have hfu:=VF
  refine Zp (Ws gb g.funcs.length 4 x4.toNat 5 x4) (Z2 1 (V7 (Vx 1 gb 4 4 5 (x4.toNat * 5+0) (Zi (Xw rs)) [Z4 x5.params] 31 (Z4 x5.params) (UW WB VF 0 rfl (Vk rfl))) (Z0 (ar (iL (Yt []) 0 3 fun v5=>?_)))))
  refine Z0 (Ym (ab 2 (Y4 (fun fz gz m F h=>∃(k:Nat) (ys:List Z1) (u:Value) (pq:Nat),(k<=x5.params.length)/\(ys.length=k)/\(∀e∈ys,SE g 1 e)/\(p<=pq/\pq<=p+1+5*k)/\F=sF [0,4,6,13,14] fz [(15,K9 ys u),(16,.i k)]/\h=[YE rd bs pq,Zd gz 2,Zd gz 4,Zd gz 5,.tail u 3]/\m=x5.params.length-k) _ _ _ ⟨0,[],v5,p+1,ob,ob,(fun e he=>by cases he),ob,rfl,rfl,rfl⟩ (wk [1,1,2,2,0] (fr (Yb fl))) ?_)))
  rintro m F h ⟨k,ys,u,pq,U7,XO,XP,JU,rfl,rfl,rfl⟩
  refine YP 1 (ZJ k (Z2 1 (iw (Ya x5.params) (Y9 (((k+1:Nat):Int)<(x5.params.length:Int)) (fun Xl=>?_) (fun Xl=>?_)))))
  ·refine ak (aq (ab 3 (aE 11 (ZI 6 11 [0,1,2,3,4] [3] ?_))))
   obtain ⟨x6,A7⟩:=Zs x5.params k om
   have hz3:=hclo.low hg om hfu om A7
   refine dx 5 (Zl none (k:Int) 1 (ZZ A7)) (Zh 4 5 [6] (Z9 7 (dc 7 [0,0] [] [] (ih rd bs pq x6 ob ob om) ?_)))
   rintro _ _ ⟨e2,p22,rfl,rfl,Vr⟩
   have hse:=Vr.1
   rw [hz3] at hse
   exact Z9 8 (WP 8 [] [] [Y8 e2] (Yt [e2]) (XV [e2]).symm 1 3 fun v6=>YA 2 2 [] [(110,XE [e2])] (Z9 9 (dp 9 5 [] [] (Yt (ys++[e2])) (Yt ys) (Yt [e2]) u none 3 (Tx _) (Tx _) (Aq _) (by simp<;>omega) (by simp [Ap,Yt]) fun v7=>Zh 0 1 [10] (de (az (Z2 1 (ZJ k (Z0 (ZK ⟨k+1,(ys++[e2]),v7,p22,ob,ob,(XS XP hse),ob,rfl,rfl,rfl⟩ (wk [2,2,2,2,0] (fr (ZM k fl))))))))))))
  exact ax 2 (ar (ZT 2 [(113,XE ys)] (Zx [] (XZ 10 x4 ys) (ZH 2 b2 (X2 (Z1.mk 10 x4 ys)) (ie (ZB (r3 [1,1] [Y8 (Z1.mk 10 x4 ys)] [0] [(b2,b2)] ⟨(Z1.mk 10 x4 ys),pq,rfl,rfl,⟨SE.node (k:=3) (.inr rfl) om XP om om om,by omega⟩⟩ (lr _))))))))
 refine ak (Y1 1 (ic [4] (PA rd bs p (ZO:=ob)) ?_))
 rintro _ _ ⟨z1,rfl,rfl,UH⟩
 exact Zx [] (B0 z1) (ZH 3 b2 (X2 (Z1.mk 0 z1 [])) (ie (ZB (r3 [1,1] [Y8 (Z1.mk 0 z1 [])] [0] [(b2,b2)] ⟨(Z1.mk 0 z1 []),p+4,rfl,rfl,⟨SE.int om om,by omega⟩⟩ (lr _)))))
theorem Zap (rd:Nat) (bs:LI) (p:Nat) (g:Wc) (gb:Nat) (rs:List Func) (t:Int) (ZO:∀z∈bs,0<=z/\z<=255) (hp:p+5+15*rk t<=1000000000:=by exact ob) (hg:GP g:=by exact ob) (WB:g.funcs <+: rs:=by exact ob):Zj 294 [.p rd 0,.agg (WF g gb),.i t] [YE rd bs p,XW gb rs] (fun r h=>∃(e:Z1) (p2:Nat),r=Y8 e/\h=[YE rd bs p2,XW gb rs]/\SE g (1+3*rk t) e/\p<=p2/\p2<=p+5+15*rk t):=by
 have key:∀k:Nat,∀(rd:Nat) (bs:LI) (p:Nat) (t2:Int),(∀z∈bs,0<=z/\z<=255)->(p+5+15*rk t2<=1000000000)->(rk t2<k)->Zj 294 [.p rd 0,.agg (WF g gb),.i t2] [YE rd bs p,XW gb rs] (fun r h=>∃(e:Z1) (p2:Nat),r=Y8 e/\h=[YE rd bs p2,XW gb rs]/\SE g (1+3*rk t2) e/\p<=p2/\p2<=p+5+15*rk t2):=by
  intro k
  induction k with
  | zero=>intro rd bs p t2 h1 h2 h3;omega
  | succ k ih=>intro rd bs p t2 h1 h2 h3;exact Zaq rd bs p g gb rs t2 h1 h2 hg WB fun rd bs p t3 q1 q2 q3=>ih rd bs p t3 q1 q2 om
 exact key 2 rd bs p t ZO hp (by have:=Mq t;omega)
theorem Dh (rd:Nat) (bs:LI) (p:Nat) (g:Wc) (gb:Nat) (rs:List Func) (vs:LI) (t:Int) (ZO:∀z∈bs,0<=z/\z<=255) (hp:p+30<=1000000000:=by exact ob) (hg:GP g:=by exact ob) (WB:g.funcs <+: rs:=by exact ob) (hv:vs.length<=2000:=by exact ob):Zj 276 [.p rd 0,.agg (WF g gb),Z4 vs,.i t] [YE rd bs p,XW gb rs] (fun r h=>∃(e:Z1) (p2:Nat),r=Y8 e/\h=[YE rd bs p2,XW gb rs]/\GE g vs.length 4 e/\p<=p2/\p2<=p+30):=by
 have hrk:=Mq t
 refine ZE 40 Tryz.func276 (ar (iA (WF g gb) fun b1=>iA [.i 0,.i 0,nl] fun b2=>ie (Y1 2 (ic [] (Zax vs t) ?_))))
 rintro _ _ ⟨xs1,rfl,rfl,ZY⟩
 have hxs:=ZY
 refine Z0 (aq (aq (Wj (fun fz gz F h=>∃(wb:Bool) (p5:Nat),(wb=true->0<xs1.length)/\(p<=p5/\p5<=p+1)/\F=sF [0,3,5,8,9] fz [(27,.b wb)]/\h=[Zd gz 0,Zd gz 1,YE rd bs p5,Zd gz 3]) ?_ ?_)))
 ·refine az (Z2 1 (iw (Ya xs1) (Z2 2 (ib (b:=(decide ((xs1.length:Int)>0))) 16 (fun Zb=>?_) (fun Zb=>?_)))))
  ·have Yi:(xs1.length:Int)>0:=(dq).1 Zb
   refine Z2 1 (ic [2] (WG rd bs p 6 (ZO:=ob)) ?_)
   rintro _ _ ⟨k1,rfl,rfl,YJ⟩
   have qhp3:=YJ.lt om
   refine Z2 2 (ib (b:=(decide (k1>0))) 20 (fun Zz=>?_) (fun Zz=>?_))
   ·have YR:k1>0:=(dq).1 Zz
    exact Z0 (ZV ⟨true,p+1,(by first|exact (fun h=>Bool.noConfusion h)|exact fun _=>by omega),ob,rfl,rfl⟩ (wk [1,1,0,0] fl))
   have Xk:¬(k1>0):=Y6 dq Zz
   refine ZL 1 [2] (iL (Z8 []) 0 1 fun v1=>ZT 1 [(22,Z4 [])] (ic [4] (Gj g gb rs [] t) ?_))
   rintro _ _ ⟨w1,rfl,rfl⟩
   exact Z0 (ZV ⟨(!w1),p+1,(by first|exact (fun h=>Bool.noConfusion h)|exact fun _=>by omega),ob,rfl,rfl⟩ (wk [3,3,2,0] fl))
  have XX:¬((xs1.length:Int)>0):=Y6 dq Zb
  exact Z0 (ZV ⟨false,p,(by first|exact (fun h=>Bool.noConfusion h)|exact fun _=>by omega),ob,rfl,rfl⟩ (ZG 4 fl))
 rintro F h ⟨wb,p5,kR2_0,kR2_1,rfl,rfl⟩
 refine ac wb Iff.rfl (fun Za=>?_) (fun Za=>?_)
 ·have hk0:=kR2_0 Za
  refine Y1 3 (iw (Ya xs1) (ic [2] (WG rd bs p5 (xs1.length:Int) (ZO:=ob)) ?_))
  rintro _ _ ⟨k2,rfl,rfl,WA⟩
  have qhp7:=WA.lt om
  obtain ⟨x1,Z3⟩:=Zs xs1 k2.toNat om
  have hxv:=hxs.2 _ (Y0 Z3)
  exact Zp (Zl none k2 1 (ZZ Z3)) (Z2 1 (Zx [] (QJ x1) (ZH 1 b2 (X2 (Z1.mk 12 x1 [])) (ie (ZB (r3 [1,2] [Y8 (Z1.mk 12 x1 [])] [0] [(b2,b2)] ⟨(Z1.mk 12 x1 []),p5+1,rfl,rfl,⟨GE.var hxv om om,by omega⟩⟩ (lr _)))))))
 refine ak (Zv 3 [1] (ic [2,2] (Zap rd bs p5 g gb rs t (ZO:=ob)) ?_))
 rintro _ _ ⟨e1,p21,rfl,rfl,WY⟩
 have hse:=WY.1
 exact ZH 2 b2 (X2 e1) (ie (ZB (r3 [1,1] [Y8 e1] [0] [(b2,b2)] ⟨e1,p21,rfl,rfl,⟨hse.ge om,by omega⟩⟩ (lr _))))
theorem Z9b (rd:Nat) (bs:LI) (p:Nat) (g:Wc) (gb:Nat) (rs:List Func) (vs:LI) (ZO:∀z∈bs,0<=z/\z<=255) (hp:p+1<=1000000000:=by exact ob) (hg:GP g:=by exact ob) (WB:g.funcs <+: rs:=by exact ob) (hv:vs.length<=2000:=by exact ob):Zj 286 [.p rd 0,.agg (WF g gb),Z4 vs] [YE rd bs p,XW gb rs] (fun r h=>∃(z:Int),r=.i z/\h=[.obj rd [Ui bs,.i (p+1:Nat)],XW gb rs]/\0<=z/\z<=4):=by
 have Xz:=hg.decls.ok
 have hgl:=hg.len
 have hdl:=hg.decls.len
 refine ZE 24 Tryz.func286 (ar (iA (WF g gb) fun b1=>Z0 (Y1 1 (iL (Z8 [1,1,3,0,2,4,3]) 7 1 fun v1=>ZT 0 [(9,Z4 [1,1,3,0,2,4,3])] (ic [2] (Uh rd bs p [1,1,3,0,2,4,3] (ZO:=ob)) ?_)))))
 rintro _ _ ⟨z1,rfl,rfl,ZY⟩
 have hz:=BN (a:=0) (b:=4) ZY (by decide)
 refine Z0 (aq (aq (Wj (fun fz gz F h=>∃(wb:Bool),(True)/\F=sF [7] fz [(22,.b wb)]/\h=[Zd gz 0,Zd gz 3]) ?_ ?_)))
 ·refine az (ZL 3 [2] (iw (Uf g.decls) (Z2 2 (ib (b:=(decide (z1>(g.decls.length:Int)))) 16 (fun Zb=>?_) (fun Zb=>?_)))))
  ·exact Z0 (ZV ⟨true,True.intro,rfl,rfl⟩ (wk [0,2] fl))
  refine ZL 3 [2] (ic [3] (Gj g gb rs vs z1) ?_)
  rintro _ _ ⟨w1,rfl,rfl⟩
  exact Z0 (ZV ⟨(!w1),True.intro,rfl,rfl⟩ (wk [1,0] fl))
 rintro F h ⟨wb,kR2_0,rfl,rfl⟩
 refine ac wb Iff.rfl (fun Za=>?_) (fun Za=>?_)
 ·exact ar (Zo (r1 [0,0] ⟨1,rfl,rfl,om⟩))
 exact ak (ar (Zo (r1 [0,0] ⟨z1,rfl,rfl,om⟩)))
theorem Z9e (g:Wc) (gb:Nat) (rs:List Func) (t:Int) (hg:GP g:=by exact ob) (WB:g.funcs <+: rs:=by exact ob):Zj 289 [.agg (WF g gb),.i t] [XW gb rs] (fun r h=>∃(xs:LI),r=Z4 xs/\h=[XW gb rs]/\xs.length<=4/\∀i∈xs,1<=i/\i<g.funcs.length):=by
 have Xz:=hg.decls.ok
 have hgl:=hg.len
 have hdl:=hg.decls.len
 refine ZE 57 Tryz.func289 (ar (iA (WF g gb) fun b1=>Z0 (ar (iL (Z8 []) 0 1 fun v1=>?_))))
 refine Z0 (Ym (ab 0 (Y4 (fun fz gz m F h=>∃(k:Nat) (ys:LI) (u:Value),(1<=k/\k<=g.funcs.length)/\(ys.length<=k)/\(∀i∈ys,1<=i/\i<g.funcs.length)/\F=sF [1,2] fz [(5,ZQ ys u),(6,.i k)]/\h=[Zd gz 1,Zd gz 2,.tail u 1]/\m=g.funcs.length-k) _ _ _ ⟨1,[],v1,ob,ob,(fun i hi=>by cases hi),rfl,rfl,rfl⟩ (wk [1,1,0] (fr (fc (x:=.i 1) li fl))) ?_)))
 rintro m F h ⟨k,ys,u,Ye,Zk,Zw,rfl,rfl,rfl⟩
 refine Yk 3 [0] (io (.i g.funcs.length) (.i g.funcs.length) (lr _) (Y9 ((k:Int)<(g.funcs.length:Int)) (fun Za=>?_) (fun Za=>?_)))
 ·refine ak (aq (ab 1 (Zv 3 [0] ?_)))
  obtain ⟨x1,Z3⟩:=Zs g.funcs k om
  have hso:=(hg.sigs _ (Y0 Z3)).bd
  refine Zp (Ws gb g.funcs.length 4 k 5 (k:Int)) (Z2 1 (V7 (Vx 1 gb 4 4 5 (k*5+1) (Zi (Xw rs)) [.i x1.result] 3 (.i x1.result) (UW WB Z3 1 rfl (Vk rfl))) (Z0 (Ym (ab 2 (Y4 (fun fz gz m F h=>∃(j:Nat) (wo:Bool),(True)/\F=sF [1,2,5,6] fz [(7,.b wo),(8,.i j)]/\h=gz/\m=x1.params.length-j) _ _ _ ⟨0,(x1.result==t),True.intro,rfl,rfl,rfl⟩ (ZG 3 (fr (Yb fl))) ?_))))))
  rintro m F h ⟨j,wo,U7,rfl,rfl,rfl⟩
  refine Yk 4 [0] (Zp (Ws gb g.funcs.length 4 k 5 (k:Int)) (Z2 1 (V7 (Vx 1 gb 4 4 5 (k*5+0) (Zi (Xw rs)) [Z4 x1.params] 31 (Z4 x1.params) (UW WB Z3 0 rfl (Vk rfl))) (iw (Ya x1.params) (Y9 ((j:Int)<(x1.params.length:Int)) (fun Zg=>?_) (fun Zg=>?_))))))
  ·refine ak (aq (ab 3 (aE 16 (Zh 14 16 [0,1] (db (b:=wo) 37 (fun Zb=>?_) (fun Zb=>?_))))))
   ·refine ZI 10 14 [2,4,5,6] [0,0] (dx 7 (Ws gb g.funcs.length 4 k 5 (k:Int)) (Zh 8 9 [8] (Ue 9 (Vx 1 gb 4 4 5 (k*5+0) (Zi (Xw rs)) [Z4 x1.params] 31 (Z4 x1.params) (UW WB Z3 0 rfl (Vk rfl))) (Zh 6 7 [10] ?_))))
    obtain ⟨x2,Zr⟩:=Zs x1.params j om
    refine dx 11 (Zl none (j:Int) 1 (ZZ Zr)) (Zh 4 5 [12] (Z9 3 (dL 3 [1,0,0] [gb,b1,b1] (Z8 []) 0 1 fun v2=>YA 3 3 [] [(39,Z4 [])] (Z9 13 (dc 13 [2] [] [] (Gj g gb rs [] x2) ?_)))))
    rintro _ _ ⟨w1,rfl,rfl⟩
    exact Zh 0 2 [14,15] (de (az (Z2 1 (ZJ j (Z0 (ZK ⟨j+1,w1,True.intro,rfl,rfl,rfl⟩ (wk [2,0,1] (fr (ZM j fl)))))))))
   exact Zh 0 14 [2,3,4,5,6,7,8,9,10,11,12,13,14,15] (de (az (Z2 1 (ZJ j (Z0 (ZK ⟨j+1,false,ob,rfl,rfl,rfl⟩ (ZG 3 (fr (ZM j fl)))))))))
  refine ax 2 (ar (YD wo Iff.rfl (fun ZD=>?_) (fun ZD=>?_)))
  ·exact az (Z2 2 (iL (Z8 [(k:Int)]) 1 1 fun v3=>ZT 0 [(54,Z4 [(k:Int)])] (ip 3 (Z8 (ys++[(k:Int)])) (Z8 ys) (Z8 [(k:Int)]) u none 1 (YL _) (YL _) (Ww _) (by simp<;>omega) (by simp [Wv,Z8]) fun v4=>Z0 (az (Z2 1 (ZJ k (Z0 (ZK ⟨k+1,(ys++[(k:Int)]),v4,ob,ob,(XS Zw om),rfl,rfl,rfl⟩ (wk [2,2,0] (fr (ZM k fl)))))))))))
  exact ak (az (Z2 1 (ZJ k (Z0 (ZK ⟨k+1,ys,u,ob,ob,ob,rfl,rfl,rfl⟩ (ZG 3 (fr (ZM k fl))))))))
 exact ax 0 (ar (Zo (r2 [1] [ZQ ys u] ⟨ys,rfl,rfl,⟨by omega,Zw⟩⟩ (Zc.forget _ _))))
theorem Zag (e:Z1) (left:Int) (hz:e.sz<=1000000:=by exact ob) (hl:0<=left/\left<=1000:=by exact ob) (ih:∀(e2:Z1) (left:Int),(e2.sz<e.sz)->(0<=left/\left<=1000)->Zj 277 [Y8 e2,.i left] [] (fun r h=>∃(w:Int),r=.i w/\h=[]/\NL e2.sz left w)):Zj 277 [Y8 e,.i left] [] (fun r h=>∃(w:Int),r=.i w/\h=[]/\NL e.sz left w):=by
 have hes:=e.sz_eq
 have hel:=P1 (xs:=e.kids)
 refine ZE 27 Tryz.func277 (ar (iA (X2 e) fun b1=>Z0 (X7 (Y9 (left<1) (fun Za=>?_) (fun Za=>?_)))))
 ·exact ar (Zo (r1 [] ⟨(-1),rfl,rfl,(.inr ⟨by omega,rfl⟩)⟩))
 refine ak (Y1 1 (ia ((left-1)) ((left)-(1)) (Z0 (Ym (ab 0 (Y4 (fun fz gz m F h=>∃(k:Nat) (q:Int),(k<=e.kids.length)/\(0<=q/\q+1+XC (e.kids.take k)=left)/\F=sF [2] fz [(1,.i q),(5,.i k)]/\h=gz/\m=e.kids.length-k) _ _ _ ⟨0,(left-1),ob,(by simp [XC];omega),rfl,rfl,rfl⟩ (wk [0] (fr (Yb fl))) ?_))))))
 rintro m F h ⟨k,q,Ye,Zk,rfl,rfl,rfl⟩
 refine Yk 3 [0] (iw (IF e.kids) (Y9 ((k:Int)<(e.kids.length:Int)) (fun Zg=>?_) (fun Zg=>?_)))
 ·refine ak (aq (ab 1 (Zv 3 [0] ?_)))
  obtain ⟨x1,Z3⟩:=Zs e.kids k om
  have hks:=Ck Z3
  have htk:XC (e.kids.take (k+1))=XC (e.kids.take k)+(x1).sz:=by rw [V1 Z3,Eo,XC,XC];rfl
  have htl:XC (e.kids.take (k+1))<=XC e.kids:=by have h:=Yu XC (Tn (k+1) e.kids);rw [Eo] at h;omega
  refine Zp (Zl none (k:Int) 3 (D8 Z3)) (Z2 2 (ic [] (ih x1 q ob ob) ?_))
  rintro _ _ ⟨w1,rfl,rfl,ZY⟩
  have hnl:=ZY
  unfold NL at hnl
  refine Z0 (ar (Y9 (w1<0) (fun ZD=>?_) (fun ZD=>?_)))
  ·exact ar (Zo (r1 [] ⟨(-1),rfl,rfl,(.inr ⟨by omega,rfl⟩)⟩))
  exact ak (az (Z2 1 (ZJ k (Z0 (ZK ⟨k+1,w1,ob,ob,rfl,rfl,rfl⟩ (wk [0] (fr (ZM k fl))))))))
 refine ax 0 (Zy ?_)
 have htk:XC (e.kids.take k)=XC e.kids:=by rw [VA om]
 exact ZB (r1 [] ⟨q,rfl,rfl,(.inl ⟨by omega,by omega⟩)⟩)
theorem Zaf (e:Z1) (left:Int) (hz:e.sz<=1000000:=by exact ob) (hl:0<=left/\left<=1000:=by exact ob):Zj 277 [Y8 e,.i left] [] (fun r h=>∃(w:Int),r=.i w/\h=[]/\NL e.sz left w):=by
 have key:∀k:Nat,∀(e2:Z1) (left:Int),(e2.sz<k)->(e2.sz<=1000000)->(0<=left/\left<=1000)->Zj 277 [Y8 e2,.i left] [] (fun r h=>∃(w:Int),r=.i w/\h=[]/\NL e2.sz left w):=by
  intro k
  induction k with
  | zero=>intro e2 left h;omega
  | succ k ih=>intro e2 left h1 h2 h3;exact Zag e2 left h2 h3 fun e3 l3 q1 q2=>ih e3 l3 om om q2
 exact key (e.sz+1) e left om hz hl
theorem Py (e:Z1) (hz:e.sz<=1000000:=by exact ob):Zj 242 [Y8 e] [] (fun r h=>∃(w:Int),r=.i w/\h=[]/\((w=e.sz/\e.sz<=30)∨(w=-1/\30<e.sz))):=by
 refine ZE 10 Tryz.func242 (ar (iA (X2 e) fun b1=>Z0 (Zv 1 [0] (ic [] (Zaf e 30) ?_))))
 rintro _ _ ⟨w1,rfl,rfl,ZY⟩
 have hnl:=ZY
 unfold NL at hnl
 refine Z0 (X7 (Y9 (w1<0) (fun Za=>?_) (fun Za=>?_)))
 ·exact ar (Zo (r1 [] ⟨(-1),rfl,rfl,ob⟩))
 exact ak (Y1 1 (ia ((30-w1)) ((30)-(w1)) (Zo (r1 [] ⟨(30-w1),rfl,rfl,ob⟩))))
theorem Co (rd:Nat) (bs:LI) (p:Nat) (g:Wc) (gb:Nat) (rs:List Func) (vs:LI) (ts:LI) (b:Nat) (bb:Nat) (ZO:∀z∈bs,0<=z/\z<=255) (hp:p+ts.length*bC (b / ts.length)<=1000000000:=by exact ob) (hg:GP g:=by exact ob) (WB:g.funcs <+: rs:=by exact ob) (hv:vs.length+3*bb<=900:=by exact ob) (ht:ts.length<=3:=by exact ob) (hb:b<bb/\bb<=1000:=by exact ob) (ih:∀(rd:Nat) (bs:LI) (p:Nat) (vs2:LI) (t2:Int) (b2:Nat),(∀z∈bs,0<=z/\z<=255)->(p+bC b2<=1000000000)->(vs2.length+3*b2<=900)->(b2<bb)->Zj 272 [.p rd 0,.agg (WF g gb),Z4 vs2,.i t2,.i b2] [YE rd bs p,XW gb rs] (fun r h=>∃(e:Z1) (p2:Nat),r=Y8 e/\h=[YE rd bs p2,XW gb rs]/\GE g vs2.length (bS b2) e/\p<=p2/\p2<=p+bC b2)):Zj 287 [.p rd 0,.agg (WF g gb),Z4 vs,Z4 ts,.i b] [YE rd bs p,XW gb rs] (fun r h=>∃(ys:List Z1) (p2:Nat),r=XE ys/\h=[YE rd bs p2,XW gb rs]/\ys.length=ts.length/\(∀e∈ys,GE g vs.length (bS (b / ts.length)) e)/\p<=p2/\p2<=p+ts.length*bC (b / ts.length)):=by
 have hqb:=Nat.div_le_self b ts.length
 refine ZE 36 Tryz.func287 (ar (iA (WF g gb) fun b1=>Z0 (ar (iL (Yt []) 0 3 fun v1=>?_))))
 refine Z0 (Ym (ab 0 (Y4 (fun fz gz m F h=>∃(k:Nat) (ys:List Z1) (u:Value) (pq:Nat),(k<=ts.length)/\(ys.length=k)/\(∀e∈ys,GE g vs.length (bS (b / ts.length)) e)/\(p<=pq/\pq<=p+k*bC (b / ts.length))/\F=sF [0,2,3,4,6] fz [(11,K9 ys u),(12,.i k)]/\h=[Zd gz 1,YE rd bs pq,Zd gz 3,.tail u 3]/\m=ts.length-k) _ _ _ ⟨0,[],v1,p,ob,ob,(fun e he=>by cases he),(by simp),rfl,rfl,rfl⟩ (wk [1,1,1,0] (fr (Yb fl))) ?_)))
 rintro m F h ⟨k,ys,u,pq,Ye,Zk,Zw,Yy,rfl,rfl,rfl⟩
 refine YP 2 (iw (Ya ts) (Y9 ((k:Int)<(ts.length:Int)) (fun Za=>?_) (fun Za=>?_)))
 ·obtain ⟨hm1,hm2⟩:=S4 (k:=k) (L:=ts.length) (C:=bC (b / ts.length)) om
  refine ak (aq (ab 1 (aE 16 (ZI 10 16 [0,1,2,3,4,5] [0] ?_))))
  obtain ⟨x1,Z3⟩:=Zs ts k om
  refine dx 6 (Zl none (k:Int) 1 (ZZ Z3)) (Zh 6 9 [7,8,9] (dw 10 (Ya ts) (dx 11 (Cv b ts.length om om) (Z9 12 (dc 12 [1,1] [] [] (ih rd bs pq vs x1 (b / ts.length) ob ob ob ob) ?_)))))
  rintro _ _ ⟨e1,p21,rfl,rfl,ZY⟩
  have Xo:=ZY.1
  exact Z9 13 (WP 13 [] [] [Y8 e1] (Yt [e1]) (XV [e1]).symm 1 3 fun v2=>YA 2 2 [] [(33,XE [e1])] (Z9 14 (dp 14 4 [] [] (Yt (ys++[e1])) (Yt ys) (Yt [e1]) u none 3 (Tx _) (Tx _) (Aq _) (by simp<;>omega) (by simp [Ap,Yt]) fun v3=>Zh 0 1 [15] (de (az (Z2 1 (ZJ k (Z0 (ZK ⟨k+1,(ys++[e1]),v3,p21,ob,ob,(XS Zw (by assumption)),om,rfl,rfl,rfl⟩ (wk [4,2,2,0] (fr (ZM k fl))))))))))))
 have hke:k=ts.length:=by omega
 subst hke
 exact ax 0 (ar (Zo (r2 [1,1] [K9 ys u] ⟨ys,pq,rfl,rfl,⟨by omega,Zw,by omega⟩⟩ (Zc.forget _ _))))
theorem Z9t (rd:Nat) (bs:LI) (p:Nat) (g:Wc) (gb:Nat) (rs:List Func) (vs:LI) (t:Int) (b:Nat) (ZO:∀z∈bs,0<=z/\z<=255) (hp:p+(bC b-1)<=1000000000:=by exact ob) (hg:GP g:=by exact ob) (WB:g.funcs <+: rs:=by exact ob) (hv:vs.length+3*b<=900:=by exact ob) (hb:3<=b:=by exact ob) (ih:∀(rd:Nat) (bs:LI) (p:Nat) (vs2:LI) (t2:Int) (b2:Nat),(∀z∈bs,0<=z/\z<=255)->(p+bC b2<=1000000000)->(vs2.length+3*b2<=900)->(b2<b)->Zj 272 [.p rd 0,.agg (WF g gb),Z4 vs2,.i t2,.i b2] [YE rd bs p,XW gb rs] (fun r h=>∃(e:Z1) (p2:Nat),r=Y8 e/\h=[YE rd bs p2,XW gb rs]/\GE g vs2.length (bS b2) e/\p<=p2/\p2<=p+bC b2)):Zj 288 [.p rd 0,.agg (WF g gb),Z4 vs,.i t,.i b] [YE rd bs p,XW gb rs] (fun r h=>∃(e:Z1) (p2:Nat),r=Y8 e/\h=[YE rd bs p2,XW gb rs]/\GE g vs.length (bS b) e/\p<=p2/\p2<=p+(bC b-1)):=by
 have Xz:=hg.decls.ok
 have hgl:=hg.len
 have hdl:=hg.decls.len
 have hcm:=NJ b
 refine ZE 69 Tryz.func288 (ar (iA (WF g gb) fun b1=>iA [.i 0,.i 0,nl] fun b2=>ie (Y1 1 (iL (Z8 [1,1,3,4]) 4 1 fun v1=>ZT 0 [(16,Z4 [1,1,3,4])] (ic [3] (Uh rd bs p [1,1,3,4] (ZO:=ob)) ?_)))))
 rintro _ _ ⟨z1,rfl,rfl,ZY⟩
 have hz:=BN (a:=1) (b:=4) ZY (by decide)
 refine Z0 (Yk 3 [3] (iw (Uf g.decls) (Xv [0,2,3,4,6,10,11] [(28,.b ((decide (z1>(g.decls.length:Int)))||XT g.decls z1))] (fun gz=>gz) ?_ ?_)))
 ·refine Z2 2 (ib (b:=(decide (z1>(g.decls.length:Int)))) 23 (fun Zb=>?_) (fun Zb=>?_))
  ·exact Z0 (ZG 5 (Zt true Zb fl))
  exact ZL 3 [3] (Zx [] (Fg g.decls z1) (Z0 (ZG 5 (Zt (XT g.decls z1) Zb fl))))
 refine Wj (fun fz gz F h=>∃(d:Int),(1<=d/\d<=4)/\F=sF [0,2,3,4,6,10] fz [(11,.i d)]/\h=[Zd gz 0,Zd gz 2,Zd gz 3,Zd gz 4]) ?_ ?_
 ·refine ac ((decide (z1>(g.decls.length:Int)))||XT g.decls z1) (p:=(z1>(g.decls.length:Int))∨(XT g.decls z1=true)) (Yh dq Iff.rfl) (fun Za=>?_) (fun Za=>?_)
  ·exact UY (ZV ⟨1,om,rfl,rfl⟩ (wk [0,1,1,1] fl))
  exact ak (ZV ⟨z1,om,rfl,rfl⟩ (wk [0,1,1,1] fl))
 rintro F h ⟨d,B8,rfl,rfl⟩
 have hcl:=M3 Xz d
 have hmc:=Zel (L:=(ZW g.decls d).length) (q:=((b-2) / (ZW g.decls d).length)) (b:=b) om hb (QF _ _)
 have hqb:=Nat.div_le_self (b-2) (ZW g.decls d).length
 refine Zv 3 [2] (ic [] (Bf g.decls d) ?_)
 rintro _ _ ⟨v2,rfl,rfl⟩
 refine Z0 (Zv 4 [3] (ic [1,3] (Dh rd bs (p+1) g gb rs vs d (ZO:=ob)) ?_))
 rintro _ _ ⟨e1,p21,rfl,rfl,YR⟩
 have hle:=YR.1
 refine TC [Y8 e1] (Yt [e1]) (XV [e1]).symm 1 3 fun v3=>?_
 refine Z0 (Ym (ab 0 (Y4 (fun fz gz m F h=>∃(k:Nat) (ys:List Z1) (u:Value) (pq:Nat),(k<=(ZW g.decls d).length)/\(ys.length=k)/\(Kr g.decls g.funcs.length (QA g.decls 8 d vs.length) 1 ys)/\(∀e∈ys,e.sz<=bS ((b-2) / (ZW g.decls d).length))/\(p<=pq/\pq<=p+31+k*bC ((b-2) / (ZW g.decls d).length))/\F=sF [0,2,3,4,6,10,11] fz [(12,Z4 (ZW g.decls d)),(13,K9 (e1::ys) u),(14,.i k)]/\h=[YE rd bs pq,Zd gz 2,Zd gz 4,Zd gz 5,.tail u 3]/\m=(ZW g.decls d).length-k) _ _ _ ⟨0,[],v3,p21,ob,rfl,True.intro,(fun e he=>by cases he),(by simp only [Nat.zero_mul];omega),rfl,rfl,rfl⟩ (wk [1,1,2,2,0] (fc (x:=ZQ (ZW g.decls d) v2) (Zc.forget _ _) (fc (x:=K9 [e1] v3) (Zc.slh _ (Yu Yt rfl)) (Yb fl)))) ?_)))
 rintro m F h ⟨k,ys,u,pq,Ye,Zk,Zw,Yy,XU,rfl,rfl,rfl⟩
 refine YP 2 (io (.i (((ZW g.decls d).length:Nat):Int)) (.i (((Z8 (ZW g.decls d)).length:Nat):Int)) (li (by rw [Ya])) (Y9 ((k:Int)<(((ZW g.decls d).length:Nat):Int)) (fun Zg=>?_) (fun Zg=>?_)))
 ·refine ak (aq (ab 1 (aE 22 (ZI 14 22 [0,1,2,3,4,5,6,7] [3,3] ?_))))
  obtain ⟨x1,Z3⟩:=Zs (ZW g.decls d) k om
  have hcf:=Uu Xz x1
  have harm:=DG (m:=vs.length) Z3
  obtain ⟨hm1,hm2⟩:=S4 (k:=k) (L:=(ZW g.decls d).length) (C:=bC ((b-2) / (ZW g.decls d).length)) om
  refine dx 8 (Zl none (k:Int) 1 (ZZ Z3)) (Zh 10 13 [9,12,13] (da 14 (((b-2:Nat):Int)) (((b:Int))-(2)) (Zh 8 9 [15] (dn 16 (.i (((ZW g.decls d).length:Nat):Int)) (.i (((Z8 (ZW g.decls d)).length:Nat):Int)) (li (by rw [Ya])) (dx 17 (Cv (b-2) ((ZW g.decls d).length) om om) (Z9 10 (Yz 10 [] [3] [b1] (JD g.decls x1) (Z9 11 (dc 11 [] [3] [b1] (KG vs (ZX g.decls x1)) ?_)))))))))
  rintro _ _ ⟨v4,rfl,rfl⟩
  refine YA 4 4 [] [(56,Z4 (vs++(ZX g.decls x1)))] (Z9 18 (dc 18 [1,1] [] [] (ih rd bs pq (vs++(ZX g.decls x1)) t ((b-2) / ((ZW g.decls d).length)) ob ob (by simp only [Ys];omega) ob) ?_))
  rintro _ _ ⟨e2,p22,rfl,rfl,Xk⟩
  have Xo:=Xk.1
  exact Z9 19 (WP 19 [] [] [Y8 e2] (Yt [e2]) (XV [e2]).symm 1 3 fun v5=>YA 2 2 [] [(64,XE [e2])] (Z9 20 (dp 20 6 [] [] (Yt ((e1::ys)++[e2])) (Yt (e1::ys)) (Yt [e2]) u none 3 (Tx _) (Tx _) (Aq _) (by simp<;>omega) (by simp [Ap,Yt]) fun v6=>Zh 0 1 [21] (de (az (Z2 1 (ZJ k (Z0 (ZK ⟨k+1,(ys++[e2]),v6,p22,ob,ob,(OU.2 ⟨Zw,by rw [Zk,harm,<-Ys];exact Xo.1,True.intro⟩),(XS Yy Xo.2),om,rfl,rfl,rfl⟩ (wk [2,2,3,3,0] (fr (fc (x:=K9 ((e1::ys)++[e2]) v6) (Zc.slh _ (Yu Yt rfl)) (ZM k fl)))))))))))))
 refine ax 0 (ar (ZT 2 [(67,XE (e1::ys))] (Zx [] (XZ 8 d (e1::ys)) (ZH 2 b2 (X2 (Z1.mk 8 d (e1::ys))) (ie ?_)))))
 have hke:k=(ZW g.decls d).length:=by omega
 subst hke
 exact ZB (r3 [1,1] [Y8 (Z1.mk 8 d (e1::ys))] [0] [(b2,b2)] ⟨(Z1.mk 8 d (e1::ys)),pq,rfl,rfl,⟨GE.match_ om hle Zw Yy Zk rfl om (Zem om hb (QF _ _)),by omega⟩⟩ (lr _))
theorem Pt (rd:Nat) (bs:LI) (p:Nat) (g:Wc) (gb:Nat) (rs:List Func) (vs:LI) (t:Int) (b:Nat) (ZO:∀z∈bs,0<=z/\z<=255) (hp:p+(bC b-1)<=1000000000:=by exact ob) (hg:GP g:=by exact ob) (WB:g.funcs <+: rs:=by exact ob) (hv:vs.length+3*b<=900:=by exact ob) (hb:3<=b:=by exact ob) (ih:∀(rd:Nat) (bs:LI) (p:Nat) (vs2:LI) (t2:Int) (b2:Nat),(∀z∈bs,0<=z/\z<=255)->(p+bC b2<=1000000000)->(vs2.length+3*b2<=900)->(b2<b)->Zj 272 [.p rd 0,.agg (WF g gb),Z4 vs2,.i t2,.i b2] [YE rd bs p,XW gb rs] (fun r h=>∃(e:Z1) (p2:Nat),r=Y8 e/\h=[YE rd bs p2,XW gb rs]/\GE g vs2.length (bS b2) e/\p<=p2/\p2<=p+bC b2)):Zj 290 [.p rd 0,.agg (WF g gb),Z4 vs,.i t,.i b] [YE rd bs p,XW gb rs] (fun r h=>∃(e:Z1) (p2:Nat),r=Y8 e/\h=[YE rd bs p2,XW gb rs]/\GE g vs.length (bS b) e/\p<=p2/\p2<=p+(bC b-1)):=by
 have Xz:=hg.decls.ok
 have hgl:=hg.len
 have hdl:=hg.decls.len
 have hac:=Z42 hb
 have has:=Z43 hb
 refine ZE 120 Tryz.func290 (ar (iA (WF g gb) fun b1=>iA [.i 0,.i 0,nl] fun b2=>ie (YP 1 (ic [2] (WG rd bs p 4 (ZO:=ob)) ?_))))
 rintro _ _ ⟨k1,rfl,rfl,ZY⟩
 have qhp1:=ZY.lt om
 refine Z0 (Wj (fun fz gz F h=>∃(p5:Nat),(p<=p5/\p5<=p+1)/\F=sF [0,2,3,4,6,10] fz []/\h=[YE rd bs p5,Zd gz 1,Zd gz 2,Zd gz 3]) ?_ ?_)
 ·refine ac (k1==0) Zq (fun Za=>?_) (fun Za=>?_)
  ·refine Zy (ab 0 (Y4 (fun fz gz m F h=>∃(a:Nat),(1<=a/\a<=g.decls.length+1)/\F=sF [0,2,3,4,6,10] fz [(11,.i a)]/\h=gz/\m=g.decls.length+1-a) _ _ _ ⟨1,ob,rfl,rfl,rfl⟩ (ZG 4 (fc (x:=.i 1) li fl)) ?_))
   rintro m F h ⟨a,Ye,rfl,rfl,rfl⟩
   refine Yk 3 [2] (iw (Uf g.decls) (Y9 ((a:Int)<=(g.decls.length:Int)) (fun Zg=>?_) (fun Zg=>?_)))
   ·refine ak (aq (ab 1 (aq (Wj (fun fz gz F h=>∃(wb:Bool),(True)/\F=sF [0,2,3,4,6,10,11] fz [(44,.b wb)]/\h=gz) ?_ ?_))))
    ·refine az (ZL 3 [2] (Zx [] (Fg g.decls (a:Int)) (Z2 1 (ib (b:=XT g.decls (a:Int)) 28 (fun Zb=>?_) (fun Zb=>?_)))))
     ·refine ZL 3 [2] (ia (((a-1:Nat):Int)) (((a:Int))-(1)) ?_)
      obtain ⟨x1,Z3⟩:=Zs g.decls (a-1) om
      refine Zp (Zl none ((a-1:Nat):Int) 3 (WQ Z3)) (Z2 6 (ib (b:=(x1.to_==t)) 39 (fun Zz=>?_) (fun Zz=>?_)))
      ·refine ZL 3 [2] (ic [3] (Gj g gb rs vs (a:Int)) ?_)
       rintro _ _ ⟨w1,rfl,rfl⟩
       exact Z0 (ZV ⟨w1,True.intro,rfl,rfl⟩ (wk [1,1,1,0] fl))
      exact Z0 (ZV ⟨false,True.intro,rfl,rfl⟩ (ZG 4 fl))
     exact Z0 (ZV ⟨false,True.intro,rfl,rfl⟩ (ZG 4 fl))
    rintro F h ⟨wb,kR5_0,rfl,rfl⟩
    refine ac wb Iff.rfl (fun ZD=>?_) (fun ZD=>?_)
    ·refine aD 21 (ZI 11 21 [0,1,2,3,5,6,7,8,9,10] [2,2,2] (da 11 (((a-1:Nat):Int)) (((a:Int))-(1)) ?_))
     obtain ⟨x2,Zr⟩:=Zs g.decls (a-1) om
     refine dx 12 (Zl none ((a-1:Nat):Int) 3 (WQ Zr)) (Zh 6 9 [13,14,15] (da 16 (((b-2:Nat):Int)) (((b:Int))-(2)) (Z9 4 (dc 4 [0,2] [1,1] [b1,b1] (Dh rd bs (p+1) g gb rs vs (a:Int) (ZO:=ob)) ?_))))
     rintro _ _ ⟨e1,p21,rfl,rfl,XX⟩
     have hle:=XX.1
     refine Z9 17 (dc 17 [0,0] [] [] (ih rd bs p21 vs x2.frm (b-2) ob ob ob ob) ?_)
     rintro _ _ ⟨e2,p22,rfl,rfl,WA⟩
     have Xo:=WA.1
     exact Z9 18 (WP 18 [] [] [Y8 e1,Y8 e2] (Yt [e1,e2]) (XV [e1,e2]).symm 2 3 fun v1=>YA 2 2 [] [(63,XE [e1,e2])] (Z9 19 (Yz 19 [] [] [] (XZ 11 0 [e1,e2]) (Z9 20 (YO 20 3 [] [] b2 (X2 (Z1.mk 11 0 [e1,e2])) (de (ZB (r3 [2,2] [Y8 (Z1.mk 11 0 [e1,e2])] [0] [(b2,b2)] ⟨(Z1.mk 11 0 [e1,e2]),p22,rfl,rfl,⟨GE.two om om hle Xo om,by omega⟩⟩ (lr _)))))))))
    exact ak (az (Z2 1 (ZJ a (Z0 (ZK ⟨a+1,ob,rfl,rfl,rfl⟩ (ZG 4 (ZM a fl)))))))
   exact ax 0 (ZV ⟨p+1,ob,rfl,rfl⟩ (ZG 4 fl))
  exact ak (ZV ⟨p+1,ob,rfl,rfl⟩ (ZG 4 fl))
 rintro F h ⟨p5,B8,rfl,rfl⟩
 refine Zv 3 [2] (ic [] (Bf g.decls t) ?_)
 rintro _ _ ⟨v2,rfl,rfl⟩
 refine Z0 (YP 1 (io (.i (((ZW g.decls t).length:Nat):Int)) (.i (((Z8 (ZW g.decls t)).length:Nat):Int)) (li (by rw [Ya])) (Y9 ((((ZW g.decls t).length:Nat):Int)>0) (fun Yj=>?_) (fun Yj=>?_))))
 ·refine Y1 3 (io (.i (((ZW g.decls t).length:Nat):Int)) (.i (((Z8 (ZW g.decls t)).length:Nat):Int)) (li (by rw [Ya])) (ic [1] (WG rd bs p5 (((ZW g.decls t).length:Nat):Int) (ZO:=ob)) ?_))
  rintro _ _ ⟨k2,rfl,rfl,WY⟩
  have qhp8:=WY.lt om
  obtain ⟨x3,YG⟩:=Zs (ZW g.decls t) k2.toNat om
  have hcc:=hg.decls.cons_cases (Y0 YG)
  refine Zp (Zl (some v2) k2 1 (ZZ YG)) (Z0 (aD 13 (ZI 5 13 [0,1,2,3,4,5,6,8] [3,3] (da 9 (((b-1:Nat):Int)) (((b:Int))-(1)) (Z9 7 (Yz 7 [] [2] [b1] (JD g.decls x3) (Z9 10 (dc 10 [0,3] [] [] (Co rd bs (p5+1) g gb rs vs (ZX g.decls x3) (b-1) b (ZO:=ob) (hp:=(Cx (p:=p) (by first|omega|simp) hb om om)) (ht:=(by first|omega|simp)) (hb:=om) (ih:=ih)) ?_))))))))
  rintro _ _ ⟨ys1,p23,rfl,rfl,Vr⟩
  have hga1:=Vr.1
  have hga2:=Vr.2.1
  have hga3:=Vr.2.2
  have hnc:=Bc (b:=b) (show (ys1).length<=3 by rw [hga1];first|omega|simp) hb (QF _ (b-1))
  rw [hga1] at hnc
  exact Z9 11 (Yz 11 [] [] [] (XZ 6 x3 ys1) (Z9 12 (YO 12 3 [] [] b2 (X2 (Z1.mk 6 x3 ys1)) (de (ZB (r3 [1,1] [Y8 (Z1.mk 6 x3 ys1)] [0] [(b2,b2)] ⟨(Z1.mk 6 x3 ys1),p23,rfl,rfl,⟨GE.node om (fun h=>by omega) om hga2 hga1 (by first|omega|simp) (EL (by first|omega|simp) hb (QF _ _)),by omega⟩⟩ (lr _)))))))
 refine ak (X7 (Y9 (t>0) (fun Xh=>?_) (fun Xh=>?_)))
 ·refine Zv 4 [3] (ic [1,3] (Dh rd bs p5 g gb rs vs t (ZO:=ob)) ?_)
  rintro _ _ ⟨e3,p24,rfl,rfl,UH⟩
  have hle:=UH.1
  exact ZH 3 b2 (X2 e3) (ie (ZB (r3 [1,1] [Y8 e3] [0] [(b2,b2)] ⟨e3,p24,rfl,rfl,⟨hle.le (NK b),by omega⟩⟩ (lr _))))
 refine ak (YP 1 (ic [1] (WG rd bs p5 3 (ZO:=ob)) ?_))
 rintro _ _ ⟨k3,rfl,rfl,T0⟩
 have qhp11:=T0.lt om
 refine YD (k3==0) Zq (fun Xl=>?_) (fun Xl=>?_)
 ·refine Zv 3 [3] (iL (Z8 [0]) 1 1 fun v3=>Z2 1 (ia (((b-1:Nat):Int)) (((b:Int))-(1)) (ZT 0 [(104,Z4 [0])] (ic [1,4] (Co rd bs (p5+1) g gb rs vs [0] (b-1) b (ZO:=ob) (hp:=(Cx (p:=p) (by first|omega|simp) hb om om)) (ht:=(by first|omega|simp)) (hb:=om) (ih:=ih)) ?_))))
  rintro _ _ ⟨ys2,p25,rfl,rfl,T1⟩
  have hga1:=T1.1
  have hga2:=T1.2.1
  have hga3:=T1.2.2
  have hnc:=Bc (b:=b) (show (ys2).length<=3 by rw [hga1];first|omega|simp) hb (QF _ (b-1))
  rw [hga1] at hnc
  exact Zx [] (XZ 5 0 ys2) (ZH 4 b2 (X2 (Z1.mk 5 0 ys2)) (ie (ZB (r3 [1,1] [Y8 (Z1.mk 5 0 ys2)] [0] [(b2,b2)] ⟨(Z1.mk 5 0 ys2),p25,rfl,rfl,⟨GE.node om (fun h=>by omega) om hga2 hga1 (by first|omega|simp) (EL (by first|omega|simp) hb (QF _ _)),by omega⟩⟩ (lr _)))))
 refine ak (aD 12 (ZI 7 12 [0,3,4,5,7] [3] (da 8 (((b-1:Nat):Int)) (((b:Int))-(1)) (Jo (fun fz gz F h=>∃(z1:Int) (ys3:List Z1) (p26:Nat),(z1∈[1,2,3,4])/\(ys3.length=[0,0].length/\(∀e∈ys3,GE g vs.length (bS ((b-1) / [0,0].length)) e)/\((p5+1)+1)<=p26/\p26<=((p5+1)+1)+[0,0].length*bC ((b-1) / [0,0].length))/\F=sF [10] fz []/\h=[.obj b2 (X2 (Z1.mk z1 0 ys3)),YE rd bs p26,Zd gz 4,Zd gz 1,Zd gz 3]) ?_ ?_))))
 ·refine VJ 1 6 ?_ ?_
  ·refine dL 1 [2] [b1] (Z8 [1,2,3,4]) 4 1 fun v4=>YA 5 5 [] [(110,Z4 [1,2,3,4])] (VJ 2 6 ?_ ?_)
   ·refine dc 2 [1] [1] [b1] (Uh rd bs (p5+1) [1,2,3,4] (ZO:=ob)) ?_
    rintro _ _ ⟨z1,rfl,rfl,QQ⟩
    have hz:=BN (a:=1) (b:=4) QQ (by decide)
    refine Z9 6 (dL 6 [2] [b1] (Z8 [0,0]) 2 1 fun v5=>YA 3 3 [] [(115,Z4 [0,0])] (Z9 9 (dc 9 [1,5] [] [] (Co rd bs ((p5+1)+1) g gb rs vs [0,0] (b-1) b (ZO:=ob) (hp:=(Cx (p:=p) (by first|omega|simp) hb om om)) (ht:=(by first|omega|simp)) (hb:=om) (ih:=ih)) ?_)))
    rintro _ _ ⟨ys3,p26,rfl,rfl,Qv⟩
    have hga1:=Qv.1
    have hga2:=Qv.2.1
    have hga3:=Qv.2.2
    have hnc:=Bc (b:=b) (show (ys3).length<=3 by rw [hga1];first|omega|simp) hb (QF _ (b-1))
    rw [hga1] at hnc
    exact Z9 10 (Yz 10 [] [] [] (XZ z1 0 ys3) (Z9 11 (YO 11 5 [] [] b2 (X2 (Z1.mk z1 0 ys3)) (de (ZV ⟨z1,ys3,p26,(by assumption),(by assumption),rfl,rfl⟩ (wk [0,0,0,2,2] fl))))))
   refine dL 6 [2] [b1] (Z8 [0,0]) 2 1 fun v6=>Z9 2 (dc 2 [2] [1] [b1] (Uh rd bs (p5+1) [1,2,3,4] (ZO:=ob)) ?_)
   rintro _ _ ⟨z2,rfl,rfl,J2⟩
   have hz:=BN (a:=1) (b:=4) J2 (by decide)
   refine YA 3 3 [] [(115,Z4 [0,0])] (Z9 9 (dc 9 [0,5] [] [] (Co rd bs ((p5+1)+1) g gb rs vs [0,0] (b-1) b (ZO:=ob) (hp:=(Cx (p:=p) (by first|omega|simp) hb om om)) (ht:=(by first|omega|simp)) (hb:=om) (ih:=ih)) ?_))
   rintro _ _ ⟨ys4,p27,rfl,rfl,Kw⟩
   have hga1:=Kw.1
   have hga2:=Kw.2.1
   have hga3:=Kw.2.2
   have hnc:=Bc (b:=b) (show (ys4).length<=3 by rw [hga1];first|omega|simp) hb (QF _ (b-1))
   rw [hga1] at hnc
   exact Z9 10 (Yz 10 [] [] [] (XZ z2 0 ys4) (Z9 11 (YO 11 5 [] [] b2 (X2 (Z1.mk z2 0 ys4)) (de (ZV ⟨z2,ys4,p27,(by assumption),(by assumption),rfl,rfl⟩ (wk [0,0,0,2,2] fl))))))
  refine dL 6 [2] [b1] (Z8 [0,0]) 2 1 fun v7=>Z9 1 (dL 1 [2] [b1] (Z8 [1,2,3,4]) 4 1 fun v8=>YA 4 4 [] [(110,Z4 [1,2,3,4])] (Z9 2 (dc 2 [2] [1] [b1] (Uh rd bs (p5+1) [1,2,3,4] (ZO:=ob)) ?_)))
  rintro _ _ ⟨z3,rfl,rfl,B6⟩
  have hz:=BN (a:=1) (b:=4) B6 (by decide)
  refine YA 3 3 [] [(115,Z4 [0,0])] (Z9 9 (dc 9 [0,5] [] [] (Co rd bs ((p5+1)+1) g gb rs vs [0,0] (b-1) b (ZO:=ob) (hp:=(Cx (p:=p) (by first|omega|simp) hb om om)) (ht:=(by first|omega|simp)) (hb:=om) (ih:=ih)) ?_))
  rintro _ _ ⟨ys5,p28,rfl,rfl,A6⟩
  have hga1:=A6.1
  have hga2:=A6.2.1
  have hga3:=A6.2.2
  have hnc:=Bc (b:=b) (show (ys5).length<=3 by rw [hga1];first|omega|simp) hb (QF _ (b-1))
  rw [hga1] at hnc
  exact Z9 10 (Yz 10 [] [] [] (XZ z3 0 ys5) (Z9 11 (YO 11 5 [] [] b2 (X2 (Z1.mk z3 0 ys5)) (de (ZV ⟨z3,ys5,p28,(by assumption),(by assumption),rfl,rfl⟩ (wk [0,0,0,2,2] fl))))))
 rintro F h ⟨z1,ys3,p26,QQ,Qv,rfl,rfl⟩
 have hz:=BN (a:=1) (b:=4) QQ (by decide)
 have hga1:=Qv.1
 have hga2:=Qv.2.1
 have hga3:=Qv.2.2
 have hnc:=Bc (b:=b) (show (ys3).length<=3 by rw [hga1];first|omega|simp) hb (QF _ (b-1))
 rw [hga1] at hnc
 exact ZB (r3 [1,1] [Y8 (Z1.mk z1 0 ys3)] [0] [(b2,b2)] ⟨(Z1.mk z1 0 ys3),p26,rfl,rfl,⟨GE.node om (fun h=>by omega) om hga2 hga1 (by first|omega|simp) (EL (by first|omega|simp) hb (QF _ _)),by omega⟩⟩ (lr _))
theorem Z9u (rd:Nat) (bs:LI) (p:Nat) (g:Wc) (gb:Nat) (rs:List Func) (vs:LI) (t:Int) (b:Nat) (ZO:∀z∈bs,0<=z/\z<=255) (hp:p+bC b<=1000000000) (hg:GP g) (WB:g.funcs <+: rs) (hv:vs.length+3*b<=900) (ih:∀(rd:Nat) (bs:LI) (p:Nat) (vs2:LI) (t2:Int) (b2:Nat),(∀z∈bs,0<=z/\z<=255)->(p+bC b2<=1000000000)->(vs2.length+3*b2<=900)->(b2<b)->Zj 272 [.p rd 0,.agg (WF g gb),Z4 vs2,.i t2,.i b2] [YE rd bs p,XW gb rs] (fun r h=>∃(e:Z1) (p2:Nat),r=Y8 e/\h=[YE rd bs p2,XW gb rs]/\GE g vs2.length (bS b2) e/\p<=p2/\p2<=p+bC b2)):Zj 272 [.p rd 0,.agg (WF g gb),Z4 vs,.i t,.i b] [YE rd bs p,XW gb rs] (fun r h=>∃(e:Z1) (p2:Nat),r=Y8 e/\h=[YE rd bs p2,XW gb rs]/\GE g vs.length (bS b) e/\p<=p2/\p2<=p+bC b):=by
 have Xz:=hg.decls.ok
 have hgl:=hg.len
 have hdl:=hg.decls.len
 have hbm:=NK b
 have hcm:=NJ b
 refine ZE 114 Tryz.func272 (ar (iA (WF g gb) fun b1=>iA [.i 0,.i 0,nl] fun b2=>ie (X7 (Y9 ((b:Int)<3) (fun Za=>?_) (fun Za=>?_)))))
 ·refine Zv 4 [1] (ic [2,2] (Dh rd bs p g gb rs vs t (ZO:=ob)) ?_)
  rintro _ _ ⟨e1,p21,rfl,rfl,ZY⟩
  have hle:=ZY.1
  exact ZH 2 b2 (X2 e1) (ie (ZB (r3 [1,1] [Y8 e1] [0] [(b2,b2)] ⟨e1,p21,rfl,rfl,⟨hle.le hbm,by omega⟩⟩ (lr _))))
 have hb:3<=b:=by omega
 have hlc:=Zea hb
 have hls:=Zeb hb
 refine ak (YP 1 (ic [2] (WG rd bs p 12 (ZO:=ob)) ?_))
 rintro _ _ ⟨k1,rfl,rfl,Yi⟩
 have qhp2:=Yi.lt om
 refine ie (ab 0 (ar (YD (k1==0) Zq (fun Zg=>?_) (fun Zg=>?_))))
 ·refine Zv 4 [2] (ic [0,2] (Dh rd bs (p+1) g gb rs vs t (ZO:=ob)) ?_)
  rintro _ _ ⟨e2,p22,rfl,rfl,YJ⟩
  have hle:=YJ.1
  exact ZH 2 b2 (X2 e2) (ie (ZB (r3 [1,1] [Y8 e2] [0] [(b2,b2)] ⟨e2,p22,rfl,rfl,⟨hle.le hbm,by omega⟩⟩ (lr _))))
 refine Ym (Wj (fun fz gz F h=>F=sF [0,2,3,4,6,10,22] fz [(30,.b ((k1==1)||(k1==2)))]/\h=gz) ?_ ?_)
 ·refine ac (k1==1) Zq (fun ZD=>?_) (fun ZD=>?_)
  ·exact ak (ZV ⟨rfl,rfl⟩ (ZG 4 (fc (x:=.b (k1==1)) (lb (by first|rfl|(rw [Ze ZD])|(rw [Z7 ZD])|(simp [ZD];done)|(rw [XH];simp [ZD];done)|omega)) fl)))
  exact UY (ZV ⟨rfl,rfl⟩ (ZG 4 (fc (x:=.b (k1==2)) (lb (by first|rfl|(rw [Ze ZD])|(rw [Z7 ZD])|(simp [ZD];done)|(rw [XH];simp [ZD];done)|omega)) fl)))
 rintro F h ⟨rfl,rfl⟩
 refine ac ((k1==1)||(k1==2)) (p:=(k1=1)∨(k1=2)) (Yh Zq Zq) (fun Yj=>?_) (fun Yj=>?_)
 ·refine Zv 3 [2] (ic [0,2] (Z9b rd bs (p+1) g gb rs vs (ZO:=ob)) ?_)
  rintro _ _ ⟨z1,rfl,rfl,YR⟩
  refine Z0 (aD 20 (ZI 15 20 [0,1,2,3,4] [3] (dx 5 (Cv b 2 om om) (ZI 8 14 [7,8,9,10,13,14] [3] (dx 15 (Cv b 2 om om) (Jo (fun fz gz F h=>∃(e3:Z1) (e4:Z1) (p24:Nat) (p23:Nat),(GE g vs.length (bS (b / 2)) e3/\((p+1)+1)<=p23/\p23<=((p+1)+1)+bC (b / 2))/\(GE g (vs++[z1]).length (bS (b / 2)) e4/\p23<=p24/\p24<=p23+bC (b / 2))/\F=sF [10] fz []/\h=[.obj b2 (X2 (Z1.mk 13 0 [e3,e4])),YE rd bs p24,Zd gz 1,Zd gz 3]) ?_ ?_))))))
  ·refine VJ 6 11 ?_ ?_
   ·refine dc 6 [0,0] [1] [b1] (ih rd bs ((p+1)+1) vs z1 (b / 2) ob ob (by first|omega|(simp only [Ys,YW,XJ];omega)) ob) ?_
    rintro _ _ ⟨e3,p23,rfl,rfl,Xk⟩
    have hgehp5:=Xk.1
    refine Z9 11 (dL 11 [3] [b1] (Z8 [z1]) 1 1 fun v1=>YA 5 5 [] [(48,Z4 [z1])] (Z9 12 (dc 12 [] [3] [b1] (KG vs [z1]) ?_)))
    rintro _ _ ⟨v2,rfl,rfl⟩
    refine YA 4 4 [] [(49,Z4 (vs++[z1]))] (Z9 16 (dc 16 [2,2] [] [] (ih rd bs p23 (vs++[z1]) t (b / 2) ob ob (by first|omega|(simp only [Ys,YW,XJ];omega)) ob) ?_))
    rintro _ _ ⟨e4,p24,rfl,rfl,XX⟩
    have hgehp6:=XX.1
    exact Z9 17 (WP 17 [] [] [Y8 e3,Y8 e4] (Yt [e3,e4]) (XV [e3,e4]).symm 2 3 fun v3=>YA 2 2 [] [(54,XE [e3,e4])] (Z9 18 (Yz 18 [] [] [] (XZ 13 0 [e3,e4]) (Z9 19 (YO 19 5 [] [] b2 (X2 (Z1.mk 13 0 [e3,e4])) (de (ZV ⟨e3,e4,p24,_,(by assumption),(by assumption),rfl,rfl⟩ (wk [0,1,1,3] fl))))))))
   refine dL 11 [3,3] [b1,b1] (Z8 [z1]) 1 1 fun v4=>Z9 6 (dc 6 [1,1] [1] [b1] (ih rd bs ((p+1)+1) vs z1 (b / 2) ob ob (by first|omega|(simp only [Ys,YW,XJ];omega)) ob) ?_)
   rintro _ _ ⟨e5,p25,rfl,rfl,WA⟩
   have hgehp7:=WA.1
   refine YA 5 5 [] [(48,Z4 [z1])] (Z9 12 (dc 12 [] [3] [b1] (KG vs [z1]) ?_))
   rintro _ _ ⟨v5,rfl,rfl⟩
   refine YA 4 4 [] [(49,Z4 (vs++[z1]))] (Z9 16 (dc 16 [1,1] [] [] (ih rd bs p25 (vs++[z1]) t (b / 2) ob ob (by first|omega|(simp only [Ys,YW,XJ];omega)) ob) ?_))
   rintro _ _ ⟨e6,p26,rfl,rfl,WY⟩
   have hgehp8:=WY.1
   exact Z9 17 (WP 17 [] [] [Y8 e5,Y8 e6] (Yt [e5,e6]) (XV [e5,e6]).symm 2 3 fun v6=>YA 2 2 [] [(54,XE [e5,e6])] (Z9 18 (Yz 18 [] [] [] (XZ 13 0 [e5,e6]) (Z9 19 (YO 19 5 [] [] b2 (X2 (Z1.mk 13 0 [e5,e6])) (de (ZV ⟨e5,e6,p26,_,(by assumption),(by assumption),rfl,rfl⟩ (wk [0,1,1,3] fl))))))))
  rintro F h ⟨e3,e4,p24,p23,Xk,XX,rfl,rfl⟩
  have hgehp5:=Xk.1
  have hgehp6:=XX.1
  exact ZB (r3 [1,1] [Y8 (Z1.mk 13 0 [e3,e4])] [0] [(b2,b2)] ⟨(Z1.mk 13 0 [e3,e4]),p24,rfl,rfl,⟨GE.let_ (by assumption) (by have h:=‹GE g (vs++[_]).length (bS (b / 2)) _›;rw [Ys] at h;exact h) hls,by omega⟩⟩ (lr _))
 refine ar (YD (k1==3) Zq (fun Xh=>?_) (fun Xh=>?_))
 ·refine Zv 5 [2] (iL (Z8 [0,t,t]) 3 1 fun v7=>Z2 1 (ia (((b-1:Nat):Int)) (((b:Int))-(1)) (ZT 0 [(63,Z4 [0,t,t])] (ic [1,3] (Co rd bs (p+1) g gb rs vs [0,t,t] (b-1) b (ZO:=ob) (hp:=(Cx (p:=p) (by first|omega|simp) hb om om)) (ht:=(by first|omega|simp)) (hb:=om) (ih:=ih)) ?_))))
  rintro _ _ ⟨ys1,p27,rfl,rfl,Vr⟩
  have hga1:=Vr.1
  have hga2:=Vr.2.1
  have hga3:=Vr.2.2
  have hnc:=Bc (b:=b) (show (ys1).length<=3 by rw [hga1];first|omega|simp) hb (QF _ (b-1))
  rw [hga1] at hnc
  exact Zx [] (XZ 7 0 ys1) (ZH 3 b2 (X2 (Z1.mk 7 0 ys1)) (ie (ZB (r3 [1,1] [Y8 (Z1.mk 7 0 ys1)] [0] [(b2,b2)] ⟨(Z1.mk 7 0 ys1),p27,rfl,rfl,⟨GE.if_ om hga2 hga1 (EL (by simp) hb (QF 3 _)),by omega⟩⟩ (lr _)))))
 refine Ym (Wj (fun fz gz F h=>F=sF [0,2,3,4,6,10,22] fz [(68,.b ((k1==4)||((k1==5)||(k1==6))))]/\h=gz) ?_ ?_)
 ·refine ac (k1==4) Zq (fun Xl=>?_) (fun Xl=>?_)
  ·exact ak (ZV ⟨rfl,rfl⟩ (ZG 4 (fc (x:=.b (k1==4)) (lb (by first|rfl|(rw [Ze Xl])|(rw [Z7 Xl])|(simp [Xl];done)|(rw [XH];simp [Xl];done)|omega)) fl)))
  refine ar (YD (k1==5) Zq (fun U0=>?_) (fun U0=>?_))
  ·exact ak (ZV ⟨rfl,rfl⟩ (ZG 4 (fc (x:=.b (k1==5)) (lb (by first|rfl|(rw [Ze Xl])|(rw [Z7 Xl])|(simp [Xl,U0];done)|(rw [XH];simp [Xl,U0];done)|omega)) fl)))
  exact UY (ZV ⟨rfl,rfl⟩ (ZG 4 (fc (x:=.b (k1==6)) (lb (by first|rfl|(rw [Ze Xl])|(rw [Z7 Xl])|(simp [Xl,U0];done)|(rw [XH];simp [Xl,U0];done)|omega)) fl)))
 rintro F h ⟨rfl,rfl⟩
 refine ac ((k1==4)||((k1==5)||(k1==6))) (p:=(k1=4)∨((k1=5)∨(k1=6))) (Yh Zq (Yh Zq Zq)) (fun VT=>?_) (fun VT=>?_)
 ·refine Zv 5 [2] (ic [0,2] (Z9t rd bs (p+1) g gb rs vs t b (ZO:=ob) (ih:=ih)) ?_)
  rintro _ _ ⟨e7,p28,rfl,rfl,UH⟩
  have hgm:=UH.1
  exact ZH 2 b2 (X2 e7) (ie (ZB (r3 [1,1] [Y8 e7] [0] [(b2,b2)] ⟨e7,p28,rfl,rfl,⟨hgm,by omega⟩⟩ (lr _))))
 refine Ym (Wj (fun fz gz F h=>F=sF [0,2,3,4,6,10] fz [(78,.b ((k1==7)||(k1==8)))]/\h=gz) ?_ ?_)
 ·refine ac (k1==7) Zq (fun VU=>?_) (fun VU=>?_)
  ·exact ak (ZV ⟨rfl,rfl⟩ (ZG 4 (fc (x:=.b (k1==7)) (lb (by first|rfl|(rw [Ze VU])|(rw [Z7 VU])|(simp [VU];done)|(rw [XH];simp [VU];done)|omega)) fl)))
  exact UY (ZV ⟨rfl,rfl⟩ (ZG 4 (fc (x:=.b (k1==8)) (lb (by first|rfl|(rw [Ze VU])|(rw [Z7 VU])|(simp [VU];done)|(rw [XH];simp [VU];done)|omega)) fl)))
 rintro F h ⟨rfl,rfl⟩
 refine ac ((k1==7)||(k1==8)) (p:=(k1=7)∨(k1=8)) (Yh Zq Zq) (fun TU=>?_) (fun TU=>?_)
 ·refine Zv 2 [2] (ic [3] (Z9e g gb rs t) ?_)
  rintro _ _ ⟨xs1,rfl,rfl,T0⟩
  have hcal:=T0
  refine Z0 (Y1 1 (iw (Ya xs1) (Y9 ((xs1.length:Int)>0) (fun A4=>?_) (fun A4=>?_))))
  ·refine Y1 3 (iw (Ya xs1) (ic [1] (WG rd bs (p+1) (xs1.length:Int) (ZO:=ob)) ?_))
   rintro _ _ ⟨k2,rfl,rfl,T1⟩
   have qhp12:=T1.lt om
   obtain ⟨x1,Z3⟩:=Zs xs1 k2.toNat om
   have hcv:=hcal.2 _ (Y0 Z3)
   refine Zp (Zl none k2 1 (ZZ Z3)) (Z0 (aD 15 (ZI 8 15 [0,1,2,3,4,5,6] [3,3] ?_)))
   obtain ⟨x2,Zr⟩:=Zs g.funcs x1.toNat om
   have hso:=(hg.sigs _ (Y0 Zr)).bd
   refine dx 7 (Ws gb g.funcs.length 4 x1.toNat 5 x1) (Zh 6 7 [8] (Ue 9 (Vx 1 gb 4 4 5 (x1.toNat * 5+0) (Zi (Xw rs)) [Z4 x2.params] 31 (Z4 x2.params) (UW WB Zr 0 rfl (Vk rfl))) (Zh 4 5 [10] (da 11 (((b-1:Nat):Int)) (((b:Int))-(1)) (Z9 12 (dc 12 [0,0] [] [] (Co rd bs ((p+1)+1) g gb rs vs x2.params (b-1) b (ZO:=ob) (hp:=(Cx (p:=p) (by first|omega|simp) hb om om)) (ht:=(by first|omega|simp)) (hb:=om) (ih:=ih)) ?_))))))
   rintro _ _ ⟨ys2,p29,rfl,rfl,QQ⟩
   have hga1:=QQ.1
   have hga2:=QQ.2.1
   have hga3:=QQ.2.2
   have hnc:=Bc (b:=b) (show (ys2).length<=3 by rw [hga1];first|omega|simp) hb (QF _ (b-1))
   rw [hga1] at hnc
   exact Z9 13 (Yz 13 [] [] [] (XZ 9 x1 ys2) (Z9 14 (YO 14 2 [] [] b2 (X2 (Z1.mk 9 x1 ys2)) (de (ZB (r3 [1,1] [Y8 (Z1.mk 9 x1 ys2)] [0] [(b2,b2)] ⟨(Z1.mk 9 x1 ys2),p29,rfl,rfl,⟨GE.node om (fun _=>by omega) om hga2 hga1 (by first|omega|simp) (EL (by first|omega|simp) hb (QF _ _)),by omega⟩⟩ (lr _)))))))
  refine ak (Zv 5 [3] (ic [1,0] (Pt rd bs (p+1) g gb rs vs t b (ZO:=ob) (ih:=ih)) ?_))
  rintro _ _ ⟨e8,p210,rfl,rfl,Qv⟩
  have hgm:=Qv.1
  exact ZH 2 b2 (X2 e8) (ie (ZB (r3 [1,1] [Y8 e8] [0] [(b2,b2)] ⟨e8,p210,rfl,rfl,⟨hgm,by omega⟩⟩ (lr _))))
 refine ak (Zv 5 [2] (ic [0,2] (Pt rd bs (p+1) g gb rs vs t b (ZO:=ob) (ih:=ih)) ?_))
 rintro _ _ ⟨e9,p211,rfl,rfl,J2⟩
 have hgm:=J2.1
 exact ZH 2 b2 (X2 e9) (ie (ZB (r3 [1,1] [Y8 e9] [0] [(b2,b2)] ⟨e9,p211,rfl,rfl,⟨hgm,by omega⟩⟩ (lr _))))
theorem Kt (rd:Nat) (bs:LI) (p:Nat) (g:Wc) (gb:Nat) (rs:List Func) (vs:LI) (t:Int) (b:Nat) (ZO:∀z∈bs,0<=z/\z<=255) (hp:p+bC b<=1000000000:=by exact ob) (hg:GP g:=by exact ob) (WB:g.funcs <+: rs:=by exact ob) (hv:vs.length+3*b<=900:=by exact ob):Zj 272 [.p rd 0,.agg (WF g gb),Z4 vs,.i t,.i b] [YE rd bs p,XW gb rs] (fun r h=>∃(e:Z1) (p2:Nat),r=Y8 e/\h=[YE rd bs p2,XW gb rs]/\GE g vs.length (bS b) e/\p<=p2/\p2<=p+bC b):=by
 have key:∀k:Nat,∀(rd:Nat) (bs:LI) (p:Nat) (vs:LI) (t:Int) (b2:Nat),(∀z∈bs,0<=z/\z<=255)->(p+bC b2<=1000000000)->(vs.length+3*b2<=900)->(b2<k)->Zj 272 [.p rd 0,.agg (WF g gb),Z4 vs,.i t,.i b2] [YE rd bs p,XW gb rs] (fun r h=>∃(e:Z1) (p2:Nat),r=Y8 e/\h=[YE rd bs p2,XW gb rs]/\GE g vs.length (bS b2) e/\p<=p2/\p2<=p+bC b2):=by
  intro k
  induction k with
  | zero=>intro rd bs p vs t b2 h1 h2 h3 h4;omega
  | succ k ih=>intro rd bs p vs t b2 h1 h2 h3 h4;exact Z9u rd bs p g gb rs vs t b2 h1 h2 hg WB h3 fun rd bs p vs t b3 q1 q2 q3 q4=>ih rd bs p vs t b3 q1 q2 q3 om
 exact key (b+1) rd bs p vs t b ZO hp hv om
end Go.Abs
