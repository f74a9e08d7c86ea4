/-
  A part of the proofs of several laws (see the last file): no condition.
-/
import Derived.Test.YtaopnlgembdicaaGreatWaB
import Derived.Test.YtaopnlgembdicaaGreatProg
set_option linter.all false
set_option linter.unusedVariables false
set_option linter.unusedSimpArgs false
set_option linter.unusedSectionVars false
set_option maxRecDepth 10000
set_option maxHeartbeats 4000000
section
namespace Go.Abs
def AG (b:Nat):bS b=max 4 (10*b-10):=rfl
def AF (b:Nat):bC b=max 40 (100*b-100):=rfl
def FA {L q b:Nat} (hL:L<=3) (hb:3<=b) (hq:L*q<=b-1):1+L*bS q<=bS b:=by
 rw [AG,AG];have:L=0∨L=1∨L=2∨L=3:=by omega
 rcases this with rfl|rfl|rfl|rfl<;>omega
def Zha {L q b:Nat} (hL:L<=3) (hb:3<=b) (hq:L*q<=b-2):5+L*bS q<=bS b:=by
 rw [AG,AG];have:L=0∨L=1∨L=2∨L=3:=by omega
 rcases this with rfl|rfl|rfl|rfl<;>omega
def Zh1 {b:Nat} (hb:3<=b):1+(bS (b / 2)+bS (b / 2))<=bS b:=by rw [AG,AG];omega
def Z6p {b:Nat} (hb:3<=b):5+bS (b-2)<=bS b:=by rw [AG,AG];omega
def BF {L q b:Nat} (hL:L<=3) (hb:3<=b) (hq:L*q<=b-1):10+L*bC q<=bC b:=by
 rw [AF,AF];have:L=0∨L=1∨L=2∨L=3:=by omega
 rcases this with rfl|rfl|rfl|rfl<;>omega
def Zh9 {L q b:Nat} (hL:L<=3) (hb:3<=b) (hq:L*q<=b-2):40+L*bC q<=bC b:=by
 rw [AF,AF];have:L=0∨L=1∨L=2∨L=3:=by omega
 rcases this with rfl|rfl|rfl|rfl<;>omega
def Zh0 {b:Nat} (hb:3<=b):10+(bC (b / 2)+bC (b / 2))<=bC b:=by rw [AF,AF];omega
def Z6o {b:Nat} (hb:3<=b):40+bC (b-2)<=bC b:=by rw [AF,AF];omega
def P2 (b:Nat):4<=bS b:=by rw [AG];omega
def P1 (b:Nat):40<=bC b:=by rw [AF];omega
def QV (L b:Nat):L*(b / L)<=b:=Nat.mul_div_le b L
def Z0x {k L C:Nat} (h:k<L):(k+1)*C=k*C+C/\(k+1)*C<=L*C:=⟨by rw [Kf,Nat.one_mul],Ky C h⟩
def Ev {ds:List Zh} {d x:Int} {m k:Nat} (h:(Y1 ds d)[k]? = some x):QO ds 8 d m (1+k)=m+(ZZ ds x).length:=by
 rw [QO,Z8 om,Zg rfl,Z8 om,WH (i:=((1+k:Nat):Int)-1) (by rw [show (((1+k:Nat):Int)-1).toNat=k by omega];exact h)]
section
variable {g:Wr} {m:Nat}
def GE.var {z:Int} {q:Nat} (hz:0<=z/\z<m) (hm:m<=2000) (hq:1<=q):GE g m q (.mk 12 z []):=⟨Zak hz hm,by simpa [Z2.sz,XL] using hq⟩
def GE.list {ys:List Z2} {L s:Nat} (h:∀e∈ys,GE g m s e) (hl:ys.length=L):XL ys<=L*s:=by rw [<-hl];exact GW fun e he=>(h e he).2
def GE.node {op num:Int} {ys:List Z2} {L s q:Nat} (ho:0<=op/\op<=11/\op≠7/\op≠8) (hc:op=9->0<=num/\num<g.funcs.length) (hn:-2000<=num/\num<=2000) (h:∀e∈ys,GE g m s e) (hl:ys.length=L) (hL:L<=3) (hq:1+L*s<=q):GE g m q (.mk op num ys):=by
 have:=GE.list h hl;exact ⟨CZ ho hc hn om fun e he=>(h e he).1,by rw [Z2.sz];omega⟩
def GE.if_ {num:Int} {ys:List Z2} {s q:Nat} (hn:-2000<=num/\num<=2000) (h:∀e∈ys,GE g m s e) (hl:ys.length=3) (hq:1+3*s<=q):GE g m q (.mk 7 num ys):=by
 have:=GE.list h hl;exact ⟨Rj hn hl fun e he=>(h e he).1,by rw [Z2.sz];omega⟩
def GE.let_ {a b:Z2} {s q:Nat} (ha:GE g m s a) (hb:GE g (m+1) s b) (hq:1+(s+s)<=q):GE g m q (.mk 13 0 [a,b]):=by
 refine ⟨Rk om ha.1 hb.1,?_⟩;have h1:=ha.2;have h2:=hb.2;simp only [Z2.sz,XL];omega
def GE.two {op num:Int} {a b:Z2} {s1 s2 q:Nat} (ho:0<=op/\op<=11/\op≠7/\op≠8/\op≠9) (hn:-2000<=num/\num<=2000) (ha:GE g m s1 a) (hb:GE g m s2 b) (hq:1+(s1+s2)<=q):GE g m q (.mk op num [a,b]):=by
 refine ⟨CZ om (fun h=>by omega) hn (by simp) fun e he=>?_,?_⟩
 .rcases YM.1 he with rfl|he
  .exact ha.1
  .rw [XI.1 he];exact hb.1
 .have h1:=ha.2;have h2:=hb.2;simp only [Z2.sz,XL];omega
def GE.match_ {d:Int} {e:Z2} {ys:List Z2} {L s q:Nat} (hd:-2000<=d/\d<=2000) (he:GE g m 4 e) (hw:KM g.decls g.funcs.length (QO g.decls 8 d m) 1 ys) (hs:∀e∈ys,e.sz<=s) (hl:ys.length=L) (hL:L=(Y1 g.decls d).length) (h3:L<=3) (hq:5+L*s<=q):GE g m q (.mk 8 d (e::ys)):=by
 refine ⟨LL hd om om he.1 hw,?_⟩;have h1:=GW hs;rw [hl] at h1;have h2:=he.2;rw [Z2.sz,XL];omega
end
def NL (s:Nat) (left w:Int):Prop:=((s:Int)<=left/\w=left-s)∨(left<s/\w=-1)
end Go.Abs
namespace Go.Abs
def Dd {L b p pp M:Nat} (hL:L<=3) (hb:3<=b) (h:pp<=p+8) (hp:p+(bC b-1)<=M):pp+L*bC ((b-1) / L)<=M:=by
 have:=BF hL hb (QV L (b-1));omega
end Go.Abs
end
namespace Go.Abs
def Zaw (a b:Z2):XL [a,b]=a.sz+b.sz:=by simp only [XL];omega
def GV (a b c:Z2):XL [a,b,c]=a.sz+b.sz+c.sz:=by simp only [XL];omega
def ER:bS 3=20/\bS 4=30/\bS 12=110/\bS 16=150/\bS 18=170/\bC 3=200/\bC 4=300/\bC 16=1500:=by decide
def Gm {b:Nat} (h:b<=20):bS b<=190/\bC b<=1900/\(b<=2->bS b<=10):=by rw [AG,AF];omega
section
variable {g:Wr} {m:Nat}
def SE.ofs {op num:Int} {ys:List Z2} {q:Nat} (ho:0<=op/\op<=11/\op≠7/\op≠8/\op≠9) (hn:-2000<=num/\num<=2000) (hl:ys.length<=4) (hy:∀e∈ys,∃s,SE g s e) (hq:1+XL ys<=q):SE g q (.mk op num ys):=
 ⟨fun m=>CZ om (fun h=>by omega) hn hl fun e he=>let ⟨_,h⟩:=hy e he;h.1 m,by rw [Z2.sz];exact hq⟩
def SE.nil {op num:Int} {q:Nat} (ho:0<=op/\op<=11/\op≠7/\op≠8/\op≠9) (hn:-2000<=num/\num<=2000) (hq:1<=q):SE g q (.mk op num []):=
 SE.ofs ho hn (by simp) (fun e he=>by cases he) (by simpa [XL] using hq)
def SE.two {op num:Int} {a b:Z2} {s1 s2 q:Nat} (ho:0<=op/\op<=11/\op≠7/\op≠8/\op≠9) (hn:-2000<=num/\num<=2000) (ha:SE g s1 a) (hb:SE g s2 b) (hq:1+(s1+s2)<=q):SE g q (.mk op num [a,b]):=by
 refine SE.ofs ho hn (by simp) (fun e he=>?_) ?_
 .rcases YM.1 he with rfl|he
  .exact ⟨_,ha⟩
  .rw [XI.1 he];exact ⟨_,hb⟩
 .have h1:=ha.2;have h2:=hb.2;rw [Zaw];omega
def SE.three {op num:Int} {a b c:Z2} {s1 s2 s3 q:Nat} (ho:0<=op/\op<=11/\op≠7/\op≠8/\op≠9) (hn:-2000<=num/\num<=2000) (ha:SE g s1 a) (hb:SE g s2 b) (hc:SE g s3 c) (hq:1+(s1+s2+s3)<=q):SE g q (.mk op num [a,b,c]):=by
 refine SE.ofs ho hn (by simp) (fun e he=>?_) ?_
 .rcases YM.1 he with rfl|he
  .exact ⟨_,ha⟩
  .rcases YM.1 he with rfl|he
   .exact ⟨_,hb⟩
   .rw [XI.1 he];exact ⟨_,hc⟩
 .have h1:=ha.2;have h2:=hb.2;have h3:=hc.2;rw [GV];omega
def GE.int {z:Int} {q:Nat} (hz:-2000<=z/\z<=2000) (hq:1<=q):GE g m q (.mk 0 z []):=(SE.int (g:=g) (q:=q) hz hq).ge (X8 _)
def GE.three {op num:Int} {a b c:Z2} {s1 s2 s3 q:Nat} (ho:0<=op/\op<=11/\op≠8/\op≠9) (hn:-2000<=num/\num<=2000) (ha:GE g m s1 a) (hb:GE g m s2 b) (hc:GE g m s3 c) (hq:1+(s1+s2+s3)<=q):GE g m q (.mk op num [a,b,c]):=by
 have hk:∀e∈[a,b,c],eW g.decls g.funcs.length m e:=fun e he=>by
  rcases YM.1 he with rfl|he
  .exact ha.1
  .rcases YM.1 he with rfl|he
   .exact hb.1
   .rw [XI.1 he];exact hc.1
 refine ⟨?_,?_⟩
 .by_cases h7:op=7
  .subst h7;exact Rj hn rfl hk
  .exact CZ om (fun h=>by omega) hn (by simp) hk
 .have h1:=ha.2;have h2:=hb.2;have h3:=hc.2;rw [Z2.sz,GV];omega
def GE.one {op num:Int} {a:Z2} {s1 q:Nat} (ho:0<=op/\op<=11/\op≠7/\op≠8/\op≠9) (hn:-2000<=num/\num<=2000) (ha:GE g m s1 a) (hq:1+s1<=q):GE g m q (.mk op num [a]):=by
 refine ⟨CZ om (fun h=>by omega) hn (by simp) fun e he=>?_,?_⟩
 .rw [XI.1 he];exact ha.1
 .have h1:=ha.2;simp only [Z2.sz,XL];omega
def GE.letS {a b:Z2} {s1 s2 q:Nat} (ha:GE g m s1 a) (hb:GE g (m+1) s2 b) (hq:1+(s1+s2)<=q):GE g m q (.mk 13 0 [a,b]):=by
 refine ⟨Rk om ha.1 hb.1,?_⟩;have h1:=ha.2;have h2:=hb.2;simp only [Z2.sz,XL];omega
def GE.matchL (hg:GP g) {e a b:Z2} {s1 s2 s3 q:Nat} (he:GE g m s1 e) (ha:GE g m s2 a) (hb:GE g (m+2) s3 b) (hq:1+(s1+s2+s3)<=q):GE g m q (.mk 8 1 [e,a,b]):=by
 have hl:=hg.decls.low;refine ⟨LL om (by simp) (by rw [hl.2.1];rfl) he.1 ⟨?_,?_,True.intro⟩,?_⟩
 .rw [Ev (k:=0) (x:=0) (by rw [hl.2.1];rfl),hl.2.2.2.2.1];exact ha.1
 .rw [Ev (k:=1) (x:=1) (by rw [hl.2.1];rfl),hl.2.2.2.2.2.1];exact hb.1
 .have h1:=he.2;have h2:=ha.2;have h3:=hb.2;rw [Z2.sz,GV];omega
def GE.matchT (hg:GP g) {e a b:Z2} {s1 s2 s3 q:Nat} (he:GE g m s1 e) (ha:GE g m s2 a) (hb:GE g (m+3) s3 b) (hq:1+(s1+s2+s3)<=q):GE g m q (.mk 8 3 [e,a,b]):=by
 have hl:=hg.decls.low;refine ⟨LL om (by simp) (by rw [hl.2.2.2.1];rfl) he.1 ⟨?_,?_,True.intro⟩,?_⟩
 .rw [Ev (k:=0) (x:=2) (by rw [hl.2.2.2.1];rfl),hl.2.2.2.2.2.2.1];exact ha.1
 .rw [Ev (k:=1) (x:=3) (by rw [hl.2.2.2.1];rfl),hl.2.2.2.2.2.2.2];exact hb.1
 .have h1:=he.2;have h2:=ha.2;have h3:=hb.2;rw [Z2.sz,GV];omega
def IQ {α:Type} {p:α->Prop} {a:α} (h:p a):∀x∈[a],p x:=fun x hx=>by rw [XI.1 hx];exact h
end
structure IG (g:Wr):Prop where
 gp:GP g
 body:∀f∈g.funcs,eW g.decls g.funcs.length f.params.length f.body/\f.body.sz<=30
structure GL (ds:List Zh) (k j:Nat) (rq:List Func):Prop where
 len:rq.length=4
 sigs:∀f∈rq,Q8 f
 zero:∀f,rq[0]? = some f->f.params.length=0
 body:∀i f,j<=i->i<k->rq[i]? = some f->eW ds k f.params.length f.body/\f.body.sz<=30
def GL.gp {ds:List Zh} {k j:Nat} {rq:List Func} (h:GL ds k j rq) (hd:GD ds) (hk:1<=k/\k<=4):GP ⟨ds,rq.take k⟩:=
 ⟨hd,by show 1<=(rq.take k).length/\_;rw [WK,h.len];omega,fun f hf=>h.sigs f<|Qr hf⟩
def GL.len_take {ds:List Zh} {k j:Nat} {rq:List Func} (h:GL ds k j rq) (hk:k<=4):(rq.take k).length=k:=by rw [WK,h.len];omega
def GL.set {ds:List Zh} {k j:Nat} {rq:List Func} {f:Func} {e:Z2} (h:GL ds k j rq) (hj:1<=j) (hf:rq[j-1]? = some f) (he:eW ds k f.params.length e/\e.sz<=30):GL ds k (j-1) (rq.set (j-1) ⟨f.params,f.result,e⟩):=by
 have hl:=(Xv.1 hf).1;refine ⟨by rw [UO];exact h.len,fun x hx=>?_,fun x hx=>?_,fun i x h1 h2 hx=>?_⟩
 .rcases List.mem_or_eq_of_mem_set hx with hx|rfl
  .exact h.sigs x hx
  .exact h.sigs f<|Y0 hf
 .rw [List.getElem?_set] at hx
  split at hx
  .rename_i h0;cases hx;exact h.zero f (by rw [<-h0];exact hf)
  .exact h.zero x hx
 .rw [List.getElem?_set] at hx
  split at hx
  .cases hx;exact he
  .exact h.body i x om h2 hx
def GL.done {ds:List Zh} {k:Nat} {rq:List Func} (h:GL ds k 0 rq) (hd:GD ds) (hk:1<=k/\k<=4):IG ⟨ds,rq.take k⟩:=by
 refine ⟨h.gp hd hk,fun f hf=>?_⟩;show eW ds (rq.take k).length _ _/\_
 rw [h.len_take hk.2];obtain ⟨i,hi⟩:=IB hf;have hi2:i<(rq.take k).length:=(Xv.1 hi).1;rw [h.len_take hk.2] at hi2;rw [List.getElem?_take_of_lt hi2] at hi;exact h.body i f om hi2 hi
def NN {l:List Func} {f:Func} {k:Nat} (h:l[k]? = some f) (hl:l.all (fun f=>decide ((f.params,f.result)∈AA))=true):Q8 f:=show (f.params,f.result)∈AA from of_decide_eq_true (Ax.1 hl f<|Y0 h)
def GL.start {ds:List Zh} {k:Nat} {e:Z2} {a b c:Func} (ha:Q8 a) (hb:Q8 b) (hc:Q8 c):GL ds k k [⟨[],0,e⟩,a,b,c]:=by
 refine ⟨rfl,fun f hf=>?_,fun f hf=>?_,fun i f h1 h2=>by omega⟩
 .rcases YM.1 hf with rfl|hf
  .exact List.Mem.head _
  .rcases YM.1 hf with rfl|hf
   .exact ha
   .rcases YM.1 hf with rfl|hf
    .exact hb
    .rw [XI.1 hf];exact hc
 .cases hf;rfl
def Zhq {l:LI} {k a b:Nat} (h:(k:Int)∈l) (hl:l.all (fun x=>decide ((a:Int)<=x/\x<=b))=true):a<=k/\k<=b:=by
 have:=of_decide_eq_true (Ax.1 hl _ h);omega
mutual
def KY (p:Int->Prop):Z4->Prop
 | .mk op _ _ _ kids=>p op/\KX p kids
def KX (p:Int->Prop):List Z6->Prop
 | []=>True
 | b::r=>VW p b/\KX p r
def QL (p:Int->Prop):List Z4->Prop
 | []=>True
 | s::r=>KY p s/\QL p r
def VW (p:Int->Prop):Z6->Prop
 | .mk steps _=>QL p steps
end
section
variable {p q:Int->Prop}
def FF (s:Z4):KY p s↔p s.op/\KX p s.kids:=by cases s;rw [KY];rfl
def HK (b:Z6):VW p b↔QL p b.steps:=by cases b;rw [VW];rfl
def Em:∀{xs:List Z6},KX p xs↔∀b∈xs,VW p b
 | []=>by simp [KX]
 | b::r=>by rw [KX,Em];simp
def Dh:∀{xs:List Z4},QL p xs↔∀b∈xs,KY p b
 | []=>by simp [QL]
 | b::r=>by rw [QL,Dh];simp
def HL {xs ys:List Z4}:QL p (xs++ys)↔QL p xs/\QL p ys:=by simp only [Dh,Xh];exact ⟨fun h=>⟨fun b hb=>h b<|.inl hb,fun b hb=>h b<|.inr hb⟩,fun h b hb=>hb.elim (h.1 b)<|h.2 b⟩
def Z1h {xs:List Z6} {b:Z6} (h:KX p xs) (hb:VW p b):KX p (xs++[b]):=Em.2 (XN (Em.1 h) hb)
def HM {xs:List Z4} {b:Z4} (h:QL p xs) (hb:KY p b):QL p (xs++[b]):=Dh.2 (XN (Dh.1 h) hb)
end
def Vd (op:Int):Prop:=op<=11
def Ub (op:Int):Prop:=op<=15
end Go.Abs
section
namespace Go.Abs
structure LW (ds:List Zh) (nf q:Nat) (e:Z2) (ys:List Z4) (v:Int):Prop where
 fs:TV ds nf q ys
 v:0<=v/\v<(q+X9 ys:Nat)
 sz:Ya ys<=6*e.sz
 op:QL Vd ys
def LW.dn {ds:List Zh} {nf q:Nat} {e:Z2} {ys:List Z4} {v:Int} (h:LW ds nf q e ys v):X9 ys<=6*e.sz/\ys.length<=6*e.sz:=by
 have h1:=Ca ys;have h2:=A4 ys;have h3:=h.sz;omega
structure LB (ds:List Zh) (nf q:Nat) (e:Z2) (b:Z6):Prop where
 fb:fB ds nf q b
 sz:b.sz<=1+6*e.sz
 op:VW Vd b
section
variable {ds:List Zh} {nf q:Nat}
def ES:∀xs ys:List Z6,YT (xs++ys)=YT xs+YT ys
 | [],ys=>by simp [YT]
 | x::r,ys=>by rw [QQ,YT,YT,ES r];omega
def LW.block {e:Z2} {ys:List Z4} {v:Int} (h:LW ds nf q e ys v):LB ds nf q e ⟨ys,v⟩:=
 ⟨by rw [fB];exact ⟨h.fs,h.v⟩,by rw [Z6.sz];have:=h.sz;omega,by rw [VW];exact h.op⟩
def LW.var {e:Z2} {v:Int} (hv:0<=v/\v<q):LW ds nf q e [] v:=⟨True.intro,by simpa [X9] using hv,by simp [Ya],True.intro⟩
def LW.let_ {e a b:Z2} {ys zs:List Z4} {v1 v2:Int} (ha:LW ds nf q a ys v1) (hb:LW ds nf (q+X9 ys) b zs v2) (he:a.sz+b.sz<e.sz):LW ds nf q e (ys++zs) v2:=by
 refine ⟨DU.2 ⟨ha.fs,hb.fs⟩,by rw [Am,<-BX];exact hb.v,?_,HL.2 ⟨ha.op,hb.op⟩⟩;have h1:=ha.sz;have h2:=hb.sz;rw [Qj];omega
def F4 {ys:List Z4} {s:Z4} (h:Yv s.op=false):X9 (ys++[s])=X9 ys+1:=by
 rw [Am];simp [X9,h]
def LW.node {e:Z2} {ys:List Z4} {as1:LI} (ho:0<=e.op/\e.op<=11/\e.op≠7/\e.op≠8) (hc:e.op=9->0<=e.num/\e.num<nf) (hn:-2000<=e.num/\e.num<=2000) (hf:TV ds nf q ys) (ha:∀a∈as1,0<=a/\a<(q+X9 ys:Nat)) (hl:as1.length<=4) (hs:Ya ys<=6*XL e.kids) (hop:QL Vd ys) :
  LW ds nf q e (ys++[⟨e.op,e.num,0,as1,[]⟩]) ((q+X9 ys:Nat):Int):=by
 have hcb:Yv e.op=false:=by simp [Yv];omega
 refine ⟨GY hf ?_,?_,?_,HM hop<|by rw [KY];exact ⟨by show e.op<=11;omega,True.intro⟩⟩
 .rw [fS];exact ⟨.inl ⟨by omega,by omega⟩,ha,fun h=>by omega,fun h=>by omega,fun h=>by omega,fun h=>by omega,hc,hn,by omega,hl,fun _=>rfl,True.intro⟩
 .rw [F4 (show Yv (Z4.mk e.op e.num 0 as1 []).op=false from hcb)];omega
 .rw [Qj,e.sz_eq];simp only [Ya,Z4.sz,YT];omega
def LW.branch {e:Z2} {ys:List Z4} {v:Int} {bs:List Z6} {s0 sr:Nat} (ho:e.op=7∨e.op=8) (h7:e.op=7->bs.length=2) (h8:e.op=8->bs.length=(Y1 ds e.num).length) (hn:-2000<=e.num/\e.num<=2000) (hf:TV ds nf q ys) (hv:0<=v/\v<(q+X9 ys:Nat))
  (hb:Qn ds nf (Ts ds e.op e.num (q+X9 ys)) 0 bs) (hl:bs.length<=3) (h0:Ya ys<=6*s0) (h1:YT bs<=bs.length+6*sr) (hs:s0+sr<=XL e.kids) (hop:QL Vd ys) (hob:KX Vd bs):LW ds nf q e (ys++[⟨e.op,e.num,0,[v],bs⟩]) ((q+X9 ys:Nat):Int):=by
 have hcb:Yv e.op=false:=by simp [Yv];omega
 refine ⟨GY hf ?_,?_,?_,HM hop<|by rw [KY];exact ⟨by show e.op<=11;omega,hob⟩⟩
 .rw [fS];exact ⟨.inl ⟨by omega,by omega⟩,fun a ha=>by rw [XI.1 ha];exact hv,fun h=>by omega,h7,h8,fun _=>⟨v,rfl⟩,fun h=>by omega,hn,by omega,by simp,fun h=>by omega,hb⟩
 .rw [F4 (show Yv (Z4.mk e.op e.num 0 [v] bs).op=false from hcb)];omega
 .rw [Qj,e.sz_eq];simp only [Ya,Z4.sz,YR,Xx];omega
def Z3j {ds:List Zh} {op num:Int} {m k:Nat} (h:op=13):QO ds op num m k=m+k:=Zg h
def Zki {ds:List Zh} {op num:Int} {m:Nat} (h:op≠13):QO ds op num m 0=m:=by simp [QO,h]
def Z3k {ds:List Zh} {op num:Int} {m k:Nat} (h:op≠13/\op≠8):QO ds op num m k=m:=by simp [QO,h.1,h.2]
def Zkj {ds:List Zh} {op num x:Int} {m k j:Nat} (h:op=8) (hk:k=j+1) (hx:(Y1 ds num)[j]? = some x):QO ds op num m k=m+(ZZ ds x).length:=by
 subst h;subst hk;rw [Nat.add_comm j 1];exact Ev hx
def NI {ds:List Zh} {op num x:Int} {m j:Nat} (h:op=8) (hx:(Y1 ds num)[j]? = some x):Ts ds op num m j=m+(ZZ ds x).length:=by
 rw [Ts,Zg h,WH (i:=(j:Int)) (by simpa using hx)]
def NJ {ds:List Zh} {op num:Int} {m j:Nat} (h:op≠8):Ts ds op num m j=m:=Z8 h
def Cc {xs:List Z2} {k:Nat} {e:Z2} (h:xs[k]? = some e):XL (xs.take (k+1))=XL (xs.take k)+e.sz:=by rw [WO h,Fc,XL,XL];rfl
def Bl {xs:List Z2} (k:Nat):XL (xs.take k)<=XL xs:=by
 have h:=Ys XL (Ty k xs);rw [Fc] at h;omega
def Rt {xs:List Z2} {a b:Z2} (ha:xs[0]? = some a) (hb:xs[1]? = some b):a.sz+b.sz<=XL xs:=by
 have h1:XL (xs.take 1)=XL (xs.take 0)+a.sz:=Cc ha;have h2:XL (xs.take 2)=XL (xs.take 1)+b.sz:=Cc hb;have h3:=Bl (xs:=xs) 2;omega
def Ge {us:LI} {v:Int} {d:Nat} (hu:∀a∈us,0<=a/\a<(q:Int)) (hv:0<=v/\v<(q+d:Nat)):∀a∈us++[v],0<=a/\a<((q+d:Nat):Int):=
 XN (fun a ha=>by have:=hu a ha;omega) hv
def Io {us:LI} {d:Nat} (hu:∀a∈us,0<=a/\a<(q:Int)):∀a∈us,0<=a/\a<((q+d:Nat):Int):=fun a ha=>by have:=hu a ha;omega
def Zns {us ns:LI} {d mf:Nat} (hu:∀a∈us,0<=a/\a<(q:Int)) (hn:∀i∈ns,((q+d:Nat):Int)<=i/\i<((q+d:Nat):Int)+mf):∀a∈us++ns,0<=a/\a<((q+d+mf:Nat):Int):=fun a ha=>by
 rcases Xh.1 ha with h|h
 .have:=hu a h;omega
 .have:=hn a h;omega
def Gs:∀bs:List Z6,bs.length<=YT bs
 | []=>X8 _
 | b::r=>by have:=Gs r;have:=b.sz_pos;rw [YT,YR];omega
end
end Go.Abs
namespace Go.Abs
structure RF (ds:List Zh) (nf q:Nat) (p:Int->Prop) (r:Y9):Prop where
 sig:(r.1,r.result)∈AA
 lent:r.2.length<=3/\∀i∈r.2,0<=i/\i<r.1.length
 body:fB ds nf r.1.length r.4/\r.4.sz<=q
 op:VW p r.4
structure FO (n:Zm) (q:Nat) (p:Int->Prop):Prop where
 fn:FN n q
 op:∀r∈n.2,VW p r.4
def FO.rf {n:Zm} {q:Nat} {p:Int->Prop} (h:FO n q p) {r:Y9} (hr:r∈n.2):RF n.1 n.2.length q p r:=⟨h.fn.sigs r hr,h.fn.lent r hr,h.fn.body r hr,h.op r hr⟩
def FO.all {n:Zm} {q:Nat} {p:Int->Prop} (hd:GD n.1) (hl:1<=n.2.length/\n.2.length<=4) (h:∀r∈n.2,RF n.1 n.2.length q p r):FO n q p:=
 ⟨⟨hd,hl,fun r hr=>(h r hr).sig,fun r hr=>(h r hr).lent,fun r hr=>(h r hr).body⟩,fun r hr=>(h r hr).op⟩
structure RN (ds:List Zh) (nf:Nat) (r:Y9):Prop where
 sig:(r.1,r.result)∈AA
 lent:r.2=[]
 body:fB ds nf r.1.length r.4/\r.4.sz<=181
 op:VW Vd r.4
def RN.all {n:Zm} {q:Nat} (hd:GD n.1) (hl:1<=n.2.length/\n.2.length<=4) (h:∀r∈n.2,RN n.1 n.2.length r) (hq:181<=q):FO n q Vd:=
 FO.all hd hl fun r hr=>⟨(h r hr).sig,by rw [(h r hr).lent];exact ⟨by simp,fun i hi=>by cases hi⟩,⟨(h r hr).body.1,Vy (h r hr).body.2 hq⟩,(h r hr).op⟩
end Go.Abs
namespace Go.Abs
def RN.of {ds:List Zh} {nf:Nat} {ps:LI} {rt:Int} {b:Z6} {e:Z2} (hs:(ps,rt)∈AA) (h:LB ds nf ps.length e b) (he:e.sz<=30):RN ds nf ⟨ps,[],rt,Z6.mk b.steps b.result⟩:=by
 have e1:Z6.mk b.steps b.result=b:=by cases b;rfl
 rw [e1];exact ⟨hs,rfl,⟨h.fb,by have:=h.sz;show b.sz<=181;omega⟩,h.op⟩
end Go.Abs
end
namespace Go.Abs
def O0:∀{xs:List Z4} {s:Z4},s∈xs->s.sz<=Ya xs
 | [],s,h=>by cases h
 | x::r,s,h=>by
  rw [Ya];rcases YM.1 h with rfl|h
  .omega
  .have:=O0 h;omega
def L5:∀{xs:List Z6} {b:Z6},b∈xs->b.sz<=YT xs
 | [],b,h=>by cases h
 | x::r,b,h=>by
  rw [YT];rcases YM.1 h with rfl|h
  .omega
  .have:=L5 h;omega
structure LC (n:Zm) (k:Nat) (xs:List LI):Prop where
 len:xs.length=k
 ok:∀(i:Nat) (l:LI),xs[i]? = some l->l.length<=3/\∀r,n.2[i]? = some r->∀v∈l,0<=v/\v<(r.1.length:Int)
def LC.nil {n:Zm}:LC n 0 []:=⟨rfl,fun i l h=>by simp at h⟩
def LC.snoc {n:Zm} {k:Nat} {xs:List LI} {l:LI} (h:LC n k xs) (hl:l.length<=3) (hv:∀r,n.2[k]? = some r->∀v∈l,0<=v/\v<(r.1.length:Int)):LC n (k+1) (xs++[l]):=by
 refine ⟨by rw [Yy,h.len];rfl,fun i l' hi=>?_⟩;by_cases hk:i<xs.length
 .rw [Dr hk] at hi;exact h.ok i l' hi
 .rw [Ds om] at hi;have h0:i-xs.length=0:=by
   cases e:i-xs.length with
   | zero=>rfl
   | succ q=>rw [e] at hi;simp at hi
  rw [h0] at hi;cases hi;have e:i=k:=by have:=h.len;omega
  subst e;exact ⟨hl,hv⟩
def UL:LI->Int->LI
 | [],y=>[y]
 | x::r,y=>if x>y then y::x::r else if x=y then x::r else x::UL r y
def K8 (d:Bool) (xs:LI) (y:Int):LI:=if d=true then xs else UL xs y
def Hp {xs:LI} {y:Int}:K8 true xs y=xs:=rfl
def Ho {xs:LI} {y:Int}:K8 false xs y=UL xs y:=rfl
def Sx {xs acc r:LI} {y x:Int} {k:Nat} {d:Bool} (hx:xs[k]? = some x) (hd:d=true) (h:acc++K8 d (xs.drop k) y=r):(acc++[x])++K8 d (xs.drop (k+1)) y=r:=by
 subst hd;rw [Hp,Yc hx] at h;rw [Hp,<-h];simp
def Zfe {xs acc r:LI} {y x:Int} {k:Nat} {d:Bool} (hx:xs[k]? = some x) (hd:¬d=true) (hl:¬x>=y) (h:acc++K8 d (xs.drop k) y=r):(acc++[x])++K8 d (xs.drop (k+1)) y=r:=by
 have hd:=JE.2 hd;subst hd;rw [Ho,Yc hx,UL,Z8 om,Z8 om] at h;rw [Ho,<-h];simp
def Zff {xs acc r:LI} {y x:Int} {k:Nat} {d:Bool} (hx:xs[k]? = some x) (hd:¬d=true) (hl:x>y) (h:acc++K8 d (xs.drop k) y=r):((acc++[y])++[x])++K8 true (xs.drop (k+1)) y=r:=by
 have hd:=JE.2 hd;subst hd;rw [Ho,Yc hx,UL,Zg hl] at h;rw [Hp,<-h];simp
def Zfg {xs acc r:LI} {y x:Int} {k:Nat} {d:Bool} (hx:xs[k]? = some x) (hd:¬d=true) (hl:x=y) (h:acc++K8 d (xs.drop k) y=r):(acc++[x])++K8 true (xs.drop (k+1)) y=r:=by
 have hd:=JE.2 hd;subst hd;rw [Ho,Yc hx,UL,Z8 om,Zg hl] at h;rw [Hp,<-h];simp
def Zfd {xs acc acc2 r:LI} {y x:Int} {k:Nat} {d d2:Bool} (hx:xs[k]? = some x) (h:acc++K8 d (xs.drop k) y=r)
  (hc:(acc2=acc/\d2=d/\(d=true∨¬x>=y))∨(acc2=acc++[y]/\d2=true/\¬d=true/\x>y)∨(acc2=acc/\d2=true/\¬d=true/\x=y)):(acc2++[x])++K8 d2 (xs.drop (k+1)) y=r:=by
 rcases hc with ⟨rfl,rfl,h3⟩|⟨rfl,rfl,h3,h4⟩|⟨rfl,rfl,h3,h4⟩
 .rcases h3 with h3|h3
  .exact Sx hx h3 h
  .by_cases q:d2=true
   .exact Sx hx q h
   .exact Zfe hx q h3 h
 .exact Zff hx h3 h4 h
 .exact Zfg hx h3 h4 h
def Zfc {xs acc r:LI} {y:Int} {k:Nat} {d:Bool} (hk:xs.length<=k) (h:acc++K8 d (xs.drop k) y=r):(if d=true then acc else acc++[y])=r:=by
 rw [Xk hk] at h;by_cases q:d=true
 .rw [K8,Zg q,JF] at h;rw [Zg q];exact h
 .rw [K8,Z8 q,UL] at h;rw [Z8 q];exact h
def E8:∀(xs:LI) (y:Int),(UL xs y).length<=xs.length+1
 | [],y=>X8 _
 | x::r,y=>by
  have:=E8 r y;rw [UL]
  split
  .simp
  .split
   .simp
   .simp only [YR];omega
def Fs:∀{xs:LI} {y z:Int},z∈UL xs y↔z∈xs∨z=y
 | [],y,z=>by simp [UL]
 | x::r,y,z=>by
  rw [UL]
  split
  .simp only [YM];exact ⟨fun h=>h.elim .inr .inl,fun h=>h.elim .inr .inl⟩
  .split
   .rename_i h;subst h;simp only [YM];exact ⟨fun h=>.inl h,fun h=>h.elim id .inl⟩
   .simp only [YM,Fs (xs:=r)];exact ⟨fun h=>by rcases h with h|h|h<;>simp [h],fun h=>by rcases h with (h|h)|h<;>simp [h]⟩
def CP (xs:LI):Prop:=xs.Pairwise (·<·)
def Sw:∀{xs:LI} {y:Int},CP xs->CP (UL xs y)
 | [],y,_=>by simp [UL,CP]
 | x::r,y,h=>by
  obtain ⟨h1,h2⟩:=Vb.1 h;rw [UL]
  split
  .rename_i q;refine Vb.2 ⟨fun z hz=>?_,h⟩;rcases YM.1 hz with rfl|hz
   .omega
   .have:=h1 z hz;omega
  .split
   .exact h
   .refine Vb.2 ⟨fun z hz=>?_,Sw h2⟩;rcases Fs.1 hz with hz|rfl
    .exact h1 z hz
    .omega
def QM:LI->Int->LI
 | [],_=>[]
 | x::r,y=>if x=y then QM r y else x::QM r y
def FG:∀(xs:LI) (y:Int),(QM xs y).length<=xs.length
 | [],y=>X8 _
 | x::r,y=>by
  have:=FG r y;rw [QM]
  split
  .rw [YR];omega
  .rw [YR,YR];omega
def En:∀{xs:LI} {y z:Int},z∈QM xs y->z∈xs
 | [],y,z,h=>by rw [QM] at h;exact h
 | x::r,y,z,h=>by
  rw [QM] at h
  split at h
  .exact XF _<|En h
  .rcases YM.1 h with rfl|h
   .exact Xn ..
   .exact XF _<|En h
def Zie {xs acc r:LI} {y x:Int} {k:Nat} (hx:xs[k]? = some x) (h:acc++QM (xs.drop k) y=r):(if x≠y then acc++[x] else acc)++QM (xs.drop (k+1)) y=r:=by
 rw [Yc hx,QM] at h;by_cases q:x=y
 .rw [Zg q] at h;rw [Z8 (fun z=>z q)];exact h
 .rw [Z8 q] at h;rw [Zg q,<-h];simp
def Zid {xs acc r:LI} {y:Int} {k:Nat} (hk:xs.length<=k) (h:acc++QM (xs.drop k) y=r):acc=r:=by
 rw [Xk hk,QM,JF] at h;exact h
def Tu (n:Int) (xs:LI) (a:Int):LI:=if 0<=a/\a<n then UL xs a else xs
def Kv (n:Int):LI->LI->LI
 | [],xs=>xs
 | a::r,xs=>Kv n r (Tu n xs a)
mutual
def Aw (n:Int):Z4->LI->LI
 | .mk op _ _ args kids,xs=>if Yv op=true then xs else A9 n kids (Kv n args xs)
def A9 (n:Int):List Z6->LI->LI
 | [],xs=>xs
 | b::r,xs=>A9 n r (TK n b xs)
def TL (n:Int):List Z4->LI->LI
 | [],xs=>xs
 | s::r,xs=>TL n r (Aw n s xs)
def TK (n:Int):Z6->LI->LI
 | .mk steps result,xs=>Tu n (TL n steps xs) result
end
section
variable {n:Int}
def Z5h (s:Z4) (xs:LI):Aw n s xs=if Yv s.op=true then xs else A9 n s.kids (Kv n s.args xs):=by cases s;rw [Aw];rfl
def Z5f (b:Z6) (xs:LI):TK n b xs=Tu n (TL n b.steps xs) b.result:=by cases b;rw [TK];rfl
def In (xs:LI) (a:Int):(Tu n xs a).length<=xs.length+1:=by
 rw [Tu];split
 .exact E8 xs a
 .omega
def Z5e:∀(as1 xs:LI),(Kv n as1 xs).length<=xs.length+as1.length
 | [],xs=>X8 _
 | a::r,xs=>by
  have h1:=Z5e r (Tu n xs a);have h2:=In (n:=n) xs a;rw [Kv,YR];omega
mutual
def Z5i:∀(s:Z4) (xs:LI),(Aw n s xs).length<=xs.length+s.sz
 | .mk op num into args kids,xs=>by
  have h1:=Z5g kids (Kv n args xs);have h2:=Z5e (n:=n) args xs;rw [Aw,Z4.sz];split<;>omega
def Z5g:∀(bs:List Z6) (xs:LI),(A9 n bs xs).length<=xs.length+YT bs
 | [],xs=>X8 _
 | b::r,xs=>by
  have h1:=Z5g r (TK n b xs);have h2:=Im b xs;rw [A9,YT];omega
def Od:∀(bs:List Z4) (xs:LI),(TL n bs xs).length<=xs.length+Ya bs
 | [],xs=>X8 _
 | b::r,xs=>by
  have h1:=Od r (Aw n b xs);have h2:=Z5i b xs;rw [TL,Ya];omega
def Im:∀(b:Z6) (xs:LI),(TK n b xs).length<=xs.length+b.sz
 | .mk steps result,xs=>by
  have h1:=Od steps xs;have h2:=In (n:=n) (TL n steps xs) result;rw [TK,Z6.sz];omega
end
def Znn {as1 ys r:LI} {k:Nat} {a:Int} (h:as1[k]? = some a) (ha:Kv n (as1.drop k) ys=r):Kv n (as1.drop (k+1)) (Tu n ys a)=r:=by
 rw [Yc h,Kv] at ha;exact ha
def Znp {bs:List Z6} {ys r:LI} {k:Nat} {b:Z6} (h:bs[k]? = some b) (ha:A9 n (bs.drop k) ys=r):A9 n (bs.drop (k+1)) (TK n b ys)=r:=by
 rw [Yc h,A9] at ha;exact ha
def Znr {bs:List Z4} {ys r:LI} {k:Nat} {b:Z4} (h:bs[k]? = some b) (ha:TL n (bs.drop k) ys=r):TL n (bs.drop (k+1)) (Aw n b ys)=r:=by
 rw [Yc h,TL] at ha;exact ha
def Znm {as1 ys r:LI} {k:Nat} (h:as1.length<=k) (ha:Kv n (as1.drop k) ys=r):ys=r:=by rw [Xk h,Kv] at ha;exact ha
def Zno {bs:List Z6} {ys r:LI} {k:Nat} (h:bs.length<=k) (ha:A9 n (bs.drop k) ys=r):ys=r:=by rw [Xk h,A9] at ha;exact ha
def Znq {bs:List Z4} {ys r:LI} {k:Nat} (h:bs.length<=k) (ha:TL n (bs.drop k) ys=r):ys=r:=by rw [Xk h,TL] at ha;exact ha
end
end Go.Abs
section
namespace Go.Abs
def Z0e {xs:List Z4} {k:Nat} {s:Z4} {r:Nat} (h:xs[k]? = some s) (hs:Yv s.op=true) (ha:k+Yk (xs.drop k)=r):k+1+Yk (xs.drop (k+1))=r:=by
 rw [Yc h,Yk,Zg hs] at ha;omega
def Z0f {xs:List Z4} {k:Nat} {s:Z4} {r:Nat} (h:xs[k]? = some s) (hs:¬Yv s.op=true) (ha:k+Yk (xs.drop k)=r):k=r:=by
 rw [Yc h,Yk,Z8 hs] at ha;omega
def Z0d {xs:List Z4} {k r:Nat} (h:xs.length<=k) (ha:k+Yk (xs.drop k)=r):k=r:=by
 rw [Xk h,Yk] at ha;omega
def OZ {op x:Int} {xs:List Z4} {k:Nat} {s:Z4} {r:Int} (h:xs[k]? = some s) (hs:s.op=op/\gI s.args 0=x) (ha:XA op x (xs.drop k) k=r):(k:Int)=r:=by
 rw [Yc h,XA,Zg hs] at ha;exact ha
def IW {op x:Int} {xs:List Z4} {k:Nat} {s:Z4} {r:Int} (h:xs[k]? = some s) (hs:¬(s.op=op/\gI s.args 0=x)) (ha:XA op x (xs.drop k) k=r):XA op x (xs.drop (k+1)) ((k+1:Nat):Int)=r:=by
 rw [Yc h,XA,Z8 hs] at ha;rw [<-ha];congr 1
def OU {op x:Int} {xs:List Z4} {k:Nat} {r:Int} (h:xs.length<=k) (ha:XA op x (xs.drop k) k=r):-1=r:=by
 rw [Xk h,XA] at ha;exact ha
def PM {many:Nat} {xs:List Z4} {k:Nat} {s:Z4} {r:Int} (h:xs[k]? = some s) (hs:KI many s) (ha:Xy many (xs.drop k) k=r):(k:Int)=r:=by
 rw [Yc h,Xy,Zg hs] at ha;exact ha
def PL {many:Nat} {xs:List Z4} {k:Nat} {s:Z4} {r:Int} (h:xs[k]? = some s) (hs:¬KI many s) (ha:Xy many (xs.drop k) k=r):Xy many (xs.drop (k+1)) ((k+1:Nat):Int)=r:=by
 rw [Yc h,Xy,Z8 hs] at ha;rw [<-ha];congr 1
def PI {many:Nat} {xs:List Z4} {k:Nat} {r:Int} (h:xs.length<=k) (ha:Xy many (xs.drop k) k=r):-1=r:=by
 rw [Xk h,Xy] at ha;exact ha
def Z2j {xs:List Z4} {x:Int} {many:Nat} (h:Wn xs x<0∨XX xs many<0):V4 xs x many=xs:=Zg h
def Z2l {xs:List Z4} {x:Int} {many:Nat} {s:Z4} (h:¬(Wn xs x<0∨XX xs many<0)) (hs:AN xs (XX xs many)=s):(xs.set (Wn xs x).toNat (Zz 17 x)).set (XX xs many).toNat (Uo (1+x) s)=V4 xs x many:=by
 rw [V4,Z8 h,hs]
def Qb (xs:List Z4):(Zc (Zv xs)).length=xs.length*5:=by rw [T3 _ (Xr _)];simp
def DW (s:Z4) (r:List Z4):Zc (Zv (s::r))=Xp s++Zc (Zv r):=by rw [U2,U2];rfl
def RG {xs:List Z4} {k:Nat} {x:Z4} (h:xs[k]? = some x):Zc (Zv<|xs.take k)++Zc [YL x]=Zc (Zv<|xs.take (k+1)):=by
 rw [WO h,V7,Uk,DW];have:Zc (Zv [])=[]:=by rw [U2];rfl
 rw [this];rfl
def H4 {xs:List Z4} {i:Nat} {s:Z4} (h:xs[i]? = some s):Zc (Zv xs)=Zc (Zv<|xs.take i)++(Xp s++Zc (Zv<|xs.drop (i+1))):=by
 have hi:=(Xv.1 h).1;have e:xs=xs.take i++(s::xs.drop (i+1)):=by rw [<-Yc h,Ty]
 conv=>lhs;rw [e,V7,Uk,DW]
def H3 {xs:List Z4} {i:Nat} {s t:Z4} (h:xs[i]? = some s):(Zc (Zv xs)).take (i*5)++Xp t++(Zc (Zv xs)).drop (i*5+(Xp t).length)=Zc (Zv<|xs.set i t):=by
 have hi:=(Xv.1 h).1;have hl:(Zc (Zv<|xs.take i)).length=i*5:=by rw [Qb,WK,Vz om]
 rw [H4 h,Cu (xs:=Xp s) (ys:=Xp t) hl rfl];have e:xs.set i t=xs.take i++(t::xs.drop (i+1)):=by rw [Du,Zg hi]
 rw [e,V7,Uk,DW]
def M0 {xs:List Z4} {i:Nat} {s:Z4} (h:xs[i]? = some s):((Zc<|Zv xs).drop (i*5)).take (Xp s).length=Xp s:=by
 have hi:=(Xv.1 h).1;have hl:(Zc (Zv<|xs.take i)).length=i*5:=by rw [Qb,WK,Vz om]
 rw [H4 h];exact HV hl
def Zbg {xs:List Z4} {i:Nat} {s:Z4} (v:Int) (h:xs[i]? = some s):(Zc (Zv xs)).take (i*5)++[.i v]++(Zc (Zv xs)).drop (i*5+1)=Zc (Zv<|xs.set i<|.mk v s.num s.into s.args s.kids):=by
 have hi:=(Xv.1 h).1;have hl:(Zc (Zv<|xs.take i)).length=i*5:=by rw [Qb,WK,Vz om]
 have e:Xp s=[.i s.op]++[.i s.num,.i s.into,Z5 s.args,W4 s.kids]:=rfl;rw [H4 h,e,Uq [AV.i s.op]];have q:=Cu (A:=Zc (Zv<|xs.take i)) (xs:=[.i s.op]) (ys:=[.i v]) (B:=[.i s.num,.i s.into,Z5 s.args,W4 s.kids]++Zc (Zv<|xs.drop (i+1))) hl rfl;refine q.trans ?_;have e2:xs.set i (.mk v s.num s.into s.args s.kids)=xs.take i++(.mk v s.num s.into s.args s.kids::xs.drop (i+1)):=by rw [Du,Zg hi]
 rw [e2,V7,Uk,DW];rfl
def Zbf {xs:List Z4} {i:Nat} {s:Z4} (v:Int) (h:xs[i]? = some s):(Zc (Zv xs)).take (i*5+2)++[.i v]++(Zc (Zv xs)).drop (i*5+2+1)=Zc (Zv<|xs.set i<|Uo v s):=by
 have hi:=(Xv.1 h).1;have hl:(Zc (Zv<|xs.take i)).length=i*5:=by rw [Qb,WK,Vz om]
 have e:Xp s=[.i s.op,.i s.num]++([.i s.into]++[Z5 s.args,W4 s.kids]):=rfl;rw [H4 h,e,Uq [AV.i s.op,.i s.num],<-Uq (Zc<|Zv<|xs.take i)];have q:=Cu (A:=Zc (Zv<|xs.take i)++[.i s.op,.i s.num]) (xs:=[.i s.into]) (ys:=[.i v]) (B:=[Z5 s.args,W4 s.kids]++Zc (Zv<|xs.drop (i+1))) (o:=i*5+2) (by simp [hl]) rfl;rw [Uq [AV.i s.into]];refine q.trans ?_;have e2:xs.set i (Uo v s)=xs.take i++(Uo v s::xs.drop (i+1)):=by rw [Du,Zg hi]
 rw [e2,V7,Uk,DW,Uq];rfl
structure JI (xs:LI) (v:Int) (k:Nat) (acc:LI) (d:Bool):Prop where
 len:acc.length<=k+(if d=true then 1 else 0)
 sub:∀z∈acc,z∈xs.take k∨z=v
 all:∀z∈xs.take k,z∈acc
 done:d=true->v∈acc
def JI.zero (xs:LI) (v:Int):JI xs v 0 [] false:=⟨by simp,by simp,by simp,by simp⟩
def JI.step {xs:LI} {v:Int} {k:Nat} {acc:LI} {d:Bool} {x:Int} (h:JI xs v k acc d) (hx:xs[k]? = some x) {acc2:LI} {d2:Bool}
  (hc:(acc2=acc++[x]/\d2=d)∨(acc2=(acc++[v])++[x]/\d2=true/\¬d=true)∨(acc2=acc++[x]/\d2=true/\x=v)):JI xs v (k+1) acc2 d2:=by
 obtain ⟨h1,h2,h3,h4⟩:=h;have ht:∀z,z∈xs.take (k+1)↔z∈xs.take k∨z=x:=fun z=>by rw [WO hx];simp
 rcases hc with ⟨rfl,rfl⟩|⟨rfl,rfl,hd⟩|⟨rfl,rfl,rfl⟩
 .refine ⟨by simp;omega,fun z hz=>?_,fun z hz=>?_,fun q=>List.mem_append_left _<|h4 q⟩
  .rw [ht];rcases Xh.1 hz with hz|hz
   .rcases h2 z hz with q|q
    .exact .inl<|.inl q
    .exact .inr q
   .exact .inl<|.inr<|XI.1 hz
  .rcases (ht z).1 hz with q|q
   .exact List.mem_append_left _<|h3 z q
   .subst q;simp
 .rw [Z8 hd] at h1;refine ⟨by simp;omega,fun z hz=>?_,fun z hz=>?_,fun _=>by simp⟩
  .rw [ht];simp only [Xh,XI] at hz;rcases hz with (hz|hz)|hz
   .rcases h2 z hz with q|q
    .exact .inl<|.inl q
    .exact .inr q
   .exact .inr hz
   .exact .inl<|.inr hz
  .rcases (ht z).1 hz with q|q
   .exact List.mem_append_left _<|List.mem_append_left _<|h3 z q
   .subst q;simp
 .refine ⟨by simp;split at h1<;>omega,fun z hz=>?_,fun z hz=>?_,fun _=>by simp⟩
  .rw [ht];rcases Xh.1 hz with hz|hz
   .rcases h2 z hz with q|q
    .exact .inl<|.inl q
    .exact .inr q
   .exact .inl<|.inr<|XI.1 hz
  .rcases (ht z).1 hz with q|q
   .exact List.mem_append_left _<|h3 z q
   .subst q;simp
def JI.fin {xs:LI} {v:Int} {k:Nat} {acc:LI} {d:Bool} (h:JI xs v k acc d) (hk:k=xs.length) :
  (d=true->acc.length<=xs.length+1/\∀z,z∈acc↔z∈xs∨z=v)/\(¬d=true->(acc++[v]).length<=xs.length+1/\∀z,z∈acc++[v]↔z∈xs∨z=v):=by
 obtain ⟨h1,h2,h3,h4⟩:=h;subst hk;rw [VP] at h2 h3;refine ⟨fun hd=>?_,fun hd=>?_⟩
 .rw [Zg hd] at h1;exact ⟨h1,fun z=>⟨h2 z,fun q=>q.elim (h3 z) fun e=>e▸h4 hd⟩⟩
 .rw [Z8 hd] at h1;refine ⟨by simp;omega,fun z=>?_⟩;rw [Xh,XI];exact ⟨fun q=>q.elim (h2 z) .inr,fun q=>q.elim (fun e=>.inl<|h3 z e) .inr⟩
end Go.Abs
namespace Go.Abs
def JI.go {xs:LI} {v:Int} {k:Nat} {acc:LI} {d:Bool} {x:Int} (h:JI xs v k acc d) (hx:xs[k]? = some x) {acc2:LI} {d2:Bool}
  (hc:(acc2=acc/\d2=d)∨(acc2=acc++[v]/\d2=true/\¬d=true)∨(acc2=acc/\d2=true/\x=v)):JI xs v (k+1) (acc2++[x]) d2:=by
 refine h.step hx ?_;rcases hc with ⟨e1,e2⟩|⟨e1,e2,e3⟩|⟨e1,e2,e3⟩
 .exact .inl ⟨by rw [e1],e2⟩
 .exact .inr<|.inl ⟨by rw [e1],e2,e3⟩
 .exact .inr<|.inr ⟨by rw [e1],e2,e3⟩
section
variable {ds:List Zh} {kept K2:LI} {op num x:Int} {args:LI} {j many:Nat} {kd:Z6}
def Z31 (h8:op=8) (hx:gI args 0=x) (hk:¬x∈kept) (hm:(VK ds num j).length=many) (hq:¬(Wn kd.steps x<0∨XX kd.steps many<0)) (hK:∀z,z∈K2↔z∈kept∨z=x):ruB ds K2 (V0 kd x many)=TH ds kept op num args j kd:=by
 subst hx hm;have e:∀z,z∈K2↔z∈gI args 0::kept:=fun z=>by rw [hK z,YM];exact Or.comm
 rw [TH,Zg ⟨h8,hk⟩,Hv,Z8 hq,Z2z,Nz kd e]
def Z32 (h8:op=8) (hx:gI args 0=x) (hk:¬x∈kept) (hm:(VK ds num j).length=many) (hq:Wn kd.steps x<0∨XX kd.steps many<0):ruB ds kept (V0 kd x many)=TH ds kept op num args j kd:=by
 subst hx hm;rw [TH,Zg ⟨h8,hk⟩,Hv,Zg hq,Z2z]
def Es (h:¬(op=8/\¬gI args 0∈kept)):ruB ds kept kd=TH ds kept op num args j kd:=by rw [TH,Z8 h]
end
def Pq {op:Int} {c:LI} (h:Yv op=true):UR op c=c.set (op-14).toNat (gI c (op-14)+1):=Zg h
def Pp {op:Int} {c:LI} (h:¬Yv op=true):UR op c=c:=Z8 h
def PR {op:Int} (h:Yv op=true):14<=op/\op<=17:=by simpa [Yv] using h
end Go.Abs
namespace Go.Abs
def L4:∀(xs:List Z6) (b:Z6),YT (xs++[b])=YT xs+b.sz
 | [],b=>by rw [BW,YT,YT,YT];omega
 | x::r,b=>by rw [QQ,YT,YT,L4 r b];omega
def DG:∀{xs:List Z6} {k:Nat} {b:Z6},xs[k]? = some b->YT (xs.take k)+b.sz<=YT xs
 | [],_,_,h=>by simp at h
 | x::r,0,b,h=>by simp at h;subst h;simp [YT]
 | x::r,k+1,b,h=>by
  have:=DG (xs:=r) (k:=k) (by simpa using h);rw [CJ,YT,YT];omega
def ET {xs:List Z6} {k:Nat} (h:xs.length<=k):YT (xs.take k)=YT xs:=by rw [Vc h]
end Go.Abs
end
namespace Go.Abs
def Z4m {xs:List Z4} {k:Nat} {s:Z4} (h:xs[k]? = some s):Ya (xs.drop k)=s.sz+Ya (xs.drop (k+1)):=by rw [Yc h,Ya]
def Z4n (xs:List Z4) (k:Nat):Ya (xs.drop k)<=Ya xs:=by
 have h:=Ys Ya (Ty k xs);rw [Qj] at h;omega
def Gt {xs:List Z6} {k:Nat} {b:Z6} (h:xs[k]? = some b):YT (xs.take (k+1))=YT (xs.take k)+b.sz:=by rw [WO h,ES,YT,YT];rfl
structure CL (ds:List Zh) (nf m:Nat) (xs:List Z4) (d z:Nat):Prop where
 fs:TV ds nf m xs
 dn:X9 xs=d
 op:QL Ub xs
 sz:Ya xs<=z
section
variable {ds:List Zh} {nf m d z:Nat} {xs:List Z4}
def CL.nil:CL ds nf m [] 0 0:=⟨True.intro,rfl,True.intro,X8 _⟩
def CL.len (h:CL ds nf m xs d z):xs.length<=z:=Vy (A4 xs) h.sz
def CL.le (h:CL ds nf m xs d z) {z2:Nat} (hz:z<=z2):CL ds nf m xs d z2:=⟨h.fs,h.dn,h.op,Vy h.sz hz⟩
def Zay {op v:Int} (ho:op=14∨op=15) (hv:0<=v/\v<(m:Int)):fS ds nf m (Zz op v):=by
 rw [Zz,fS];exact ⟨.inr om,fun a ha=>by rw [XI.1 ha];exact hv,fun _=>⟨rfl,rfl,rfl,v,rfl⟩,fun h=>by omega,fun h=>by omega,fun h=>by omega,fun h=>by omega,by omega,by omega,by simp,fun _=>rfl,True.intro⟩
def PQ {op:Int} (ho:op=14∨op=15):Yv op=true:=by simp [Yv];omega
def CL.cnt (h:CL ds nf m xs d z) {op v:Int} (ho:op=14∨op=15) (hv:0<=v/\v<((m+d:Nat):Int)):CL ds nf m (xs++[Zz op v]) d (z+2):=by
 have hc:Yv (Zz op v).op=true:=PQ ho;refine ⟨GY h.fs (by rw [h.dn];exact Zay ho hv),?_,HM h.op ?_,?_⟩
 .rw [Am,h.dn,X9,Zg hc];rfl
 .rw [FF];exact ⟨by show op<=15;omega,True.intro⟩
 .have:=h.sz;have e:(Zz op v).sz=2:=rfl;rw [Qj,Ya,e,Ya];omega
def CL.cnts {op:Int} (ho:op=14∨op=15):∀{vs:LI} {xs:List Z4} {z:Nat},CL ds nf m xs d z->(∀v∈vs,0<=v/\v<((m+d:Nat):Int))->CL ds nf m (xs++vs.map (Zz op)) d (z+2*vs.length)
 | [],xs,z,h,_=>by simpa using h
 | v::r,xs,z,h,hv=>by
  have h1:=CL.cnts ho (vs:=r) (h.cnt ho<|hv v<|Xn ..) fun x hx=>hv x<|XF _ hx
  rw [Uh,show xs++Zz op v::r.map (Zz op)=xs++[Zz op v]++r.map (Zz op) by simp];exact h1.le (by rw [YR];omega)
def CL.one (h:CL ds nf m xs d z) {s:Z4} (hs:fS ds nf (m+d) s) (hc:Yv s.op=false) (ho:KY Ub s):CL ds nf m (xs++[s]) (d+1) (z+s.sz):=by
 refine ⟨GY h.fs (by rw [h.dn];exact hs),by rw [F4 hc,h.dn],HM h.op ho,?_⟩;have:=h.sz;rw [Qj,Ya,Ya];omega
def CL.app (h:CL ds nf m xs d z) {ys:List Z4} {d2 z2:Nat} (h2:CL ds nf (m+d) ys d2 z2):CL ds nf m (xs++ys) (d+d2) (z+z2):=by
 refine ⟨DU.2 ⟨h.fs,by rw [h.dn];exact h2.fs⟩,by rw [Am,h.dn,h2.dn],HL.2 ⟨h.op,h2.op⟩,?_⟩;have:=h.sz;have:=h2.sz;rw [Qj];omega
end
structure KB (ds:List Zh) (nf m:Nat) (b:Z6) (z:Nat):Prop where
 fb:fB ds nf m b
 op:VW Ub b
 sz:b.sz<=z
section
variable {ds:List Zh} {nf m d z:Nat} {xs:List Z4}
def CL.block (h:CL ds nf m xs d z) {r:Int} (hr:0<=r/\r<((m+d:Nat):Int)):KB ds nf m ⟨xs,r⟩ (1+z):=by
 refine ⟨by rw [fB,h.dn];exact ⟨h.fs,hr⟩,by rw [VW];exact h.op,?_⟩;have:=h.sz;rw [Z6.sz];omega
def KB.le {b:Z6} (h:KB ds nf m b z) {z2:Nat} (hz:z<=z2):KB ds nf m b z2:=⟨h.fb,h.op,Vy h.sz hz⟩
def KB.cl {b:Z6} (h:KB ds nf m b z):CL ds nf m b.steps (X9 b.steps) (z-1)/\0<=b.result/\b.result<((m+X9 b.steps:Nat):Int):=by
 obtain ⟨h1,h2⟩:=(Fe b).1 h.fb;refine ⟨⟨h1,U,(HK b).1 h.op,?_⟩,h2⟩;have:=h.sz;have:=b.sz_eq;omega
def KB.put {b:Z6} (h:KB ds nf m b z) {as1 bs:LI} (ha:∀v∈as1,0<=v/\v<(m:Int)) (hb:∀v∈bs,0<=v/\v<(m:Int)):KB ds nf m ⟨as1.map (Zz 14)++bs.map (Zz 15)++b.steps,b.result⟩ (z+2*as1.length+2*bs.length):=by
 obtain ⟨h1,h2⟩:=h.cl;have q1:CL ds nf m ([]++as1.map (Zz 14)) 0 (0+2*as1.length):=CL.nil.cnts (.inl rfl) ha;have q2:=(q1.cnts (op:=15) (.inr rfl) hb).app h1;have:=h.sz;have:=b.sz_eq;rw [BW,VH] at q2;exact (q2.block h2).le om
end
structure KK (ds:List Zh) (nf:Nat) (sc:Nat->Nat) (ks:List Z6) (z:Nat):Prop where
 fb:Qn ds nf sc 0 ks
 op:KX Ub ks
 sz:YT ks<=z
section
variable {ds:List Zh} {nf m z:Nat} {sc:Nat->Nat}
def KK.nil:KK ds nf sc [] 0:=⟨True.intro,True.intro,X8 _⟩
def KK.snoc {ks:List Z6} {b:Z6} {j z2:Nat} (h:KK ds nf sc ks z) (hj:ks.length=j) (hb:KB ds nf (sc j) b z2):KK ds nf sc (ks++[b]) (z+z2):=by
 refine ⟨Rv h.fb (by rw [hj];exact hb.fb),Z1h h.op hb.op,?_⟩;have:=h.sz;have:=hb.sz;rw [ES];simp only [YT];omega
def KK.le {ks:List Z6} (h:KK ds nf sc ks z) {z2:Nat} (hz:z<=z2):KK ds nf sc ks z2:=⟨h.fb,h.op,Vy h.sz hz⟩
def Rw {s:Z4} {ks:List Z6} {into:Int} (h:FS ds nf m s) (h11:s.op<=11) (hl:ks.length=s.kids.length) (hi:0<=into/\into<=m) (hk:KK ds nf (Ts ds s.op s.num m) ks z):fS ds nf m ⟨s.op,s.num,into,s.args,ks⟩/\KY Ub ⟨s.op,s.num,into,s.args,ks⟩/\(Z4.mk s.op s.num into s.args ks).sz<=5+z:=by
 refine ⟨?_,?_,?_⟩
 .rw [fS];refine ⟨h.op,h.args,fun q=>by omega,fun q=>by rw [hl];exact h.k7 q,fun q=>by rw [hl];exact h.k8 q,h.one,h.call,h.num,hi,h.alen,fun q=>?_,hk.fb⟩;have:=h.kn q;rw [this] at hl;exact List.eq_nil_of_length_eq_zero hl
 .rw [KY];exact ⟨by show s.op<=15;omega,hk.op⟩
 .have:=h.alen;have:=hk.sz;rw [Z4.sz];omega
end
structure KT (ds:List Zh) (nf m:Nat) (st:Z4) (z:Nat):Prop where
 fs:fS ds nf m st
 cb:Yv st.op=false
 op:KY Ub st
 sz:st.sz<=z
def KT.of {ds:List Zh} {nf m z:Nat} {s:Z4} {ks:List Z6} {into:Int} (h:FS ds nf m s) (h11:s.op<=11) (hl:ks.length=s.kids.length) (hi:0<=into/\into<=m) (hk:KK ds nf (Ts ds s.op s.num m) ks z):KT ds nf m ⟨s.op,s.num,into,s.args,ks⟩ (5+z):=by
 obtain ⟨h1,h2,h3⟩:=Rw h h11 hl hi hk;exact ⟨h1,by show Yv s.op=false;simp [Yv];omega,h2,h3⟩
def CL.kt {ds:List Zh} {nf m d z z2:Nat} {xs:List Z4} {st:Z4} (h:CL ds nf m xs d z) (hs:KT ds nf (m+d) st z2):CL ds nf m (xs++[st]) (d+1) (z+z2):=(h.one hs.fs hs.cb hs.op).le (by have:=hs.sz;omega)
def FS.few {ds:List Zh} {nf m:Nat} {s:Z4} (h:FS ds nf m s) (hd:Wq ds):s.kids.length<=3:=by
 by_cases h7:s.op=7
 .have:=h.k7 h7;omega
 .by_cases h8:s.op=8
  .have:=h.k8 h8;have:=N4 hd s.num;omega
  .rw [h.kn ⟨h7,h8⟩];simp
def RF.lend {ds:List Zh} {nf q:Nat} {p:Int->Prop} {r:Y9} {l:LI} (h:RF ds nf q p r) (h1:l.length<=3) (h2:∀v∈l,0<=v/\v<(r.1.length:Int)):RF ds nf q p ⟨r.1,l,r.result,r.4⟩:=⟨h.sig,⟨h1,h2⟩,h.body,h.op⟩
def RF.with {ds:List Zh} {nf q q2:Nat} {p p2:Int->Prop} {r:Y9} {b:Z6} (h:RF ds nf q p r) (h1:fB ds nf r.1.length b) (h2:b.sz<=q2) (h3:VW p2 b):RF ds nf q2 p2 ⟨r.1,r.2,r.result,b⟩:=⟨h.sig,h.lent,⟨h1,h2⟩,h3⟩
def Z6.eta (b:Z6):Z6.mk b.steps b.result=b:=by cases b;rfl
def LC.at {n:Zm} {k:Nat} {xs:List LI} {i:Nat} {l:LI} {r:Y9} (h:LC n k xs) (hl:xs[i]? = some l) (hr:n.2[i]? = some r):l.length<=3/\∀v∈l,0<=v/\v<(r.1.length:Int):=⟨(h.ok i l hl).1,(h.ok i l hl).2 r hr⟩
def Ln:∀{xs:List Z4},(∀s∈xs,KY Vd s)->∀k,k<=xs.length->X9 (xs.take k)=k
 | _,_,0,_=>rfl
 | [],_,k+1,h=>absurd h (by simp)
 | x::r,h,k+1,hk=>by
  have h1:=((FF x).1<|h x<|Xn ..).1;have hc:Yv x.op=false:=by have:x.op<=11:=h1;simp [Yv];omega
  rw [CJ,X9,Z8 (by rw [hc];simp),Ln (fun s hs=>h s<|XF _ hs) k (by simpa using hk)];omega
def KB.put1 {ds:List Zh} {nf m z:Nat} {b:Z6} (h:KB ds nf m b z) {op:Int} (ho:op=14∨op=15) {as1:LI} (ha:∀v∈as1,0<=v/\v<(m:Int)):KB ds nf m ⟨as1.map (Zz op)++b.steps,b.result⟩ (z+2*as1.length):=by
 obtain ⟨h1,h2⟩:=h.cl;have q1:CL ds nf m ([]++as1.map (Zz op)) 0 (0+2*as1.length):=CL.nil.cnts ho ha;have q2:=q1.app h1;have:=h.sz;have:=b.sz_eq;rw [BW,VH] at q2;exact (q2.block h2).le om
def FO.fin {n:Zm} {rs:List Y9} {q q2:Nat} {p:Int->Prop} (h:FN n q2) (e:rs.length=n.2.length) (hr:∀r∈rs,RF n.1 n.2.length q p r):FO ⟨n.1,rs⟩ q p/\rs.length=n.2.length:=
 ⟨FO.all h.decls (by show 1<=rs.length/\rs.length<=4;rw [e];exact h.len) (by show ∀r∈rs,RF n.1 rs.length q p r;rw [e];exact hr),e⟩
def KT.le {ds:List Zh} {nf m z z2:Nat} {st:Z4} (h:KT ds nf m st z) (hz:z<=z2):KT ds nf m st z2:=⟨h.fs,h.cb,h.op,Vy h.sz hz⟩
def KB.len {ds:List Zh} {nf m z:Nat} {b:Z6} (h:KB ds nf m b z):b.steps.length<=z:=by
 have:=h.sz;have:=b.sz_eq;have:=A4 b.steps;omega
def Uj:List Z4->Int->Nat
 | [],_=>0
 | s::r,v=>(if gI s.args 0=v then 1 else 0)+Uj r v
def U8 (rn:List Z4):LI->Nat
 | []=>0
 | v::r=>Uj rn v+U8 rn r
def Ld:∀(xs ys:List Z4) (v:Int),Uj (xs++ys) v=Uj xs v+Uj ys v
 | [],ys,v=>by simp [Uj]
 | x::r,ys,v=>by rw [QQ,Uj,Uj,Ld r];omega
def Z8e {xs:List Z4} {k:Nat} {s:Z4} (h:xs[k]? = some s) (v:Int):Uj (xs.take (k+1)) v=Uj (xs.take k) v+(if gI s.args 0=v then 1 else 0):=by
 rw [WO h,Ld,Uj,Uj];omega
def PC:∀(xs:List Z4) (v:Int),Uj xs v<=xs.length
 | [],v=>X8 _
 | x::r,v=>by have:=PC r v;rw [Uj,YR];split<;>omega
def Z8f (xs:List Z4) (k:Nat) (v:Int):Uj (xs.take k) v<=Uj xs v:=by
 have h:=Ys (Uj · v) (Ty k xs);simp only [Ld] at h;omega
def O3 (rn:List Z4):∀xs ys:LI,U8 rn (xs++ys)=U8 rn xs+U8 rn ys
 | [],ys=>by simp [U8]
 | x::r,ys=>by rw [QQ,U8,U8,O3 rn r];omega
def Zn7 {rn:List Z4} {xs:LI} {k:Nat} {v:Int} (h:xs[k]? = some v):U8 rn (xs.take (k+1))=U8 rn (xs.take k)+Uj rn v:=by
 rw [WO h,O3,U8,U8];rfl
def Z53 (s:Z4) (r:List Z4):∀vs:LI,CP vs->U8 (s::r) vs<=1+U8 r vs/\(¬gI s.args 0∈vs->U8 (s::r) vs=U8 r vs)
 | [],_=>by simp [U8]
 | v::vs,h=>by
  obtain ⟨h1,h2⟩:=Vb.1 h;obtain ⟨q1,q2⟩:=Z53 s r vs h2;rw [U8,U8,Uj];by_cases e:gI s.args 0=v
  .have hn:¬gI s.args 0∈vs:=fun z=>by have:=h1 _ z;omega
   rw [Zg e,q2 hn];exact ⟨by omega,fun z=>absurd (YM.2<|.inl e) z⟩
  .rw [Z8 e];exact ⟨by omega,fun z=>by rw [q2 fun y=>z<|XF _ y];omega⟩
def Z54:∀(rn:List Z4) {vs:LI},CP vs->U8 rn vs<=rn.length
 | [],vs,_=>by
  have:∀xs:LI,U8 [] xs=0:=fun xs=>by
   induction xs with
   | nil=>rfl
   | cons x r ih=>rw [U8,ih];rfl
  rw [this];exact JG _
 | s::r,vs,h=>by
  have h1:=(Z53 s r vs h).1;have h2:=Z54 r h;rw [YR];omega
def O4 (rn:List Z4) (xs:LI) (k:Nat):U8 rn (xs.take k)<=U8 rn xs:=by
 have h:=Ys (U8 rn) (Ty k xs);rw [O3] at h;omega
def Ou (m:Nat) (rn:List Z4):Prop:=∀s∈rn,∃a,s.args=[a]/\0<=a/\a<(m:Int)
def R6 {xs:List Z4} {k:Nat} {s:Z4} (h:xs[k]? = some s):X9 (xs.take (k+1))=X9 (xs.take k)+(if Yv s.op=true then 0 else 1):=by rw [WO h,Am,X9,X9];rfl
def KT.eq {ds:List Zh} {nf m z:Nat} {s:Z4} {ks:List Z6} (h:FS ds nf m s) (h11:s.op<=11) (hl:ks.length=s.kids.length) (hk:KK ds nf (Ts ds s.op s.num m) ks z):KT ds nf m ⟨s.op,s.num,s.into,s.args,ks⟩ (1+s.args.length+z):=by
 obtain ⟨h1,h2,h3⟩:=Rw h h11 hl h.into hk;refine ⟨h1,by show Yv s.op=false;simp [Yv];omega,h2,?_⟩;have:=hk.sz;rw [Z4.sz];omega
def FS.pair {ds:List Zh} {nf m:Nat} {s:Z4} (h:FS ds nf m s) (hp:s.op=14∨s.op=15):(∃a,s.args=[a]/\0<=a/\a<(m:Int))/\s.sz=2/\Yv s.op=true:=by
 obtain ⟨h1,h2,h3,a,h4⟩:=h.cnt om;have h5:=h.args a (by rw [h4];exact XI.2 rfl);refine ⟨⟨a,h4,h5⟩,?_,PQ hp⟩;rw [s.sz_eq,h3,h4];rfl
def FS.not_pair {ds:List Zh} {nf m:Nat} {s:Z4} (h:FS ds nf m s) (hp:¬(s.op=14∨s.op=15)) (h15:Ub s.op):s.op<=11/\Yv s.op=false:=by
 have h1:s.op<=15:=h15;have h2:=h.op;exact ⟨by omega,by simp [Yv];omega⟩
def CL.run {ds:List Zh} {nf m d z:Nat} {xs:List Z4} {D R:LI} {rn:List Z4} (h:CL ds nf m xs d z) (hr:Ou (m+d) rn) (hD:∀v∈D,∃s∈rn,s.args=[v]) (hR:∀v∈R,∃s∈rn,s.args=[v]):CL ds nf m (xs++(D.map (Zz 14)++R.map (Zz 15))) d (z+2*(D.length+R.length)):=by
 have key:∀(A:LI),(∀v∈A,∃s∈rn,s.args=[v])->∀v∈A,0<=v/\v<((m+d:Nat):Int):=fun A hA v hv=>by
  obtain ⟨s,hs,e⟩:=hA v hv;obtain ⟨a,e2,e3⟩:=hr s hs;rw [e] at e2;cases e2;exact e3
 have h2:=(h.cnts (op:=14) (.inl rfl)<|key D hD).cnts (op:=15) (.inr rfl) (key R hR);rw [<-Uq];exact h2.le om
def WZ (xs:List Z4) (i:Nat) (s:Z4):List Z4:=xs.take i++[s]++xs.drop i
def FL {xs:List Z4} (i:Nat) (s:Z4):Ya (WZ xs i s)=Ya xs+s.sz:=by
 have h:=Ys Ya (Ty i xs);rw [Qj] at h;rw [WZ,Qj,Qj,Ya,Ya];omega
def Z1z {xs:List Z4} {i:Nat} {s:Z4} (h:i<=xs.length):(WZ xs i s).length=xs.length+1:=by
 simp [WZ,Vz h];omega
def E4 (b:Z6) (i j:Nat) (v:Int):Z6:=⟨WZ (WZ b.steps j<|Zz 15 v) i<|Zz 14 v,b.result⟩
def withR (n:Zm) (f:Nat) (rt:Y9) (b:Z6):Zm:=⟨n.1,n.2.set f ⟨rt.1,rt.2,rt.result,b⟩⟩
def IH (n n2:Zm):Prop:=n2=n∨∃f rt i j v,n.2[f]? = some rt/\i<=j/\j<=rt.4.steps.length/\0<=v/\v<((rt.1.length+X9 (rt.4.steps.take i):Nat):Int)/\n2=withR n f rt (E4 rt.4 i j v)
def CL.put {ds:List Zh} {nf m:Nat} {xs:List Z4} {d z:Nat} (h:CL ds nf m xs d z) {i:Nat} {op v:Int} (ho:op=14∨op=15) (hv:0<=v/\v<((m+X9 (xs.take i):Nat):Int)):CL ds nf m (WZ xs i<|Zz op v) d (z+2):=by
 have hs:=h.fs;have hp:=h.op;have e:=Ty i xs;rw [<-e] at hs hp;rw [DU] at hs;rw [HL] at hp;have h1:CL ds nf m (xs.take i) (X9<|xs.take i) (Ya<|xs.take i):=⟨hs.1,rfl,hp.1,X8 _⟩;have h2:CL ds nf (m+X9 (xs.take i)) (xs.drop i) (X9<|xs.drop i) (Ya<|xs.drop i):=⟨hs.2,rfl,hp.2,X8 _⟩;have h3:=(h1.cnt ho hv).app h2;have e1:=Ys Ya e;have e2:=Ys X9 e;rw [Qj] at e1;rw [Am,h.dn] at e2;have:=h.sz;rw [e2] at h3;exact h3.le om
def Zio {xs:List Z4} {i j:Nat} {s:Z4} (h:i<=j) (hj:j<=xs.length):(WZ xs j s).take i=xs.take i:=by
 rw [WZ,Uq,List.take_append_of_le_length (by rw [WK];omega),List.take_take,Vz h]
def Zdp {ds:List Zh} {nf m z:Nat} {b:Z6} (h:KB ds nf m b z) {i j:Nat} {v:Int} (hij:i<=j) (hj:j<=b.steps.length) (hv:0<=v/\v<((m+X9 (b.steps.take i):Nat):Int)):KB ds nf m (E4 b i j v) (z+4):=by
 obtain ⟨h1,h2⟩:=h.cl;have hm:X9 (b.steps.take i)<=X9 (b.steps.take j):=by
  have e:=Ys X9 (Ty i<|b.steps.take j);rw [Am,List.take_take,Vz hij] at e;omega
 have h3:=(h1.put (i:=j) (op:=15) (v:=v) (.inr rfl) om).put (i:=i) (op:=14) (v:=v) (.inl rfl) (by rw [Zio hij hj];exact hv);have:=h.sz;have:=b.sz_eq;exact (h3.block h2).le om
def FO.held {n n2:Zm} {q:Nat} (h:FO n q Ub) (hh:IH n n2):FO n2 (q+4) Ub:=by
 rcases hh with rfl|⟨f,rt,i,j,v,h1,h2,h3,h4,h5,rfl⟩
 .exact ⟨⟨h.fn.decls,h.fn.len,h.fn.sigs,h.fn.lent,fun r hr=>⟨(h.fn.body r hr).1,by have:=(h.fn.body r hr).2;omega⟩⟩,h.op⟩
 .have hr:=h.rf (Y0 h1);have hk:KB n.1 n.2.length rt.1.length (E4 rt.4 i j v) (q+4):=Zdp ⟨hr.body.1,hr.op,hr.body.2⟩ h2 h3 ⟨h4,h5⟩;refine FO.all h.fn.decls (by show 1<=(n.2.set _ _).length/\(n.2.set _ _).length<=4;rw [UO];exact h.fn.len) fun r hm=>?_
  show RF n.1 (n.2.set _ _).length _ _ r
  rw [UO];rcases List.mem_or_eq_of_mem_set hm with hm|rfl
  .have hq:=h.rf hm;exact ⟨hq.sig,hq.lent,⟨hq.body.1,by have:=hq.body.2;omega⟩,hq.op⟩
  .exact ⟨hr.sig,hr.lent,⟨hk.fb,hk.sz⟩,hk.op⟩
mutual
def Z4.rb:Z4->Prop
 | .mk _ _ _ _ kids=>Jf kids
def Jf:List Z6->Prop
 | []=>True
 | b::r=>Z6.rb b/\Jf r
def JB:List Z4->Prop
 | []=>True
 | s::r=>Z4.rb s/\JB r
def Z6.rb:Z6->Prop
 | .mk steps result=>JB steps/\-1000000000<=result/\result<=1000000000
end
def Z4.rb_eq (s:Z4):s.rb=Jf s.kids:=by cases s;rw [Z4.rb];rfl
def Z6.rb_eq (b:Z6):b.rb=(JB b.steps/\-1000000000<=b.result/\b.result<=1000000000):=by cases b;rw [Z6.rb];rfl
def Ks:∀{xs:List Z4},JB xs↔∀s∈xs,s.rb
 | []=>by simp [JB]
 | s::r=>by rw [JB,Ks];simp
def DF:∀{xs:List Z6},Jf xs↔∀s∈xs,s.rb
 | []=>by simp [Jf]
 | s::r=>by rw [Jf,DF];simp
section
variable {ds:List Zh} {nf:Nat}
mutual
def Zit:∀(s:Z4) {m:Nat},fS ds nf m s->m+4*s.sz<=900000000->Wq ds->s.rb
 | .mk op num into args kids,m,h,hb,hd=>by
  rw [fS] at h;obtain ⟨h1,h2,h3,h4,h5,h6,h7,h8,h9,h10,h11,h12⟩:=h;rw [Z4.sz] at hb;rw [Z4.rb];refine Z27 kids h12 (fun k=>?_) hd;have hf:=Uw hd (gI (Y1 ds num) k);show Ts ds op num m k+4*YT kids<=900000003
  rw [Ts];split<;>omega
def Z27:∀(bs:List Z6) {sc:Nat->Nat} {k:Nat},Qn ds nf sc k bs->(∀k,sc k+4*YT bs<=900000003)->Wq ds->Jf bs
 | [],_,_,_,_,_=>True.intro
 | b::r,sc,k,h,hb,hd=>by
  have hp:=b.sz_eq;exact ⟨Z26 b h.1 (by have:=hb k;rw [YT] at this;omega) hd,Z27 r h.2 (fun j=>by have:=hb j;rw [YT] at this;omega) hd⟩
def Z28:∀(xs:List Z4) {m:Nat},TV ds nf m xs->m+4*Ya xs<=900000000->Wq ds->JB xs
 | [],_,_,_,_=>True.intro
 | s::r,m,h,hb,hd=>by
  rw [Ya] at hb;have hp:=s.sz_pos;refine ⟨Zit s h.1 om hd,Z28 r h.2 ?_ hd⟩
  split<;>omega
def Z26:∀(b:Z6) {m:Nat},fB ds nf m b->m+4*b.sz<=900000004->Wq ds->b.rb
 | .mk steps result,m,h,hb,hd=>by
  rw [Z6.sz] at hb;rw [fB] at h;rw [Z6.rb];have h1:=Ca steps;have h2:steps.length<=Ya steps:=by
   clear h h1 hb
   induction steps with
   | nil=>simp
   | cons x r ih=>have:=x.sz_pos;rw [Ya,YR];omega
  exact ⟨Z28 steps h.1 om hd,by omega,by omega⟩
end
def Dj {op v:Int}:(Zz op v).rb:=by rw [Z4.rb_eq];exact True.intro
def Ziu {b:Z6} {x q:Int} {fs:LI} (h:b.rb):(Ae b x fs q).rb:=by
 rw [Z6.rb_eq,Ks] at h;rw [Z6.rb_eq,Ks];refine ⟨fun s hs=>?_,h.2⟩;have hs:s∈AB b.steps x fs q:=hs;rw [AB] at hs
 split at hs
 .simp only [Xh,XG,XI] at hs;rcases hs with ((⟨a,_,rfl⟩|rfl)|⟨a,_,rfl⟩)|hs
  .exact Dj
  .exact Dj
  .exact Dj
  .exact h.1 s<|List.mem_of_mem_drop hs
 .exact h.1 s hs
mutual
def Zix:∀(s:Z4) {m:Nat},s.rb->(BN ds m s).rb
 | .mk op num into args kids,m,h=>by
  rw [Z4.rb] at h;rw [BN,Z4.rb];exact Z2b kids h
def Z2b:∀(bs:List Z6) {m:Nat} {op num:Int} {args:LI} {k:Nat},Jf bs->Jf (Q4 ds m op num args bs k)
 | [],_,_,_,_,_,_=>by rw [Q4];exact True.intro
 | b::r,m,op,num,args,k,h=>by
  rw [Q4,Jf];refine ⟨?_,Z2b r h.2⟩
  split
  .exact Ziu<|Nr b h.1
  .exact Nr b h.1
def Z2c:∀(xs:List Z4) {m:Nat},JB xs->JB (Tb ds m xs)
 | [],_,_=>by rw [Tb];exact True.intro
 | s::r,m,h=>by rw [Tb,JB];exact ⟨Zix s h.1,Z2c r h.2⟩
def Nr:∀(b:Z6) {m:Nat},b.rb->(Vw ds m b).rb
 | .mk steps result,m,h=>by
  rw [Z6.rb] at h;rw [Vw,Z6.rb];exact ⟨Z2c steps h.1,h.2⟩
end
def Ziv {b:Z6} {x:Int} {many:Nat} (h:b.rb):(V0 b x many).rb:=by
 rw [Z6.rb_eq] at h;rw [V0,Z6.rb_eq];refine ⟨?_,h.2⟩;show JB (V4 b.steps x many)
 rw [V4]
 split
 .exact h.1
 .rename_i hq;obtain ⟨_,_,t,h5,h7,h6⟩:=KJ fun z=>hq<|.inr z
  have h:=h.1;rw [Ks] at h ⊢;intro s hs;rcases List.mem_or_eq_of_mem_set hs with hs|rfl
  .rcases List.mem_or_eq_of_mem_set hs with hs|rfl
   .exact h s hs
   .exact Dj
  .have:=h t (Y0 h5);rw [h6,Uo,Z4.rb_eq];rw [Z4.rb_eq] at this;exact this
mutual
def Ziw:∀(s:Z4) {K:LI},s.rb->(ruS ds K s).rb
 | .mk op num into args kids,K,h=>by
  rw [Z4.rb] at h;rw [ruS,Z4.rb];exact Z29 kids h
def Z29:∀(bs:List Z6) {K:LI} {op num:Int} {args:LI} {k:Nat},Jf bs->Jf (ruKs ds K op num args bs k)
 | [],_,_,_,_,_,_=>True.intro
 | b::r,K,op,num,args,k,h=>by
  rw [ruKs,Jf];refine ⟨?_,Z29 r h.2⟩
  split
  .exact Ziv<|Nq b h.1
  .exact Nq b h.1
def Z2a:∀(xs:List Z4) {K:LI},JB xs->JB (ruSs ds K xs)
 | [],_,_=>True.intro
 | s::r,K,h=>⟨Ziw s h.1,Z2a r h.2⟩
def Nq:∀(b:Z6) {K:LI},b.rb->(ruB ds K b).rb
 | .mk steps result,K,h=>by
  rw [Z6.rb] at h;rw [ruB,Z6.rb];exact ⟨Z2a steps h.1,h.2⟩
end
end
structure Wl (ds:List Zh) (b:Z6):Prop where
 w:wB ds b
 nr:T9 b
 rng:b.rng
structure Qt (ds:List Zh) (s:Z4):Prop where
 w:wS ds s
 nr:At s
 rng:s.rng
section
variable {ds:List Zh}
def Kt:∀{xs:List Z4},Q6 xs↔∀s∈xs,s.rng
 | []=>by simp [Q6]
 | s::r=>by rw [Q6,Kt];simp
def C7:∀{xs:List Z6},KE xs↔∀s∈xs,s.rng
 | []=>by simp [KE]
 | s::r=>by rw [KE,C7];simp
def Wl.iff {b:Z6}:Wl ds b↔∀s∈b.steps,Qt ds s:=by
 constructor
 .intro h s hs;have h3:=h.rng;rw [Z6.rng_eq] at h3;exact ⟨BT.1 ((Tv b).1 h.w) s hs,Ek.1 ((Ej b).1 h.nr) s hs,Kt.1 h3 s hs⟩
 .intro h;exact ⟨(Tv b).2 (BT.2 fun s hs=>(h s hs).w),(Ej b).2 (Ek.2 fun s hs=>(h s hs).nr),by rw [Z6.rng_eq];exact Kt.2 fun s hs=>(h s hs).rng⟩
def Qt.kid {s:Z4} {b:Z6} (h:Qt ds s) (hb:b∈s.kids):Wl ds b:=by
 have h3:=h.rng;rw [Z4.rng_eq] at h3;exact ⟨Is.1 ((Kx s).1 h.w).2.2.2 b hb,HH.1 ((De s).1 h.nr).2 b hb,C7.1 h3.2 b hb⟩
def Qt.kids {s:Z4} {ks:List Z6} (h:Qt ds s) (hl:ks.length=s.kids.length) (hk:∀b∈ks,Wl ds b):Qt ds ⟨s.op,s.num,s.into,s.args,ks⟩:=by
 obtain ⟨h1,h2,h3,h4⟩:=(Kx s).1 h.w;have h5:=h.rng;rw [Z4.rng_eq] at h5;refine ⟨(Kx _).2 ⟨h1,fun hc=>?_,fun h8=>⟨(h3 h8).1,hl.trans (h3 h8).2⟩,Is.2 fun b hb=>(hk b hb).w⟩,(De _).2 ⟨((De s).1 h.nr).1,HH.2 fun b hb=>(hk b hb).nr⟩,by rw [Z4.rng_eq];exact ⟨h5.1,C7.2 fun b hb=>(hk b hb).rng⟩⟩;obtain ⟨q1,q2,q3,q4⟩:=h2 hc;exact ⟨q1,q2,List.eq_nil_of_length_eq_zero (show ks.length=0 by rw [hl,q3];rfl),q4⟩
def Qt.cnt {op v:Int} (h:op=14∨op=15∨op=16):Qt ds (Zz op v):=⟨Zo5 h,(De _).2 ⟨by show op≠17;omega,True.intro⟩,by rw [Z4.rng_eq];exact ⟨⟨by show (-9223372036854775808:Int)<=0;decide,by show (0:Int)<=_;decide⟩,True.intro⟩⟩
def Wl.open {b:Z6} {x q:Int} {fs:LI} (h:Wl ds b):Wl ds (Ae b x fs q):=by
 rw [Wl.iff] at h ⊢;intro s hs;have hs:s∈AB b.steps x fs q:=hs;rw [AB] at hs
 split at hs
 .simp only [Xh,XG,XI] at hs;rcases hs with ((⟨a,_,rfl⟩|rfl)|⟨a,_,rfl⟩)|hs
  .exact Qt.cnt om
  .exact Qt.cnt om
  .exact Qt.cnt om
  .exact h s<|List.mem_of_mem_drop hs
 .exact h s hs
def Z3z {m:Nat} {op num:Int} {args:LI}:∀{bs:List Z6} {k:Nat},(Q4 ds m op num args bs k).length=bs.length
 | [],_=>rfl
 | b::r,k=>by rw [Q4,YR,YR,Z3z (bs:=r)]
mutual
def Qt.sp:∀(s:Z4) {m:Nat},Qt ds s->Qt ds (BN ds m s)
 | .mk op num into args kids,m,h=>by
  rw [BN];exact h.kids Z3z (Wls.sp kids fun b hb=>h.kid hb)
def Wls.sp:∀(bs:List Z6) {m:Nat} {op num:Int} {args:LI} {k:Nat},(∀b∈bs,Wl ds b)->∀b∈Q4 ds m op num args bs k,Wl ds b
 | [],_,_,_,_,_,_,b,hb=>by cases hb
 | c::r,m,op,num,args,k,h,b,hb=>by
  rw [Q4] at hb;rcases YM.1 hb with rfl|hb
  .split
   .exact (Wl.sp c<|h c<|Xn ..).open
   .exact Wl.sp c<|h c<|Xn ..
  .exact Wls.sp r (fun x hx=>h x<|XF _ hx) b hb
def WlSs.sp:∀(xs:List Z4) {m:Nat},(∀s∈xs,Qt ds s)->∀s∈Tb ds m xs,Qt ds s
 | [],_,_,s,hs=>by cases hs
 | c::r,m,h,s,hs=>by
  rw [Tb] at hs;rcases YM.1 hs with rfl|hs
  .exact Qt.sp c<|h c<|Xn ..
  .exact WlSs.sp r (fun x hx=>h x<|XF _ hx) s hs
def Wl.sp:∀(b:Z6) {m:Nat},Wl ds b->Wl ds (Vw ds m b)
 | .mk steps result,m,h=>by
  rw [Vw,Wl.iff];exact WlSs.sp steps<|Wl.iff.1 h
end
def Zjd {b:Z6} {x:Int} {many:Nat} (h:b.rng):(V0 b x many).rng:=by
 rw [Z6.rng_eq] at h;rw [V0,Z6.rng_eq];show Q6 (V4 b.steps x many)
 rw [V4]
 split
 .exact h
 .rename_i hq;obtain ⟨_,_,t,h5,h7,h6⟩:=KJ fun z=>hq<|.inr z
  rw [Kt] at h ⊢;intro s hs;rcases List.mem_or_eq_of_mem_set hs with hs|rfl
  .rcases List.mem_or_eq_of_mem_set hs with hs|rfl
   .exact h s hs
   .rw [Z4.rng_eq];exact ⟨⟨by show (-9223372036854775808:Int)<=0;decide,by show (0:Int)<=_;decide⟩,True.intro⟩
  .have:=h t (Y0 h5);rw [h6,Uo,Z4.rng_eq];rw [Z4.rng_eq] at this;exact this
mutual
def Zje:∀(s:Z4) {K:LI},s.rng->(ruS ds K s).rng
 | .mk op num into args kids,K,h=>by
  rw [Z4.rng] at h;rw [ruS,Z4.rng];exact ⟨h.1,Z2q kids h.2⟩
def Z2q:∀(bs:List Z6) {K:LI} {op num:Int} {args:LI} {k:Nat},KE bs->KE (ruKs ds K op num args bs k)
 | [],_,_,_,_,_,_=>True.intro
 | b::r,K,op,num,args,k,h=>by
  rw [ruKs,KE];refine ⟨?_,Z2q r h.2⟩
  split
  .exact Zjd<|HU b h.1
  .exact HU b h.1
def Z2r:∀(xs:List Z4) {K:LI},Q6 xs->Q6 (ruSs ds K xs)
 | [],_,_=>True.intro
 | s::r,K,h=>⟨Zje s h.1,Z2r r h.2⟩
def HU:∀(b:Z6) {K:LI},b.rng->(ruB ds K b).rng
 | .mk steps result,K,h=>by
  rw [Z6.rng] at h;rw [ruB,Z6.rng];exact Z2r steps h
end
end
mutual
def Zhi:∀s:Z4,KY Ub s->At s
 | .mk op num into args kids,h=>by
  rw [KY] at h;rw [At];exact ⟨by have:op<=15:=h.1;omega,Z13 kids h.2⟩
def Z13:∀bs:List Z6,KX Ub bs->Ju bs
 | [],_=>True.intro
 | b::r,h=>⟨Z12 b h.1,Z13 r h.2⟩
def Z14:∀bs:List Z4,QL Ub bs->KW bs
 | [],_=>True.intro
 | b::r,h=>⟨Zhi b h.1,Z14 r h.2⟩
def Z12:∀b:Z6,VW Ub b->T9 b
 | .mk steps result,h=>by
  rw [VW] at h;rw [T9];exact Z14 steps h
end
structure ZR (q:Nat) (r:Y9):Prop where
 params:r.1.length<=3
 lent:r.2.length<=10
 body:r.4.sz<=q
 rng:r.4.rng
 rb:r.4.rb
structure ZN (n:Zm) (q:Nat):Prop where
 decls:AD n.1
 len:1<=n.2.length/\n.2.length<=4
 rt:∀r∈n.2,ZR q r
def ZR.le {q q2:Nat} {r:Y9} (h:ZR q r) (hq:q<=q2):ZR q2 r:=⟨h.params,h.lent,Vy h.body hq,h.rng,h.rb⟩
def ZN.le {n:Zm} {q q2:Nat} (h:ZN n q) (hq:q<=q2):ZN n q2:=⟨h.decls,h.len,fun r hr=>(h.rt r hr).le hq⟩
def ZN.sz {n:Zm} {q:Nat} (h:ZN n q) (hq:q<=10000000):WF n:=
 ⟨⟨by have:=h.decls.1;omega,fun d hd=>by have:=(h.decls.2 d hd).1;omega,fun d hd c hc=>by have:=(h.decls.2 d hd).2 c hc;omega⟩,by have:=h.len;omega,fun r hr=>by have:=(h.rt r hr).params;omega,fun r hr=>by have:=(h.rt r hr).lent;omega,fun r hr=>by have:=(h.rt r hr).body;omega⟩
def FO.wl {n:Zm} {q:Nat} (h:FO n q Ub) (hq:q<=100000000):∀r∈n.2,Wl n.1 r.4:=fun r hr=>by
 have h1:=h.rf hr;have h2:r.1.length<=3:=(Q8.bd (f:=⟨r.1,r.result,default⟩) h1.sig).1;exact ⟨Z5p r.4 h1.body.1 (by have:=h1.body.2;omega) h.fn.decls.ok,Z12 r.4 h1.op,Nv r.4 h1.body.1⟩
def FO.zn {n:Zm} {q:Nat} {p:Int->Prop} (h:FO n q p) (hq:q<=100000000:=by omega):ZN n q:=
 ⟨h.fn.decls.ad,h.fn.len,fun r hr=>⟨(Q8.bd (f:=⟨r.1,r.result,default⟩)<|h.fn.sigs r hr).1,by have:=(h.fn.lent r hr).1;omega,(h.fn.body r hr).2,Nv r.4 (h.fn.body r hr).1,Z26 r.4 (h.fn.body r hr).1 (by have h2:r.1.length<=3:=(Q8.bd (f:=⟨r.1,r.result,default⟩)<|h.fn.sigs r hr).1;have:=(h.fn.body r hr).2;omega) h.fn.decls.ok⟩⟩
structure WN (n:Zm) (q:Nat):Prop where
 ok:YZ n
 zn:ZN n q
 wl:∀r∈n.2,Wl n.1 r.4
def FO.wn {n:Zm} {q:Nat} (h:FO n q Ub) (hq:q<=100000000):WN n q:=⟨h.fn.ok,h.zn hq,h.wl hq⟩
def WN.sp {n:Zm} {q:Nat} (h:WN n q):WN (Dl n) (9*q):=by
 refine ⟨⟨h.ok.decls,by show (n.2.map _).length<=4;rw [Qq];exact h.ok.len,fun r hr=>?_,fun r hr=>?_⟩,⟨h.zn.decls,by show 1<=(n.2.map _).length/\(n.2.map _).length<=4;rw [Qq];exact h.zn.len,fun r hr=>?_⟩,fun r hr=>?_⟩
 .obtain ⟨s,hs,rfl⟩:=XG.1 hr;exact h.ok.params s hs
 .obtain ⟨s,hs,rfl⟩:=XG.1 hr;exact h.ok.lent s hs
 .obtain ⟨s,hs,rfl⟩:=XG.1 hr;have hz:=h.zn.rt s hs;refine ⟨hz.params,hz.lent,?_,(Wl.sp s.body (h.wl s hs)).rng,Nr s.body hz.rb⟩;have h1:=Ib h.ok.decls s.body (m:=s.params.length) (h.wl s hs).w;have h2:=s.body.pz_le;have h3:=hz.body;show (Vw n.1 s.params.length s.body).sz<=9*q
  omega
 .obtain ⟨s,hs,rfl⟩:=XG.1 hr;exact Wl.sp s.body (h.wl s hs)
def WN.ru {n:Zm} {q:Nat} (h:WN n q):ZN (Va n) q:=by
 refine ⟨h.zn.decls,by show 1<=(n.2.map _).length/\(n.2.map _).length<=4;rw [Qq];exact h.zn.len,fun r hr=>?_⟩;obtain ⟨s,hs,rfl⟩:=XG.1 hr;have hz:=h.zn.rt s hs;refine ⟨hz.params,hz.lent,?_,HU s.body (h.wl s hs).rng,Nq s.body hz.rb⟩;have h1:=HW s.body (K:=[]) (h.wl s hs).w;have h3:=hz.body;show (ruB n.1 [] s.body).sz<=q
 omega
def Ep {xs:List Z4} {i:Nat} {s t:Z4} (h:t∈WZ xs i s):t∈xs∨t=s:=by
 rw [WZ] at h;simp only [Xh,XI] at h;rcases h with (h|h)|h
 .exact .inl<|Qr h
 .exact .inr h
 .exact .inl<|List.mem_of_mem_drop h
def Nw {op v:Int}:(Zz op v).rng:=by rw [Z4.rng_eq];exact ⟨⟨by show (-9223372036854775808:Int)<=0;decide,by show (0:Int)<=_;decide⟩,True.intro⟩
def ZN.withR {n:Zm} {q q2 f:Nat} {rt:Y9} {b:Z6} (h:ZN n q) (hr:n.2[f]? = some rt) (hq:q<=q2) (hb:b.sz<=q2) (hg:b.rng) (hbr:b.rb):ZN (withR n f rt b) q2:=by
 refine ⟨h.decls,by show 1<=(n.2.set _ _).length/\(n.2.set _ _).length<=4;rw [UO];exact h.len,fun r hm=>?_⟩;rcases List.mem_or_eq_of_mem_set hm with hm|rfl
 .exact (h.rt r hm).le hq
 .have:=h.rt rt (Y0 hr);exact ⟨this.params,this.lent,hb,hg,hbr⟩
def ZN.held {n n2:Zm} {q:Nat} (h:ZN n q) (hh:IH n n2):ZN n2 (q+4):=by
 rcases hh with rfl|⟨f,rt,i,j,v,h1,h2,h3,h4,h5,rfl⟩
 .exact h.le om
 .have hz:=h.rt rt (Y0 h1);refine h.withR h1 om ?_ ?_ (by have hb:=hz.rb;rw [Z6.rb_eq,Ks] at hb;rw [E4,Z6.rb_eq,Ks];refine ⟨fun s hs=>?_,hb.2⟩;rcases Ep hs with hs|rfl<;>first|exact Dj|(rcases Ep hs with hs|rfl<;>first|exact Dj|exact hb.1 s hs))
  .rw [E4,Z6.sz,FL,FL];have e1:(Zz 14 v).sz=2:=rfl;have e2:(Zz 15 v).sz=2:=rfl;have:=hz.body;have:=rt.4.sz_eq;omega
  .have hg:=hz.rng;rw [Z6.rng_eq,Kt] at hg;rw [E4,Z6.rng_eq,Kt];intro s hs;rcases Ep hs with hs|rfl
   .rcases Ep hs with hs|rfl
    .exact hg s hs
    .exact Nw
   .exact Nw
def FO.le {n:Zm} {q q2:Nat} {p:Int->Prop} (h:FO n q p) (hq:q<=q2):FO n q2 p:=⟨⟨h.fn.decls,h.fn.len,h.fn.sigs,h.fn.lent,fun r hr=>⟨(h.fn.body r hr).1,Vy (h.fn.body r hr).2 hq⟩⟩,h.op⟩
abbrev Z4.rgb (s:Z4):Prop:=s.rng/\s.rb
abbrev Z6.rgb (b:Z6):Prop:=b.rng/\b.rb
def UI (s y:Z4):Prop:=y.sz<=s.sz+1/\y.rgb
def UI.refl {s:Z4} (hg:s.rgb):UI s s:=⟨Nat.le_succ _,hg⟩
def UI.of {s:Z4} {op num into:Int} {args:LI} {kids:List Z6} (hgb:s.rgb) (hn:num=s.num∨num∈([0,1,2,3,-1,1000]:LI)) (ha:args.length<=s.args.length+1) (hk:kids=s.kids∨kids=s.kids.drop 1):UI s ⟨op,num,into,args,kids⟩:=by
 obtain ⟨hg,hrb⟩:=hgb;rw [Z4.rng_eq] at hg;rw [Z4.rb_eq] at hrb;have hs:=s.sz_eq;have hb:YT kids<=YT s.kids:=by
  rcases hk with rfl|rfl
  .exact X8 _
  .have h:=Ys YT (Ty 1 s.kids);rw [ES] at h;omega
 refine ⟨by rw [Z4.sz];omega,?_,by rw [Z4.rb];exact DF.2 fun b hbk=>DF.1 hrb b<|by rcases hk with rfl|rfl;exact hbk;exact List.mem_of_mem_drop hbk⟩;rw [Z4.rng];refine ⟨?_,C7.2 fun b hbk=>C7.1 hg.2 b ?_⟩
 .rcases hn with rfl|hn
  .exact hg.1
  .have:=(by decide:∀z∈([0,1,2,3,-1,1000]:LI),-9223372036854775808<=z/\z<=9223372036854775807) num hn;exact this
 .rcases hk with rfl|rfl
  .exact hbk
  .exact List.mem_of_mem_drop hbk
def XQ (b y:Z6):Prop:=y.sz<=b.sz+2/\y.rgb
def XQ.result {b:Z6} (hg:b.rgb) (z:Int) (hz:-1000000000<=z/\z<=1000000000:=by omega):XQ b ⟨b.steps,z⟩:=⟨by rw [Z6.sz,b.sz_eq];omega,by have h:=hg.1;rw [Z6.rng_eq] at h;rw [Z6.rng];exact h,by have h:=hg.2;rw [Z6.rb_eq] at h;rw [Z6.rb];exact ⟨h.1,hz⟩⟩
def XQ.put {b:Z6} (hgb:b.rgb) {i:Nat} {op v:Int}:XQ b ⟨WZ b.steps i<|Zz op v,b.result⟩:=by
 obtain ⟨hg,hrb⟩:=hgb;rw [Z6.rng_eq,Kt] at hg;rw [Z6.rb_eq,Ks] at hrb;refine ⟨?_,?_,?_⟩
 .rw [Z6.sz,FL,b.sz_eq];have e:(Zz op v).sz=2:=rfl;omega
 .rw [Z6.rng,Kt];intro s hs;rcases Ep hs with hs|rfl
  .exact hg s hs
  .exact Nw
 .rw [Z6.rb,Ks];refine ⟨fun s hs=>?_,hrb.2⟩;rcases Ep hs with hs|rfl
  .exact hrb.1 s hs
  .exact Dj
def XQ.del {b:Z6} (hgb:b.rgb) {k:Nat}:XQ b ⟨b.steps.take k++b.steps.drop (k+1),b.result⟩:=by
 obtain ⟨hg,hrb⟩:=hgb;rw [Z6.rng_eq,Kt] at hg;rw [Z6.rb_eq,Ks] at hrb;have h1:=Ku b.steps k;have h2:=Ys Ya (Ty k b.steps);have h3:=Ys Ya (Ty 1 (b.steps.drop k));rw [Qj] at h2 h3;rw [List.drop_drop] at h3;refine ⟨by rw [Z6.sz,Qj,b.sz_eq];omega,?_,by rw [Z6.rb,Ks];refine ⟨fun s hs=>?_,hrb.2⟩;rcases Xh.1 hs with hs|hs;exact hrb.1 s (Qr hs);exact hrb.1 s (List.mem_of_mem_drop hs)⟩;rw [Z6.rng,Kt];intro s hs;rcases Xh.1 hs with hs|hs
 .exact hg s<|Qr hs
 .exact hg s<|List.mem_of_mem_drop hs
def XQ.set {b:Z6} (hgb:b.rgb) {k:Nat} {s t:Z4} (hs:b.steps[k]? = some s) (ht:t.sz<=s.sz+2/\t.rgb):XQ b ⟨b.steps.set k t,b.result⟩:=by
 obtain ⟨hg,hrb⟩:=hgb;rw [Z6.rng_eq,Kt] at hg;rw [Z6.rb_eq,Ks] at hrb;have h1:=Ig t hs;refine ⟨by rw [Z6.sz,b.sz_eq];omega,?_,by rw [Z6.rb,Ks];refine ⟨fun s hs=>?_,hrb.2⟩;rcases List.mem_or_eq_of_mem_set hs with hs|rfl;exact hrb.1 s hs;exact ht.2.2⟩;rw [Z6.rng,Kt];intro x hx;rcases List.mem_or_eq_of_mem_set hx with hx|rfl
 .exact hg x hx
 .exact ht.2.1
def Pd:∀{xs:List Z6} {i:Nat} {s:Z6} (t:Z6),xs[i]? = some s->YT (xs.set i t)+s.sz=YT xs+t.sz
 | [],_,_,_,h=>by simp at h
 | x::r,0,s,t,h=>by simp at h;subst h;rw [List.set_cons_zero,YT,YT];omega
 | x::r,i+1,s,t,h=>by
  have:=Pd (xs:=r) (i:=i) t (by simpa using h);rw [List.set_cons_succ,YT,YT];omega
def XQ.kid {b:Z6} (hg:b.rgb) {k j:Nat} {s:Z4} {c y:Z6} (hs:b.steps[k]? = some s) (hc:s.kids[j]? = some c) (hy:XQ c y):XQ b ⟨b.steps.set k ⟨s.op,s.num,s.into,s.args,s.kids.set j y⟩,b.result⟩:=by
 refine XQ.set hg hs ?_;have hg2:=hg.1;have hr2:=hg.2;rw [Z6.rng_eq,Kt] at hg2;rw [Z6.rb_eq,Ks] at hr2;have h4:=hr2.1 s (Y0 hs);rw [Z4.rb_eq] at h4;have h1:=hg2 s (Y0 hs);rw [Z4.rng_eq] at h1;have h2:=Pd y hc;have h3:=hy.1;refine ⟨by rw [Z4.sz,s.sz_eq];omega,?_,by rw [Z4.rb];refine DF.2 fun x hx=>?_;rcases List.mem_or_eq_of_mem_set hx with hx|rfl;exact DF.1 h4 x hx;exact hy.2.2⟩;rw [Z4.rng];refine ⟨h1.1,C7.2 fun x hx=>?_⟩;rcases List.mem_or_eq_of_mem_set hx with hx|rfl
 .exact C7.1 h1.2 x hx
 .exact hy.2.1
def Zjc {b:Z6} (hg:b.rng) {k j:Nat} {s:Z4} {c:Z6} (hs:b.steps[k]? = some s) (hc:s.kids[j]? = some c):c.rng:=by
 rw [Z6.rng_eq,Kt] at hg;have h1:=hg s (Y0 hs);rw [Z4.rng_eq] at h1;exact C7.1 h1.2 c<|Y0 hc
def Zj8 {b:Z6} (hg:b.rgb) {k j:Nat} {s:Z4} {c:Z6} (hs:b.steps[k]? = some s) (hc:s.kids[j]? = some c):c.rgb:=by
 refine ⟨Zjc hg.1 hs hc,?_⟩;have h:=hg.2;rw [Z6.rb_eq,Ks] at h;have h1:=h.1 s (Y0 hs);rw [Z4.rb_eq] at h1;exact DF.1 h1 c<|Y0 hc
def Zjf {b:Z6} (hg:b.rng) {k:Nat} {s:Z4} (hs:b.steps[k]? = some s):s.rng:=by
 rw [Z6.rng_eq,Kt] at hg;exact hg s<|Y0 hs
def Zj9 {b:Z6} (hg:b.rgb) {k:Nat} {s:Z4} (hs:b.steps[k]? = some s):s.rgb:=by
 refine ⟨Zjf hg.1 hs,?_⟩;have h:=hg.2;rw [Z6.rb_eq,Ks] at h;exact h.1 s (Y0 hs)
structure ZS (n:Zm) (q l:Nat):Prop where
 decls:AD n.1
 len:1<=n.2.length/\n.2.length<=4
 rt:∀r∈n.2,r.1.length<=3/\r.2.length<=l/\r.4.sz<=q/\r.4.rng
 rb:∀r∈n.2,r.4.rb
def ZN.zs {n:Zm} {q:Nat} (h:ZN n q):ZS n q 10:=⟨h.decls,h.len,fun r hr=>⟨(h.rt r hr).params,(h.rt r hr).lent,(h.rt r hr).body,(h.rt r hr).rng⟩,fun r hr=>(h.rt r hr).rb⟩
def ZS.le {n:Zm} {q q2 l l2:Nat} (h:ZS n q l) (hq:q<=q2) (hl:l<=l2):ZS n q2 l2:=⟨h.decls,h.len,fun r hr=>by obtain ⟨a,b,c,d⟩:=h.rt r hr;exact ⟨a,by omega,by omega,d⟩,h.rb⟩
def ZS.sz {n:Zm} {q l:Nat} (h:ZS n q l) (hq:q<=10000000) (hl:l<=1000):WF n:=
 ⟨⟨by have:=h.decls.1;omega,fun d hd=>by have:=(h.decls.2 d hd).1;omega,fun d hd c hc=>by have:=(h.decls.2 d hd).2 c hc;omega⟩,by have:=h.len;omega,fun r hr=>by have:=(h.rt r hr).1;omega,fun r hr=>by have:=(h.rt r hr).2.1;omega,fun r hr=>by have:=(h.rt r hr).2.2.1;omega⟩
def ZS.set {n:Zm} {q l q2 l2 f:Nat} {rt:Y9} {ls:LI} {b:Z6} (h:ZS n q l) (hr:n.2[f]? = some rt) (hq:q<=q2) (hl:l<=l2) (hls:ls.length<=l2) (hb:b.sz<=q2) (hg:b.rgb):ZS ⟨n.1,n.2.set f ⟨rt.1,ls,rt.result,b⟩⟩ q2 l2:=by
 refine ⟨h.decls,by show 1<=(n.2.set _ _).length/\(n.2.set _ _).length<=4;rw [UO];exact h.len,fun r hm=>?_,fun r hm=>?_⟩
 .rcases List.mem_or_eq_of_mem_set hm with hm|rfl
  .exact (h.le hq hl).rt r hm
  .have:=h.rt rt (Y0 hr);exact ⟨this.1,hls,hb,hg.1⟩
 .rcases List.mem_or_eq_of_mem_set hm with hm|rfl
  .exact h.rb r hm
  .exact hg.2
def ZS.ds {n:Zm} {q l:Nat} {ds:List Zh} (h:ZS n q l) (hd:AD ds):ZS ⟨ds,n.2⟩ q l:=⟨hd,h.len,h.rt,h.rb⟩
section
variable {n n2:Zm} (hd:n2.decls=n.1) (hr:∀vars op num args,UM n2 vars op num args=UM n vars op num args)
include hd hr
mutual
def Zn1:∀(s:Z4) {us:LI},Y6 n2 us s=Y6 n us s
 | .mk op num into args kids,us=>by
  rw [Y6,Y6,hd,hr,Z03 kids]
def Z03:∀(bs:List Z6) {us:LI} {ms:List LI} {f:Bool} {t:Int},W6 n2 us bs ms f t=W6 n us bs ms f t
 | [],us,ms,f,t=>by rw [W6,W6]
 | b::r,us,[],f,t=>by rw [W6,W6]
 | b::r,us,m::ms,f,t=>by
  rw [W6,W6,P7 b];simp only [Z03 r]
def Z51:∀(xs:List Z4) {us:LI},XJ n2 xs us=XJ n xs us
 | [],us=>by rw [XJ,XJ]
 | s::r,us=>by
  rw [XJ,XJ,Zn1 s];simp only [Z51 r]
def P7:∀(b:Z6) {us:LI},YY n2 us b=YY n us b
 | .mk steps result,us=>by rw [YY,YY,Z51 steps]
end
end
def Z2t {n:Zm}:∀{l:List Y9},(∀r∈l,¬VG r.4<0/\YY n r.1 r.4=r.result)->QN n l=true
 | [],_=>by rw [QN]
 | r::rs,h=>by rw [QN,Zg (h r (Xn ..))];exact Z2t fun q hq=>h q (XF _ hq)
def cF (n:Zm):LI:=if Wo n=true then Ti n else []
def Px:∀{rs:List Y9} {c:LI} {q:Int},CB c q->0<=q->(∀r∈rs,r.4.sz<=10000000)->CB (Th rs c) (q+10000000*rs.length)
 | [],c,q,h,hq,_=>by rw [Th];exact h.le (by simp)
 | r::rs,c,q,h,hq,hz=>by
  have h0:=hz r (Xn ..);have h1:=(CB.b r.4 h hq).le (p:=q+10000000) om;have h2:=Px h1 om fun p hp=>hz p<|XF _ hp
  rw [Th];refine h2.le ?_;rw [YR];omega
def C8 {n:Zm} (hz:WF n) (hl:n.2.length<=4):∀x∈cF n,0<=x/\x<=40000000:=by
 intro x hx;rw [cF] at hx
 split at hx
 .have h:=Px (rs:=n.2) (c:=[0,0,0,0]) (q:=0) ⟨rfl,fun y hy=>by simp at hy;omega⟩ om fun r hr=>hz.body r hr
  have:=h.bd x hx;omega
 .cases hx
mutual
def Nl:Z4->Z4
 | .mk op num _ args kids=>.mk op num 0 args (FK kids)
def HR:Z6->Z6
 | .mk steps result=>.mk (Eo steps) result
def Eo:List Z4->List Z4
 | []=>[]
 | s::r=>if Yv s.op=true then Eo r else Nl s::Eo r
def FK:List Z6->List Z6
 | []=>[]
 | b::r=>HR b::FK r
end
def FI (r:Y9):Y9:=⟨r.1,r.2,r.result,HR r.4⟩
def plN (n:Zm):Zm:=⟨n.1,n.2.map FI⟩
section
variable {n:Zm}
end
def Nj (n:Zm):Zm:=if Wo n=true then plN n else ⟨[],[]⟩
def Zil {n:Zm} (h:Wo n=true):Nj n=plN n:=Zg h
def Zik {n:Zm} (h:¬Wo n=true):Nj n=⟨[],[]⟩:=Z8 h
noncomputable instance decBlock:DecidableEq Z6:=fun a b=>Classical.propDecidable (a=b)
noncomputable instance decStep:DecidableEq Z4:=fun a b=>Classical.propDecidable (a=b)
noncomputable instance decDecls:DecidableEq Zh:=fun a b=>Classical.propDecidable (a=b)
noncomputable instance decNormal:DecidableEq Zm:=fun a b=>Classical.propDecidable (a=b)
def Fb {α:Type} {xs ys:List α} (h:xs.length=ys.length) (ha:∀i,i<xs.length->xs[i]? = ys[i]?):xs=ys:=List.ext_getElem? fun i=>by
 by_cases hi:i<xs.length
 .exact ha i hi
 .rw [Dt om,Dt om]
def Gd {α:Type} {xs ys:List α} {k:Nat} {x y:α} (h:∀i,i<k->xs[i]? = ys[i]?) (hx:xs[k]? = some x) (hy:ys[k]? = some y) (e:x=y):∀i,i<k+1->xs[i]? = ys[i]?:=fun i hi=>
 (Nat.lt_succ_iff_lt_or_eq.1 hi).elim (h i) fun z=>by rw [z,hx,hy,e]
def Gc {α:Type} {xs ys:List α}:∀i,i<0->xs[i]? = ys[i]?:=fun i h=>absurd h om
def DB {α:Type} {xs ys:List α} {k:Nat} {x y:α} (hx:xs[k]? = some x) (hy:ys[k]? = some y) (e:x≠y):xs≠ys:=fun z=>by rw [z,hy] at hx;cases hx;exact e rfl
def Z4.ext4 {s t:Z4} (h1:s.op=t.op) (h2:s.num=t.num) (h3:s.into=t.into) (h4:s.args=t.args) (h5:s.kids=t.kids):s=t:=by cases s;cases t;simp only [Z4.op,Z4.num,Z4.into,Z4.args,Z4.kids] at h1 h2 h3 h4 h5;subst h1 h2 h3 h4 h5;rfl
def Z6.ext2 {s t:Z6} (h1:s.steps=t.steps) (h2:s.result=t.result):s=t:=by cases s;cases t;simp only [Z6.steps,Z6.result] at h1 h2;subst h1 h2;rfl
def Yo.ext1 {s t:Yo} (h1:s.fields=t.fields):s=t:=by cases s;cases t;simp at h1;rw [h1]
def Zh.ext3 {s t:Zh} (h1:s.frm=t.frm) (h2:s.to_=t.to_) (h3:s.cons=t.cons):s=t:=by cases s;cases t;simp at h1 h2 h3;rw [h1,h2,h3]
def Y9.ext4 {s t:Y9} (h1:s.params=t.params) (h2:s.lent=t.lent) (h3:s.result=t.result) (h4:s.body=t.body):s=t:=by cases s;cases t;simp at h1 h2 h3 h4;rw [h1,h2,h3,h4]
def Zm.ext2 {s t:Zm} (h1:s.decls=t.decls) (h2:s.routines=t.routines):s=t:=by cases s;cases t;simp at h1 h2;rw [h1,h2]
mutual
def Zin:∀(s:Z4),(Nl s).sz<=s.sz
 | .mk op num into args kids=>by rw [Nl,Z4.sz,Z4.sz];have:=Z1x kids;omega
def Z1w:∀(b:Z6),(HR b).sz<=b.sz
 | .mk steps _=>by rw [HR,Z6.sz,Z6.sz];have:=Z1y steps;omega
def Z1y:∀(xs:List Z4),Ya (Eo xs)<=Ya xs
 | []=>by rw [Eo];exact X8 _
 | s::r=>by
  rw [Eo];have h1:=Z1y r;have h2:=Zin s
  split
  .rw [Ya];omega
  .rw [Ya,Ya];omega
def Z1x:∀(xs:List Z6),YT (FK xs)<=YT xs
 | []=>by rw [FK];exact X8 _
 | b::r=>by
  have h1:=Z1x r;have h2:=Z1w b;rw [FK,YT,YT];omega
end
def AT {n:Zm} (h:WF n):WF (Nj n):=by
 by_cases hv:Wo n=true
 .rw [Zil hv];refine ⟨h.decls,by show (n.2.map FI).length<=_;rw [Qq];exact h.len,?_,?_,?_⟩
  .intro r hr;obtain ⟨q,hq,rfl⟩:=XG.1 (show r∈n.2.map FI from hr);exact h.params q hq
  .intro r hr;obtain ⟨q,hq,rfl⟩:=XG.1 (show r∈n.2.map FI from hr);exact h.lent q hq
  .intro r hr;obtain ⟨q,hq,rfl⟩:=XG.1 (show r∈n.2.map FI from hr);exact Vy (Z1w q.body) (h.body q hq)
 .rw [Zik hv];exact ⟨⟨by simp,fun d hd=>(by cases hd),fun d hd=>(by cases hd)⟩,by simp,fun r hr=>(by cases hr),fun r hr=>(by cases hr),fun r hr=>(by cases hr)⟩
def UW:List Y9->Int
 | []=>0
 | r::rs=>VG r.4+UW rs
def Z3v:∀{xs:List Y9} {r:Y9},UW (xs++[r])=UW xs+VG r.4
 | [],r=>by rw [BW,UW,UW,UW];omega
 | x::xs,r=>by rw [QQ,UW,UW,Z3v];omega
def Z4z (b:Z6):-1<=VG b/\VG b<=600:=by
 rw [VG]
 split
 .omega
 .have:=HB.2 b 600 om;omega
def Z3w:∀{xs:List Y9},-(xs.length:Int)<=UW xs/\UW xs<=600*(xs.length:Int)
 | []=>by rw [UW];simp
 | r::rs=>by
  have h1:=Z4z r.4;have h2:=Z3w (xs:=rs);rw [UW,YR,Int.natCast_add];omega
def G0 (n:Zm):Int:=UW n.2
mutual
def kS:Z4->Nat
 | .mk op _ _ _ kids=>(if Yv op=true then 1 else 0)+SK kids
def kB:Z6->Nat
 | .mk steps _=>SR steps
def SR:List Z4->Nat
 | []=>0
 | s::r=>kS s+SR r
def SK:List Z6->Nat
 | []=>0
 | b::r=>kB b+SK r
end
section
variable {ds:List Zh}
end
abbrev Mem:=Nat->Nat->Option Value
abbrev CN:=Nat × Nat
def upd (m:Mem) (a:CN) (z:Int):Mem:=fun g o=>if g=a.1/\o=a.2 then some (.int .i64 z) else m g o
def wr (m:Mem):List CN->Int->Mem
 | [],_=>m
 | a::r,k=>wr (upd m a k) r (k+1)
def QI (m:Mem):List CN->Int->Prop
 | [],_=>True
 | a::r,k=>m a.1 a.2=some (.int .i64 k)/\QI m r (k+1)
def SD (m:Mem) (a:CN):Prop:=∃z,m a.1 a.2=some (.int .i64 z)
structure Kp (m m':Mem):Prop where
 i:∀{a:CN},SD m a->SD m' a
 h:∀{g o:Nat} {v:Value},m g o=some v->(∀z,v≠.int .i64 z)->m' g o=some v
section
variable {P:Program} {n:Nat} {ops:Array Oper} {B:Fr->List Res->Prop} {k:Nat} {F:Fr} {h h2:List Res}
end
section
variable {m m':Mem} {B:List Nat}
end
section
variable {m:Mem} {B:List Nat} {g:Nat}
end
section
variable {m:Mem} {B:List Nat}
end
def Zn (g lo hi:Nat) (X:List Nat) (a:CN):Prop:=(a.1=g/\lo<=a.2/\a.2<hi)∨a.1∈X
structure Nd (g lo hi:Nat) (X:List Nat) (as1:List CN):Prop where
 nd:(X.Nodup/\g∉X)->as1.Nodup
 zn:∀a∈as1,Zn g lo hi X a
section
variable {m:Mem} {B:List Nat}
end
section
variable {n:Zm} {ln:LI} {L:Zy}
end
structure CR (L:Zy) (cons first:LI):Prop where
 cl:cons.length=L.1.length
 fl:first.length=L.1.length
 eq:∀v:Int,0<=v->v<L.1.length->0<=gI L.4 v->gI cons v=gI L.4 v/\gI first v=gI L.5 v

section
variable {N:Mem} {g o:Nat} {z:Int}
end


def TF (am:List Yn) (x:Int):Bool:=am.any fun o=>o.chg&&(o.mat==x)
def SU {am:List Yn} {x:Int}:TF am x=true↔∃o∈am,o.chg=true/\o.mat=x:=by simp [TF]
def Zfy {am:List Yn} {x:Int} (h:∀o∈am,¬(o.chg=true/\o.mat=x)):TF am x=false:=by
 rw [JE];intro z;obtain ⟨o,ho,h1⟩:=SU.1 z;exact h o ho h1
def QK (am:List Yn) (a:Yn) (b:Z6):Prop:=TF am a.mat=true∨(Wn b.steps a.mat<0∨XX b.steps a.fds.length<0)
instance (am:List Yn) (a:Yn) (b:Z6):Decidable (QK am a b):=by unfold QK;infer_instance
def Au (am:List Yn) (a:Yn) (b:Z6):Z6:=if QK am a b then b else V0 b a.mat a.fds.length
def Af (am:List Yn) (a:Yn) (b:Z6):Yn:=if QK am a b then a else ⟨a.mat,a.fst,a.fds,true⟩
def Er {am:List Yn} {a:Yn} {b:Z6} (h:QK am a b):Au am a b=b:=Zg h
def NA {am:List Yn} {a:Yn} {b:Z6} (h:¬QK am a b):Au am a b=V0 b a.mat a.fds.length:=Z8 h
def IU {am:List Yn} {a:Yn} {b:Z6} (h:QK am a b):Af am a b=a:=Zg h
def OM {am:List Yn} {a:Yn} {b:Z6} (h:¬QK am a b):Af am a b=⟨a.mat,a.fst,a.fds,true⟩:=Z8 h
def Oi {ds:List Zh} {am:List Yn} {a:Yn} {b:Z6} (h:wB ds b):wB ds (Au am a b):=by
 rw [Au];split
 .exact h
 .exact Oh h
def BL {ds:List Zh} {am:List Yn} {a:Yn} {b:Z6} (h:wB ds b):(Au am a b).pz=b.pz:=by
 rw [Au];split
 .rfl
 .exact Zj1 h
def MC {am:List Yn} {a:Yn} {b:Z6} {kept:LI} (hk:∀x,x∈kept↔TF am x=true) (ha:a.chg=false):∀x,x∈(if QK am a b then kept else a.mat::kept)↔TF (am++[Af am a b]) x=true:=by
 intro x;have e:∀o:Yn,TF (am++[o]) x=(TF am x||(o.chg&&(o.mat==x))):=fun o=>by simp [TF]
 by_cases h:QK am a b
 .rw [Zg h,IU h,e,ha,hk x];simp
 .rw [Z8 h,OM h,e,YM,hk x];simp only [Bool.true_and,Bool.or_eq_true,Zq];constructor
  .rintro (rfl|q)
   .exact .inr rfl
   .exact .inl q
  .rintro (q|q)
   .exact .inr q
   .exact .inl q.symm
def NB {ds:List Zh} {am:List Yn} {kept:LI} {op num x m:Int} {args fs:LI} {j:Nat} {kd:Z6} (h8:op=8) (hx:gI args 0=x) (hf:VK ds num j=fs) (hk:∀x,x∈kept↔TF am x=true) :
  ruB ds (if QK am ⟨x,m,fs,false⟩ kd then kept else x::kept) (Au am ⟨x,m,fs,false⟩ kd)=TH ds kept op num args j kd:=by
 have hm:(VK ds num j).length=fs.length:=by rw [hf]
 by_cases h1:TF am x=true
 .have hn:QK am ⟨x,m,fs,false⟩ kd:=.inl h1;rw [Zg hn,Er hn];exact Es fun z=>z.2 (by rw [hx];exact (hk x).2 h1)
 .have hkx:¬x∈kept:=fun z=>h1<|(hk x).1 z
  by_cases h2:Wn kd.steps x<0∨XX kd.steps fs.length<0
  .have hn:QK am ⟨x,m,fs,false⟩ kd:=.inr h2;rw [Zg hn,Er hn];have h3:=Z32 (ds:=ds) (num:=num) (j:=j) h8 hx hkx hm h2;have e:V0 kd x fs.length=kd:=by
    rw [V0,Z2j h2];cases kd;rfl
   rw [e] at h3;exact h3
  .have hn:¬QK am ⟨x,m,fs,false⟩ kd:=fun z=>z.elim h1 h2
   rw [Z8 hn,NA hn];exact Z31 h8 hx hkx hm h2 fun z=>by rw [YM];exact Or.comm
def DV (xs:List Yn):(Zc (X2 xs)).length=xs.length*4:=by rw [T3 _ (JQ _)];simp
def Zb3 {xs:List Yn} {i:Nat} {s:Yn} (h:xs[i]? = some s):Zc (X2 xs)=Zc (X2<|xs.take i)++(AR s++Zc (X2<|xs.drop (i+1))):=by
 have e:xs=xs.take i++(s::xs.drop (i+1)):=by rw [<-Yc h,Ty]
 conv=>lhs;rw [e,F5,Uk]
 rfl
def RA {xs:List Yn} {i:Nat} {s:Yn} (h:xs[i]? = some s):((Zc<|X2 xs).drop (i*4)).take (AR s).length=AR s:=by
 have hi:=(Xv.1 h).1;have hl:(Zc (X2<|xs.take i)).length=i*4:=by rw [DV,WK,Vz om]
 rw [Zb3 h];exact HV hl
def Zb1 {am:List Yn} {a:Yn} (v:Bool):(Zc (X2 (am++[a]))).take (am.length*4+3)++[.b v]++(Zc (X2 (am++[a]))).drop (am.length*4+3+1)=Zc (X2 (am++[⟨a.mat,a.fst,a.fds,v⟩])):=by
 have hl:=DV am;have e:∀o:Yn,Zc (X2 (am++[o]))=Zc (X2 am)++AR o:=fun o=>by
  rw [F5,Uk];show Zc (X2 am)++(AR o++[])=_
  rw [JF]
 have q:=Cu (A:=Zc (X2 am)++[.i a.mat,.i a.fst,Z5 a.fds]) (xs:=[.b a.chg]) (ys:=[.b v]) (B:=[]) (o:=am.length*4+3) (by simp [hl]) rfl;have e2:∀w:Bool,Zc (X2 am)++[.i a.mat,.i a.fst,Z5 a.fds]++([AV.b w]++[])=Zc (X2 am)++AR ⟨a.mat,a.fst,a.fds,w⟩:=fun w=>by simp
 rw [e,e];rw [e2,e2] at q;exact q
def Zb2 (am:List Yn) (a:Yn):Zc (X2 am)++Zc (X2 [a])=Zc (X2 (am++[a])):=by rw [F5,Uk]
def Z70 (am:List Yn) (a:Yn):(am++[a])[am.length]? = some a:=by simp
def Z8n {xs:List Z4} {many:Nat} (h:¬Xy many (xs.drop<|Yk xs) 0<0):XX xs many=Yk xs+Xy many (xs.drop<|Yk xs) 0/\¬XX xs many<0:=by
 have:=Le (many:=many) (xs.drop<|Yk xs) 0 (Yk xs) (Int.le_refl 0) om;rw [Z8 h,Int.zero_add] at this;have e:XX xs many=Xy many (xs.drop<|Yk xs) (Yk xs):=rfl;omega
def Z8m {xs:List Z4} {many:Nat} (h:Xy many (xs.drop<|Yk xs) 0<0):XX xs many<0:=by
 have:=Le (many:=many) (xs.drop<|Yk xs) 0 (Yk xs) (Int.le_refl 0) om;rw [Zg h,Int.zero_add] at this;have e:XX xs many=Xy many (xs.drop<|Yk xs) (Yk xs):=rfl;omega

section
variable {ds:List Zh}
def HY {K:LI} {op num:Int} {args:LI}:∀(bs:List Z6) (k:Nat),(ruKs ds K op num args bs k).length=bs.length
 | [],k=>by rw [ruKs]
 | b::r,k=>by rw [ruKs,YR,YR,HY r]
mutual
def Zoa:∀(s:Z4) {K:LI},wS ds s->wS ds (ruS ds K s)
 | .mk op num into args kids,K,h=>by
  have h':=(Kx _).1 h;rw [ruS];refine (Kx _).2 ⟨h'.1,fun hc=>?_,fun h8=>?_,Z5s kids h'.2.2.2⟩
  .obtain ⟨h1,h2,h3,h4⟩:=h'.2.1 hc;have h3:kids=[]:=h3;subst h3;exact ⟨h1,h2,by show ruKs ds K op num args [] 0=[];rw [ruKs],h4⟩
  .have h9:=h'.2.2.1 h8
   first
    | exact h9
    | (refine ⟨h9.1,?_⟩;show (ruKs ds K op num args kids 0).length=_;rw [HY];exact h9.2)
    | (refine ⟨h9.1,?_⟩;show (ruKs ds K op num args kids 0).length<=_;rw [HY];exact h9.2)
def Z5s:∀(bs:List Z6) {K args:LI} {op num:Int} {k:Nat},TM ds bs->TM ds (ruKs ds K op num args bs k)
 | [],K,args,op,num,k,_=>by rw [ruKs];trivial
 | b::r,K,args,op,num,k,h=>by
  rw [TM] at h;rw [ruKs,TM];refine ⟨?_,Z5s r h.2⟩
  split
  .exact Oh<|Gf b h.1
  .exact Gf b h.1
def Z5v:∀(xs:List Z4) {K:LI},Ug ds xs->Ug ds (ruSs ds K xs)
 | [],K,_=>by rw [ruSs];trivial
 | s::r,K,h=>by
  rw [Ug] at h;rw [ruSs,Ug];exact ⟨Zoa s h.1,Z5v r h.2⟩
def Gf:∀(b:Z6) {K:LI},wB ds b->wB ds (ruB ds K b)
 | .mk steps result,K,h=>by
  rw [ruB];exact (Tv _).2<|Z5v steps<|(Tv _).1 h
end
def Oj {b:Z6} {r:List Z6} (h:TM ds (b::r)):wB ds b/\TM ds r:=by rw [TM] at h;exact h
def Ol {b:Z4} {r:List Z4} (h:Ug ds (b::r)):wS ds b/\Ug ds r:=by rw [Ug] at h;exact h
def Ok {op num into:Int} {args:LI} {kids:List Z6} (h:wS ds (.mk op num into args kids)):TM ds kids:=((Kx _).1 h).2.2.2
end
section
variable {n:Zm}
def Oc:∀{xs:List Z4} {i:Nat} {s t:Z4} {us vs:LI},xs[i]? = some s->XV t.op=XV s.op->(∀ws,0<=Y6 n (us++ws) s->Y6 n (us++ws) t=Y6 n (us++ws) s) ->
  XJ n xs us=some vs->XJ n (xs.set i t) us=some vs
 | [],i,s,t,us,vs,h,_,_,_=>by simp at h
 | x::r,0,s,t,us,vs,h,hd,ht,hv=>by
  simp only [List.getElem?_cons_zero] at h;cases h;rw [List.set_cons_zero,XJ];rw [XJ] at hv
  split at hv
  .cases hv
  .rename_i h0;have h1:=ht [] (by rw [JF];omega);rw [JF] at h1;rw [h1,Z8 h0,hd];exact hv
 | x::r,i+1,s,t,us,vs,h,hd,ht,hv=>by
  rw [List.set_cons_succ,XJ];rw [XJ] at hv
  split at hv
  .cases hv
  .rename_i h0;rw [Z8 h0];refine Oc (by simpa using h) hd (fun ws=>?_) hv
   split
   .rw [Uq];exact ht _
   .exact ht _
def Z5c {us:LI} {op x:Int} (h:op=16∨op=17):Y6 n us (Zz op x)=(match Xq us x with|some t=>if t=0 then -1 else if Wd n.1 t=true then -1 else 0|none=>-1):=by
 rcases h with rfl|rfl<;>simp [Zz,Y6,VT,U9,QU]<;>rfl
def Zni {us:LI} {x:Int}:Y6 n us (Zz 17 x)=Y6 n us (Zz 16 x):=by rw [Z5c (.inl rfl),Z5c<|.inr rfl]
def Znh {us:LI} {x t:Int} {s:Z4} (hs:s.op=6/\s.into=0) (hx:Xq us x=some t) (ht:0<t):Y6 n us (Uo (1+x) s)=Y6 n us s:=by
 obtain ⟨op,num,into,args,kids⟩:=s;obtain ⟨h1,h2⟩:=hs;have h1:op=6:=h1;have h2:into=0:=h2;subst h1 h2;show Y6 n us (.mk 6 num (1+x) args kids)=_
 have hv:U9 us 6 (1+x)=true:=by
  have hx0:=(KC hx).1;rw [U9,Z8 om,Zg rfl,show 1+x-1=x by omega,hx]
  simpa using ht
 have hv0:U9 us 6 0=true:=by rw [U9,Zg rfl]
 rw [Y6,Y6,hv,hv0]
def P0 {us ws:LI} {x t:Int} (h:Xq us x=some t):Xq (us++ws) x=some t:=by
 obtain ⟨h1,h2⟩:=KC h;refine Qx ⟨h1.1,by rw [Yy];omega⟩ ?_;rw [Dr om];exact h2
def Zj3 {us:LI} {b:Z6} {x t:Int} {many:Nat} (hw:wB n.1 b) (h:0<=YY n us b) (hx:Xq us x=some t) (ht:0<t):YY n us (V0 b x many)=YY n us b:=by
 rw [DD] at h ⊢;rw [DD];show (match XJ n (V4 b.steps x many) us with|none=>-1|some vs=>(Xq vs b.result).getD (-1))=_
 cases hv:XJ n b.steps us with
 | none=>rw [hv] at h;simp at h
 | some vs=>
  have key:XJ n (V4 b.steps x many) us=some vs:=by
   rw [V4]
   split
   .exact hv
   .rename_i hq;have ho:¬Wn b.steps x<0:=fun q=>hq<|.inl q
    obtain ⟨c1,c2,s,c3,c4,c5⟩:=KJ fun q=>hq (.inr q)
    rw [c5];have hop:=HO ((Tv b).1 hw) ho;refine Oc (BK hq c3) (by show XV s.op=_;rfl) (fun ws _=>Znh c4.1 (P0 hx) ht)<|Oc hop rfl (fun ws _=>Zni) hv
  rw [key]
def Znk {us args:LI} {num:Int} (h:Wh us args [num]=true):∃a,args=[a]/\Xq us a=some num:=by
 have hl:args.length=1:=B0 fun q=>by
  have:=Oa (vars:=us) (args:=args) (types:=[num]) (by simpa using q);rw [Wh,this] at h;cases h
 obtain ⟨a,rfl⟩:=MU hl;exact ⟨a,U,Ga (i:=0) h rfl rfl⟩
def Z8v {ds:List Zh} {t:Int} (h:(Y1 ds t).length≠0):0<t:=by
 rw [Y1] at h
 split at h
 .omega
 .simp at h
def Zn2 {us:LI} {op num into:Int} {args:LI} {ks ls:List Z6} (hl:ls.length=ks.length) (hk:(op=7∨op=8)->0<=W6 n us ks (Xi n.1 op num) true 0->Wh us args (if op=7 then [0] else [num])=true ->
  W6 n us ls (Xi n.1 op num) true 0=W6 n us ks (Xi n.1 op num) true 0) (h:0<=Y6 n us (.mk op num into args ks)):Y6 n us (.mk op num into args ls)=Y6 n us (.mk op num into args ks):=by
 rw [Y6] at h;rw [Y6,Y6,hl];by_cases h7:op=7
 .subst h7;simp only [if_true] at hk
  split at h
  .omega
  .rename_i hq;rw [Z8 hq,Z8 hq];simp only [show ¬((7:Int)=0) by decide,show ¬((7:Int)=1∨(7:Int)=2∨(7:Int)=3∨(7:Int)=4) by decide,show ¬((7:Int)=5) by decide,show ¬((7:Int)=6) by decide,if_false,if_true] at h ⊢
   split at h
   .rename_i hty;rw [Zg hty,Zg hty]
    split at h
    .omega
    .rename_i hq2;rw [Z8 hq2,Z8 hq2]
     first|exact hk (.inl rfl) h hty|exact hk (.inl trivial) h hty|exact hk trivial h hty|exact hk h hty
   .omega
 .by_cases h8:op=8
  .subst h8;simp only [show ¬((8:Int)=7) by decide,if_false] at hk
   split at h
   .omega
   .rename_i hq;rw [Z8 hq,Z8 hq];simp only [show ¬((8:Int)=0) by decide,show ¬((8:Int)=1∨(8:Int)=2∨(8:Int)=3∨(8:Int)=4) by decide,show ¬((8:Int)=5) by decide,show ¬((8:Int)=6) by decide,show ¬((8:Int)=7) by decide,if_false,if_true] at h ⊢
    split at h
    .rename_i hty;rw [Zg hty,Zg hty]
     split at h
     .omega
     .rename_i hq2;rw [Z8 hq2,Z8 hq2]
      first|exact hk (.inr rfl) h hty|exact hk (.inr trivial) h hty|exact hk trivial h hty|exact hk h hty
    .omega
  .simp only [h7,h8,if_false]
mutual
def Zk2:∀(s:Z4) {us K:LI},wS n.1 s->0<=Y6 n us s->Y6 n us (ruS n.1 K s)=Y6 n us s
 | .mk op num into args kids,us,K,hw,h=>by
  rw [ruS];refine Zn2 (HY _ _) (fun hop hk hty=>?_) h;refine Z37 kids (fun h8=>?_) (Ok hw) hk;rw [Z8 om] at hty;obtain ⟨a,rfl,ha⟩:=Znk hty;have hcn:=(((Kx _).1 hw).2.2.1 h8).2;have hpos:(Y1 n.1 num).length≠0:=by
   intro q;have hf:=(Dn h).kids hop;have h3:(Xi n.1 op num).length≠0:=hf.2.1;rw [Xi,Z8 om,Qq] at h3;exact h3 q
  exact ⟨num,ha,Z8v hpos⟩
def Z37:∀(bs:List Z6) {us K args:LI} {op num:Int} {k:Nat} {ms:List LI} {f:Bool} {t:Int},(op=8->∃y,Xq us (gI args 0)=some y/\0<y)->TM n.1 bs ->
  0<=W6 n us bs ms f t->W6 n us (ruKs n.1 K op num args bs k) ms f t=W6 n us bs ms f t
 | [],us,K,args,op,num,k,ms,f,t,_,_,_=>by rw [ruKs]
 | b::r,us,K,args,op,num,k,[],f,t,_,_,h=>by rw [W6] at h;omega
 | b::r,us,K,args,op,num,k,m::ms,f,t,hx,hw,h=>by
  obtain ⟨hw1,hw2⟩:=Oj hw;rw [W6] at h;rw [ruKs,W6,W6]
  split at h
  .omega
  .rename_i hq;have hb:0<=YY n (us++m) b:=by omega
   have e:YY n (us++m) (if op=8/\¬gI args 0∈K then V0 (ruB n.1 (if Wn b.steps (gI args 0)<0∨XX b.steps (VK n.1 num k).length<0 then K else gI args 0::K) b) (gI args 0) (VK n.1 num k).length else ruB n.1 K b)=YY n (us++m) b:=by
    split
    .rename_i h8;obtain ⟨y,hy,hy0⟩:=hx h8.1;have h1:=ND b (us:=us++m) (K:=if Wn b.steps (gI args 0)<0∨XX b.steps (VK n.1 num k).length<0 then K else gI args 0::K) hw1 hb;rw [Zj3 (Gf b hw1) (by rw [h1];exact hb) (P0 hy) hy0,h1]
    .exact ND b hw1 hb
   rw [e,Z8 hq,Z37 r hx hw2 h,Z8 hq]
def Z38:∀(xs:List Z4) {us vs K:LI},Ug n.1 xs->XJ n xs us=some vs->XJ n (ruSs n.1 K xs) us=some vs
 | [],us,vs,K,_,h=>by rw [ruSs];exact h
 | s::r,us,vs,K,hw,h=>by
  obtain ⟨hw1,hw2⟩:=Ol hw;rw [XJ] at h
  split at h
  .cases h
  .rename_i h0;rw [ruSs,XJ,Zk2 s hw1 om,Z8 h0];have hop:(ruS n.1 K s).op=s.op:=by rw [BM];rfl
   rw [hop];exact Z38 r hw2 h
def ND:∀(b:Z6) {us K:LI},wB n.1 b->0<=YY n us b->YY n us (ruB n.1 K b)=YY n us b
 | .mk steps result,us,K,hw,h=>by
  rw [ruB,YY,YY];rw [YY] at h
  cases hv:XJ n steps us with
  | none=>rw [hv] at h;simp at h
  | some vs=>rw [Z38 steps ((Tv _).1 hw) hv]
end
end
section
variable {ds:List Zh}
def MQ:∀{xs:List Z4} {i:Nat} {s t:Z4} {l:Int},xs[i]? = some s->(∀l,Tq t l=Tq s l)->Uf (xs.set i t) l=Uf xs l
 | [],i,s,t,l,h,_=>by simp at h
 | x::r,0,s,t,l,h,ht=>by
  simp only [List.getElem?_cons_zero] at h;cases h;rw [List.set_cons_zero,Uf,Uf,ht]
 | x::r,i+1,s,t,l,h,ht=>by
  rw [List.set_cons_succ,Uf,Uf,MQ (by simpa using h) ht]
def Zgr (v:Int) (s:Z4) (l:Int):Tq (Uo v s) l=Tq s l:=by cases s;rw [Uo,Tq,Tq];rfl
def Zgq (op op' v v' l:Int):Tq (Zz op v) l=Tq (Zz op' v') l:=by rw [Zz,Tq,Zz,Tq]
def Zgs {xs:List Z4} {x:Int} {many:Nat} {l:Int} (h:Ug ds xs):Uf (V4 xs x many) l=Uf xs l:=by
 rw [V4]
 split
 .rfl
 .rename_i hq;obtain ⟨c1,c2,s,c3,c4,c5⟩:=KJ fun q=>hq<|.inr q
  have hop:=HO h fun q=>hq<|.inl q
  rw [c5,MQ (BK hq c3)<|Zgr _ _,MQ hop<|Zgq _ _ _ _]
mutual
def Zgt:∀(s:Z4) {K:LI} {l:Int},wS ds s->Tq (ruS ds K s) l=Tq s l
 | .mk op num into args kids,K,l,h=>by rw [ruS,Tq,Tq,Z0k kids (Ok h)]
def Z0k:∀(bs:List Z6) {K args:LI} {op num:Int} {k:Nat} {l:Int},TM ds bs->Q1 (ruKs ds K op num args bs k) l=Q1 bs l
 | [],K,args,op,num,k,l,_=>by rw [ruKs]
 | b::r,K,args,op,num,k,l,h=>by
  obtain ⟨h1,h2⟩:=Oj h;have e:∀l,Wy (if op=8/\¬gI args 0∈K then V0 (ruB ds (if Wn b.steps (gI args 0)<0∨XX b.steps (VK ds num k).length<0 then K else gI args 0::K) b) (gI args 0) (VK ds num k).length else ruB ds K b) l=Wy b l:=by
   intro l
   split
   .rw [V0,Wy,Zgs<|(Tv _).1<|Gf b h1,<-MP b (K:=if Wn b.steps (gI args 0)<0∨XX b.steps (VK ds num k).length<0 then K else gI args 0::K) h1]
    cases hb:ruB ds (if Wn b.steps (gI args 0)<0∨XX b.steps (VK ds num k).length<0 then K else gI args 0::K) b with
    | mk st re=>rw [Wy];rfl
   .exact MP b h1
  rw [ruKs,Q1,Q1,e,Z0k r h2]
def Z0l:∀(xs:List Z4) {K:LI} {l:Int},Ug ds xs->Uf (ruSs ds K xs) l=Uf xs l
 | [],K,l,_=>by rw [ruSs]
 | s::r,K,l,h=>by
  obtain ⟨h1,h2⟩:=Ol h;rw [ruSs,Uf,Uf,Zgt s h1,Z0l r h2]
def MP:∀(b:Z6) {K:LI} {l:Int},wB ds b->Wy (ruB ds K b) l=Wy b l
 | .mk steps result,K,l,h=>by rw [ruB,Wy,Wy,Z0l steps ((Tv _).1 h)]
end
def Z52 {b:Z6} {K:LI} (h:wB ds b):VG (ruB ds K b)=VG b:=by rw [VG,VG,MP b h]
end
def Zjz {n:Zm}:∀vars op num args,UM (Va n) vars op num args=UM n vars op num args:=by
 intro vars op num args;unfold UM Va;dsimp only;have e:Xq (n.2.map (VM n.1)) num=(Xq n.2 num).map (VM n.1):=by
  unfold Xq;rw [Qq]
  split
  .rw [Tx]
  .rfl
 rw [e]
 cases Xq n.2 num with
 | none=>rfl
 | some r=>rfl
def Zjx (n:Zm):VV (Va n)=VV n:=by
 have e1:(n.2.map (VM n.1)).map UN=n.2.map UN:=by rw [List.map_map];rfl
 have e2:∀rs:List Y9,Kb (rs.map<|VM n.1)=Kb rs:=by
  intro rs
  induction rs with
  | nil=>rfl
  | cons r rs ih=>rw [Uh,Kb,Kb,ih];rfl
 unfold VV Va;dsimp only;rw [e1,e2,Qq]
def NC {n:Zm} (hz:WF n) (hV:Wo n=true):Wo (Va n)=true:=by
 obtain ⟨hok,hall⟩:=EE hz hV;have hw:=Ir hok hz hall;have hV0:=hV;simp only [Wo,We] at hV;have hro:=Nx hV.2;rw [Wo,Zjx,hV.1,Bool.true_and];refine Z2t fun p hp=>?_
 obtain ⟨r,hr,rfl⟩:=XG.1 (show p∈n.2.map (VM n.1) from hp);obtain ⟨h1,h2⟩:=hro r hr;refine ⟨?_,?_⟩
 .show ¬VG (ruB n.1 [] r.4)<0
  rw [Z52 (hw r hr)];exact h1
 .show YY (Va n) r.1 (ruB n.1 [] r.4)=r.result
  rw [P7 (n:=n) (n2:=Va n) rfl Zjz,ND r.4 (hw r hr)<|hall r hr,h2]
structure Xj (c d:LI):Prop where
 l1:c.length=4
 l2:d.length=4
 a:gI c 0=gI d 0
 b:gI c 1=gI d 1
 s:gI c 2+gI c 3=gI d 2+gI d 3
def four {c:LI} (h:c.length=4):∃x y z w,c=[x,y,z,w]:=by
 match c,h with
 | [x,y,z,w],_=>exact ⟨x,y,z,w,rfl⟩
def Xj.cn {c d:LI} (h:Xj c d) {op op':Int} (ho:op=op'∨(op=17/\op'=16)):Xj (UR op c) (UR op' d):=by
 obtain ⟨x,y,z,w,rfl⟩:=four h.l1;obtain ⟨x',y',z',w',rfl⟩:=four h.l2;have ha:x=x':=h.a;have hb:y=y':=h.b;have hs:z+w=z'+w':=h.s;subst ha hb;rcases ho with rfl|⟨rfl,rfl⟩
 .unfold UR
  split
  .rename_i hc;have hc':14<=op/\op<=17:=by simpa [Yv] using hc
   obtain rfl|rfl|rfl|rfl:op=14∨op=15∨op=16∨op=17:=by omega
   .exact ⟨U,U,U,U,hs⟩
   .exact ⟨U,U,U,U,hs⟩
   .exact ⟨rfl,rfl,rfl,rfl,by show z+1+w=z'+1+w';omega⟩
   .exact ⟨rfl,rfl,rfl,rfl,by show z+(w+1)=z'+(w'+1);omega⟩
  .exact ⟨U,U,U,U,hs⟩
 .exact ⟨rfl,rfl,rfl,rfl,by show z+(w+1)=z'+1+w';omega⟩
section
variable {ds:List Zh}
mutual
def Xj.S:∀(s:Z4) {c d:LI},Xj c d->Xj (US s c) (US s d)
 | .mk op num into args kids,c,d,h=>by rw [US,US];exact Xj.Bs kids (h.cn (.inl rfl))
def Xj.Bs:∀(bs:List Z6) {c d:LI},Xj c d->Xj (V5 bs c) (V5 bs d)
 | [],c,d,h=>by rw [V5,V5];exact h
 | b::r,c,d,h=>by rw [V5,V5];exact Xj.Bs r (Xj.B b h)
def Xj.Ss:∀(xs:List Z4) {c d:LI},Xj c d->Xj (WV xs c) (WV xs d)
 | [],c,d,h=>by rw [WV,WV];exact h
 | s::r,c,d,h=>by rw [WV,WV];exact Xj.Ss r (Xj.S s h)
def Xj.B:∀(b:Z6) {c d:LI},Xj c d->Xj (VE b c) (VE b d)
 | .mk steps result,c,d,h=>by rw [VE,VE];exact Xj.Ss steps h
end
def Xj.set:∀{xs:List Z4} {i:Nat} {s t:Z4} {c d:LI},xs[i]? = some s->(∀{c d:LI},Xj c d->Xj (US t c) (US s d))->Xj c d->Xj (WV (xs.set i t) c) (WV xs d)
 | [],i,s,t,c,d,h,_,_=>by simp at h
 | x::r,0,s,t,c,d,h,ht,hc=>by
  simp only [List.getElem?_cons_zero] at h;cases h;rw [List.set_cons_zero,WV,WV];exact Xj.Ss r<|ht hc
 | x::r,i+1,s,t,c,d,h,ht,hc=>by
  rw [List.set_cons_succ,WV,WV];exact Xj.set (by simpa using h) ht<|Xj.S x hc
def Xj.trans {c d e:LI} (h:Xj c d) (g:Xj d e):Xj c e:=⟨h.l1,g.l2,h.a.trans g.a,h.b.trans g.b,h.s.trans g.s⟩
def Xj.refl {c:LI} (h:c.length=4):Xj c c:=⟨h,h,rfl,rfl,rfl⟩
def Xj.reu {xs:List Z4} {x:Int} {many:Nat} {c d:LI} (h:Ug ds xs) (hc:Xj c d):Xj (WV (V4 xs x many) c) (WV xs d):=by
 rw [V4]
 split
 .exact Xj.Ss xs hc
 .rename_i hq;obtain ⟨c1,c2,s,c3,c4,c5⟩:=KJ fun q=>hq<|.inr q
  have hop:=HO h fun q=>hq<|.inl q
  rw [c5];refine Xj.trans (Xj.set (BK hq c3) (fun {c d} hc=>?_)<|Xj.refl hc.l1)<|Xj.set hop (fun {c d} hc=>?_) hc
  .obtain ⟨op,num,into,args,kids⟩:=s;show Xj (US (.mk op num (1+x) args kids) c) _
   rw [US,US];exact Xj.Bs kids<|hc.cn<|.inl rfl
  .rw [Zz,US,Zz,US,V5,V5];exact hc.cn (.inr ⟨U,U⟩)
mutual
def Xj.ruS:∀(s:Z4) {K c d:LI},wS ds s->Xj c d->Xj (US (Go.Abs.ruS ds K s) c) (US s d)
 | .mk op num into args kids,K,c,d,hw,h=>by
  rw [Go.Abs.ruS,US,US];exact Xj.ruKs kids (Ok hw)<|h.cn<|.inl rfl
def Xj.ruKs:∀(bs:List Z6) {K args:LI} {op num:Int} {k:Nat} {c d:LI},TM ds bs->Xj c d->Xj (V5 (Go.Abs.ruKs ds K op num args bs k) c) (V5 bs d)
 | [],K,args,op,num,k,c,d,_,h=>by rw [Go.Abs.ruKs,V5,V5];exact h
 | b::r,K,args,op,num,k,c,d,hw,h=>by
  obtain ⟨h1,h2⟩:=Oj hw;rw [Go.Abs.ruKs,V5,V5];refine Xj.ruKs r h2 ?_
  split
  .rw [V0,VE];refine Xj.trans (Xj.reu ((Tv _).1<|Gf b h1) h) ?_;have:=Xj.ruB b (K:=if Wn b.steps (gI args 0)<0∨XX b.steps (VK ds num k).length<0 then K else gI args 0::K) h1 (Xj.refl h.l2)
   rwa [Lc] at this
  .exact Xj.ruB b h1 h
def Xj.ruSs:∀(xs:List Z4) {K c d:LI},Ug ds xs->Xj c d->Xj (WV (Go.Abs.ruSs ds K xs) c) (WV xs d)
 | [],K,c,d,_,h=>by rw [Go.Abs.ruSs,WV,WV];exact h
 | s::r,K,c,d,hw,h=>by
  obtain ⟨h1,h2⟩:=Ol hw;rw [Go.Abs.ruSs,WV,WV];exact Xj.ruSs r h2 (Xj.ruS s h1 h)
def Xj.ruB:∀(b:Z6) {K c d:LI},wB ds b->Xj c d->Xj (VE (Go.Abs.ruB ds K b) c) (VE b d)
 | .mk steps result,K,c,d,hw,h=>by rw [Go.Abs.ruB,VE,VE];exact Xj.ruSs steps ((Tv _).1 hw) h
end
def Xj.Rs:∀(rs:List Y9) {c d:LI},(∀r∈rs,wB ds r.4)->Xj c d->Xj (Th (rs.map<|VM ds) c) (Th rs d)
 | [],c,d,_,h=>h
 | r::rs,c,d,hw,h=>by
  rw [Uh,Th,Th];exact Xj.Rs rs (fun q hq=>hw q<|XF _ hq)<|Xj.ruB r.4 (hw r<|Xn ..) h
end
def Zju {n:Zm} (hw:∀r∈n.2,wB n.1 r.4):Xj (Ti<|Va n) (Ti n):=Xj.Rs n.2 hw (Xj.refl rfl)
def Z3x {n:Zm}:∀(rs:List Y9),(∀r∈rs,wB n.1 r.4)->UW (rs.map<|VM n.1)=UW rs
 | [],_=>rfl
 | r::rs,h=>by
  have ih:=Z3x rs fun q hq=>h q<|XF _ hq
  rw [Uh,UW,UW,ih]
  congr 1
  exact Z52<|h r<|Xn ..
section
variable {ds:List Zh}
def Zhj {xs:List Z4} {x:Int} {many:Nat} (h:KW (V4 xs x many)):V4 xs x many=xs:=by
 rw [V4] at h ⊢
 split
 .rfl
 .rename_i hq;rw [Z8 hq] at h;exfalso;have hap:=Lh hq;obtain ⟨o1,o2,s,o3,o4,o5⟩:=BH fun q=>hq<|.inl q
  have hlt:=(Xv.1 o3).1;have hg:((xs.set (Wn xs x).toNat<|Zz 17 x).set (XX xs many).toNat (Uo (1+x)<|AN xs<|XX xs many))[(Wn xs x).toNat]? = some (Zz 17 x):=by
   rw [List.getElem?_set_ne om,List.getElem?_set_self hlt]
  have:=Ek.1 h _ (Y0 hg);exact ((De _).1 this).1 rfl
mutual
def Zhk:∀(s:Z4) {K:LI},At (ruS ds K s)->ruS ds K s=s
 | .mk op num into args kids,K,h=>by
  rw [ruS] at h ⊢;rw [At] at h;rw [Z15 kids h.2]
def Z15:∀(bs:List Z6) {K args:LI} {op num:Int} {k:Nat},Ju (ruKs ds K op num args bs k)->ruKs ds K op num args bs k=bs
 | [],K,args,op,num,k,_=>by rw [ruKs]
 | b::r,K,args,op,num,k,h=>by
  rw [ruKs,Ju] at h;rw [ruKs,Z15 r h.2]
  congr 1
  have h1:=h.1
  split
  .rename_i h8;rw [Zg h8,V0,T9] at h1;have e1:=Zhj h1;rw [e1] at h1;have e2:=N3 b (K:=if Wn b.steps (gI args 0)<0∨XX b.steps (VK ds num k).length<0 then K else gI args 0::K) ((Ej _).2 h1);rw [V0,e1,e2];cases b;rfl
  .rename_i h8;rw [Z8 h8] at h1;exact N3 b h1
def Z16:∀(xs:List Z4) {K:LI},KW (ruSs ds K xs)->ruSs ds K xs=xs
 | [],K,_=>by rw [ruSs]
 | s::r,K,h=>by
  rw [ruSs,KW] at h;rw [ruSs,Zhk s h.1,Z16 r h.2]
def N3:∀(b:Z6) {K:LI},T9 (ruB ds K b)->ruB ds K b=b
 | .mk steps result,K,h=>by
  rw [ruB,T9] at h;rw [ruB,Z16 steps h]
end
end
def Zjw {n:Zm} (h:¬gI (Ti<|Va n) 3>0):Va n=n:=by
 have hn:=PE h;have e:n.2.map (VM n.1)=n.2:=by
  have key:∀rs:List Y9,(∀r∈rs,T9 (VM n.1 r).body)->rs.map (VM n.1)=rs:=by
   intro rs
   induction rs with
   | nil=>intro _;rfl
   | cons r rs ih=>
    intro h;rw [Uh,ih fun q hq=>h q (XF _ hq)]
    congr 1
    have:=N3 (ds:=n.1) r.4 (K:=[]) (h r<|Xn ..);rw [VM,this]
  exact key n.2 fun r hr=>hn _<|XG.2 ⟨r,hr,U⟩
 cases n with
 | mk ds rs=>exact Zm.ext2 rfl e

structure Zof (n:Zm) (r:Y9) (k:Nat) (L:Zy):Prop where
 ok:Xf n.1 L (1+4*r.4.sz)
 pre:∃ws,L.1=r.1++ws
 len:L.1.length<=r.1.length+r.4.sz
 ty:∀s,r.4.steps[k]? = some s->0<=Y6 n L.1 s
end Go.Abs
section
namespace Go.Abs
section
variable {n n2:Zm} (hd:n2.decls=n.1) (hr:∀vars op num args,UM n2 vars op num args=UM n vars op num args) (hl:∀op num,BC n2 op num=BC n op num)
include hd hr hl
omit hd hr in
omit hd hr in
omit hr in
end
end Go.Abs
namespace Go.Abs
end Go.Abs
end
namespace Go.Abs
section
variable {ds:List Zh}
end
section
variable {n:Zm}
end
structure SC (f g:Int->Nat) (same:Prop):Prop where
 a:f 14<=g 14
 c:g 16<=f 16
 d:f 17=g 17
 e:f 16=g 16->same
section
variable {ds:List Zh}
end
structure OT (ds:List Zh) (L:Zy):Prop where
 own:∀(i:Nat) (x:Int),L.2[i]? = some x->x≠0->∃t,L.1[i]? = some t/\t≠0
 arm:∀x:Int,0<=x->x<L.1.length->0<=gI L.4 x->∀(i:Nat) (t:Int),(ZZ ds<|gI L.4 x)[i]? = some t->L.1[(gI L.5 x).toNat+i]? = some t
def Zy.wo (L:Zy) (o:LI):Zy:=⟨L.1,o,L.3,L.4,L.5,L.6⟩
section
variable {n:Zm} {ln:LI}
structure Zoj (ln:LI) (L M:Zy) (l:List Z4):Prop where
 e:M=L.wo M.2
 len:M.2.length=L.2.length
 own:∀v:Int,0<=v->gI M.2 v=gI L.2 v+(WQ 14 l).count v-(WQ 15 l).count v
 dup:∀a∈WQ 14 l,Ws L ln a=true
 aliv:∀w:Int,0<=w->w<L.1.length->1<=gI M.2 w->Ws L ln w=true
 nn:(∀x∈L.2,0<=x)->∀x∈M.2,0<=x
end
structure Zog (i:Nat) (L:Zy):Prop where
 o:i<L.2.length
 v:i<L.1.length
 t:i<L.6.length
section
variable {ds:List Zh}
end
def Zjv {n:Zm} (h:∀r∈n.2,r.4.rng):∀r∈(Va n).routines,r.4.rng:=by
 intro r hr;obtain ⟨q,hq,rfl⟩:=XG.1 (show r∈n.2.map (VM n.1) from hr);exact HU q.body (h q hq)
def Zhe:WF Ck:=⟨⟨by simp [Ck],fun d hd=>(by cases hd),fun d hd=>(by cases hd)⟩,by simp [Ck],fun r hr=>(by cases hr),fun r hr=>(by cases hr),fun r hr=>(by cases hr)⟩
def P5 {n:Zm} (hz:WF n) (hb:UQ n=true):∀r∈n.2,wB n.1 r.4:=by
 obtain ⟨h1,_,h3⟩:=Gp hz hb;exact Ir h1 hz h3
def IZ {n:Zm} (hb:UQ n=true):Wo n=true:=by rw [UQ,We] at hb;exact hb.1
def FQ {n:Zm} (h:(ZP n).2=true):UQ n=true/\¬gI (Ti n) 3>0/\ZP n=(Va n,true):=by
 unfold ZP at h ⊢
 split at h
 .rename_i hc;rw [Zg hc];exact ⟨hc.1,hc.2,rfl⟩
 .cases h
def Zjy {n:Zm} (hz:WF n) (hw:∀r∈n.2,wB n.1 r.4):WF (Va n):=by
 refine ⟨hz.decls,by show (n.2.map _).length<=_;rw [Qq];exact hz.len,?_,?_,?_⟩
 .intro r hr;obtain ⟨q,hq,rfl⟩:=XG.1 (show r∈n.2.map (VM n.1) from hr);exact hz.params q hq
 .intro r hr;obtain ⟨q,hq,rfl⟩:=XG.1 (show r∈n.2.map (VM n.1) from hr);exact hz.lent q hq
 .intro r hr;obtain ⟨q,hq,rfl⟩:=XG.1 (show r∈n.2.map (VM n.1) from hr);exact Vy (HW q.body (hw q hq)) (hz.body q hq)
def Z2i {n:Zm} (hz:WF n):WF (ZP n).1:=by
 unfold ZP
 split
 .rename_i h;exact Zjy hz<|P5 hz h.1
 .exact Zhe
def Z2h {n:Zm} (h:∀r∈n.2,r.4.rng):∀r∈(ZP n).1.routines,r.4.rng:=by
 unfold ZP
 split
 .exact Zjv h
 .intro r hr;cases hr
def Gw {n:Zm} (h:Wo n=true):cF n=Ti n:=by rw [cF,Zg h]
def Z2m {n:Zm} (hz:WF n) (h:(ZP n).2=true) :
  (cF n).length=4/\(cF (Va n)).length=4/\gI (cF n) 0=gI (cF<|Va n) 0/\gI (cF n) 1=gI (cF<|Va n) 1/\gI (cF n) 2+gI (cF n) 3=gI (cF<|Va n) 2+gI (cF<|Va n) 3/\G0 (Va n)=G0 n:=by
 obtain ⟨hb,_,_⟩:=FQ h;have hV:=IZ hb;have hw:=P5 hz hb;have hV2:=NC hz hV;have hc:=Zju hw;rw [Gw hV,Gw hV2];exact ⟨hc.l2,hc.l1,hc.a.symm,hc.b.symm,hc.s.symm,Z3x n.2 hw⟩
def Zj6 {n:Zm} (hz:WF n) (h:(ZP n).2=true) (h3:gI (cF<|Va n) 3>0):(ZP (Va n)).2=false:=by
 obtain ⟨hb,_,_⟩:=FQ h;rw [Gw (NC hz (IZ hb))] at h3;rw [ZP,Z8 (fun z=>z.2 h3)]
def Zj7 {n:Zm} (hz:WF n) (h:(ZP n).2=true) (h3:¬gI (cF<|Va n) 3>0):(ZP (Va n)).2=true/\Va n=n:=by
 obtain ⟨hb,h0,_⟩:=FQ h;rw [Gw (NC hz (IZ hb))] at h3;have e:=Zjw h3;rw [e];exact ⟨h,U⟩
section
variable {n n2:Zm} (hd:n2.decls=n.1) (hr:∀vars op num args,0<=UM n vars op num args->UM n2 vars op num args=UM n vars op num args)
include hd hr
end
def Eh (g l c m kk:Nat):Value:=.slice (some ⟨g,(if c-m=0 then 0 else m*kk),none⟩) (l-m) (c-m)
def NQ (P:Program) (ops:Array Oper) (F:Fr) (k:Nat):Option (AV × Int × Nat):=
 match (ZG ops k).op with
 | .slice t x (some lo) none none=>match P.underlying t with
  | some (.slice e)=>match P.info? e with
   | some i=>match F.ev lo with
    | .val (.int _ m)=>some (F.ev x,m,i.size)
    | _=>none
   | none=>none
  | _=>none
 | _=>none
section
variable {P:Program} {n:Nat} {ops:Array Oper} {k:Nat} {F:Fr} {h h2:List Res}
def Zmp (j:Nat) {g l c m kk:Nat} {ls:List AV} (hi:NQ P ops F k=some (.val<|.slice (some ⟨g,0,none⟩) l c,(m:Int),kk)) (hj:h[j]? = some (.row (.slice (some ⟨g,0,none⟩) l c) kk ls)) (hle:m<=l) :
  XH P (ZG ops k) F h [] (.val<|Eh g l c m kk):=by
 unfold NQ at hi;generalize hoo:ZG ops k=o at hi;obtain ⟨dst,op,type,pos,after,guard⟩:=o;cases op<;>simp only at hi<;>try (cases hi)
 rename_i t x lo hi' mx
 cases lo with
 | none=>simp at hi
 | some y=>
  cases hi' with
  | some _=>simp at hi
  | none=>
   cases mx with
   | some _=>simp at hi
   | none=>
    simp only at hi
    split at hi
    .rename_i e ht
     split at hi
     .rename_i inf hinf
      split at hi
      .rename_i ik m' hm;simp only [Wz,Prod.mk.injEq] at hi;obtain ⟨hx,rfl,hkk⟩:=hi;intro n w G a hF hh;have v1:=hF.ev x;rw [hx] at v1;have v1:=v1.val_inv;have v2:=hF.ev y;rw [hm] at v2;have v2:=v2.val_inv;have hcap:l<=c:=by
        rcases hh.ok _ (Y0 hj) with ⟨h0,_⟩|⟨g',l',c',cur,el,h0,_,hc,_⟩
        .cases h0
        .cases h0;exact hc
       refine ⟨_,.val,fun w' _ _=>?_⟩;simp only [execOp,v1,v2,CM,Option.map_none];refine Vv ?_;simp only [Instr.sliceAt,Sem.run_bind,VX ht,Result.andThen_ok,Instr.slice];have hmm:(Instr.sliceBounds true l c (some<|.int ik (m:Int)) none none).run P w'=.ok (m,l,c) w':=by
        have Yx:=Eu (P:=P) (c:=BoundsCode.sliceB) (v:=.int ik (m:Int)) (y:=l) rfl om om w';simp [Instr.sliceBounds,Yx]
       rw [hmm];simp only [Result.andThen_ok,Kd hinf,Eh,hkk];by_cases h0:c-m=0
       .have e0:c=m:=by omega
        simp [e0]
       .have e0:¬c=m:=fun z=>h0 om
        simp [e0,h0,Addr.add];exact fun z=>z.symm
      .cases hi
     .cases hi
    .cases hi
def SO (j g l c m kk:Nat) (ls:List AV) (hle:m<=l:=by omega) (hi:NQ P ops F k=some (.val<|.slice (some ⟨g,0,none⟩) l c,(m:Int),kk):=by kernel_rfl) (hj:h[j]? = some (.row (.slice (some ⟨g,0,none⟩) l c) kk ls):=by kernel_rfl) :
  XH P (ZG ops k) F h [] (.val<|Eh g l c m kk):=Zmp j hi hj hle
def Zi1 {K:Fr->List Res->Prop} {g len cap i m sz:Nat} {ls:List AV} (hd:VS n (ZG ops k)=true) (ha:Tf P ops F k=some (.val<|.slice (some ⟨g,0,none⟩) i cap,.val<|Eh g len cap m sz,sz))
  (hone:ls.all AV.one=true) (him:i<=m) (hml:m<=len)
  (hK:K (F.put (ZG ops k).dst<|.val<|.slice (some ⟨g,0,none⟩) (i+(len-m)) cap) (.row (.slice (some ⟨g,0,none⟩) (i+(len-m)) cap) sz (ls.take (i*sz)++ls.drop (m*sz))::h2)):WU P n (ZG ops k) F (.row (.slice (some ⟨g,0,none⟩) len cap) sz ls::h2) K:=by
 unfold Tf at ha;generalize hoo:ZG ops k=o at ha hd hK;obtain ⟨dst,op,type,pos,after,guard⟩:=o;cases op<;>simp only at ha<;>try (cases ha)
 rename_i c;obtain ⟨callee,args,tys⟩:=c;simp only at ha
 split at ha
 case h_2=>cases ha
 rename_i s x t t' hargs htys
 split at ha
 case h_2=>cases ha
 rename_i e htt ht;have:=UZ htt;subst this
 split at ha
 case h_2=>cases ha
 rename_i inf hinfo
 split at ha
 case h_2=>cases ha
 rename_i z hz
 split at ha
 case h_2=>cases ha
 rename_i hb;simp only [We] at hb;simp only [Wz,Prod.mk.injEq] at ha;obtain ⟨h3,h4,hk1⟩:=ha;have e1:args=#[s,x]:=by rw [<-UG (xs:=args),hargs]
 have e2:tys=#[t,t]:=by rw [<-UG (xs:=tys),htys]
 subst e1;subst e2
 intro Q w G a hF hh;have v1:=hF.ev s;have v2:=hF.ev x;rw [h3] at v1;rw [h4] at v2;have v1:=v1.val_inv;have v2:=v2.val_inv;rcases hh.ok _ (Xn ..) with ⟨h0,_⟩|⟨g',len',cap',cur,el,h0,hrow,hlc,hcur,hll,hcells⟩
 .cases h0
 .cases h0;have q5:len*sz<=cap*sz:=Ky _ hlc;have q6:m*sz<=len*sz:=Ky _ hml;have q7:i*sz<=m*sz:=Ky _ him;have q8:(len-m)*sz=len*sz-m*sz:=Nat.sub_mul ..;have q9:(i+(len-m))*sz=i*sz+(len-m)*sz:=Kf ..;have hcl:cur.toList.length=cap*sz:=by rw [JD,hcur]
  have h1:(cur.toList.take (len*sz)).length=len*sz:=by rw [WK,hcl,Vz q5]
  have hnl:((cur.toList.take (len*sz)).drop (m*sz)).length=(len-m)*sz:=by rw [B1,h1];omega
  have hr:=I1 (P:=P) w t type e el inf ht hinfo g i cap cur hrow ⟨g,(if cap-m=0 then 0 else m*sz),none⟩ (len-m) (cap-m) ((cur.toList.take (len*sz)).drop (m*sz)) (by rw [hk1];exact hnl)
   (fun j u hj=>by
    have hjl:=(Xv.1 hj).1;rw [hnl] at hjl;have hne:¬cap-m=0:=fun z=>by
     have:len-m=0:=by omega
     rw [this] at hjl;omega
    rw [Z8 hne,JK,cell_of_row w g _ cur el (0,0) hrow];rw [CF,Qp] at hj
    split at hj
    .simpa using hj
    .cases hj)
   (fun u hu=>hcells.one_cells hone u<|List.mem_of_mem_drop hu) om (by rw [hk1,hnl,hcur];omega)
  rw [hk1] at hr;have hti:(cur.toList.take (i*sz)).length=i*sz:=by rw [WK,hcl,Vz om]
  obtain ⟨j1,j2⟩:=hh.rgrow (ls':=ls.take (i*sz)++ls.drop (m*sz)) (len':=i+(len-m)) (cs':=(cur.toList.take (i*sz)++(cur.toList.take (len*sz)).drop (m*sz)++cur.toList.drop (i*sz+((cur.toList.take (len*sz)).drop (m*sz)).length)).toArray) hrow
   (by simp only [EI,Yy,hti,hnl,B1,hcl,hcur];omega) om hcur (by rw [Yy,WK,B1,hll,q9,Vz om];omega) (by
    have:(cur.toList.take (i*sz)++(cur.toList.take (len*sz)).drop (m*sz)++cur.toList.drop (i*sz+((cur.toList.take (len*sz)).drop (m*sz)).length)).toArray.toList.take ((i+(len-m))*sz)=cur.toList.take (i*sz)++(cur.toList.take (len*sz)).drop (m*sz):=by
     rw [EJ,q9,<-hnl]
     conv=>lhs;arg 1;rw [show i*sz+((cur.toList.take (len*sz)).drop (m*sz)).length=(cur.toList.take (i*sz)++(cur.toList.take (len*sz)).drop (m*sz)).length from by rw [Yy,hti]]
     exact B4
    rw [this];have ht1:=hcells.take (i*sz);rw [List.take_take,Vz om] at ht1
    exact ht1.append<|hcells.drop (m*sz))
  generalize hW:w.setRow g (cur.toList.take (i*sz)++(cur.toList.take (len*sz)).drop (m*sz)++cur.toList.drop (i*sz+((cur.toList.take (len*sz)).drop (m*sz)).length)).toArray=W at hr j1 j2;have hrun:(execOp a.eval { dst:=dst,op:=.call { callee:=.builtin .append,args:=#[s,x],argTypes:=#[t,t] },type:=type,pos:=pos,after:=after,guard:=guard }).run P w=.ok (.value<|.slice (some ⟨g,0,none⟩) (i+(len-m)) cap) W:=by
   simp only [execOp,resolve,invoke,builtin,Sem.run_bind,Sem.run_pure,Result.andThen_ok,CH,Uh,CG,v1,v2,Eh];rw [hr];rfl
  unfold Oper.wp;rw [hrun];exact ⟨_,_,G,hK,(hF.mono<|j2.agree hh).put (Tk hd) .val,j1,j2⟩
end
section
variable {P:Program} {n:Nat} {ops:Array Oper} {B:Fr->List Res->Prop} {T:List (Nat × List Nat)} {fuel:Nat} {done:List Nat} {k:Nat} {F:Fr} {h:List Res}
def PZ (q j:Nat) (js bs:List Nat) (g len cap i m sz:Nat) (ls:List AV) (hone:ls.all AV.one=true)
  (H:X3 P n ops B (T.filter fun t=>!Vq ops q t.1) fuel (done++[q]) (F.put (ZG ops q).dst<|.val<|.slice (some ⟨g,0,none⟩) (i+(len-m)) cap) (.row (.slice (some ⟨g,0,none⟩) (i+(len-m)) cap) sz (ls.take (i*sz)++ls.drop (m*sz))::XO [j] h)) (him:i<=m:=by omega) (hml:m<=len:=by omega)
  (hk:Xe n ops F q=true:=by kernel_rfl) (ha:Tf P ops F q=some (.val<|.slice (some ⟨g,0,none⟩) i cap,.val<|Eh g len cap m sz,sz):=by kernel_rfl) (hp:Wu [j] h=some [.row (.slice (some ⟨g,0,none⟩) len cap) sz ls]:=by kernel_rfl) (ho:UE ops q T=bs:=by kernel_rfl)
  (hj:js.map (fun z=>(V3<|XO [j] h)[z]?)=bs.map some:=by kernel_rfl):VY P n ops B T fuel done F h q:=
 Jj [j] js bs hk (VL hp) ho hj (Zi1 (h2:=[]) (U5 hk).2.1 ha hone him hml H)
end
def Zae (xs:List Y9) (k:Nat) (d:Y9):YS (xs.set k d)=(YS xs).set k (Kh d):=by simp [YS,List.map_set]
def H2 (xs:List Y9):(Zc (YS xs)).length=xs.length*5:=by rw [T3 (k:=5) _ (T2 xs)];simp
def Zbc {ds:List Y9} {k:Nat} (d:Y9) (hk:k<ds.length):(Zc (YS ds)).take (k*5)++(Kh d).leaves++(Zc (YS ds)).drop (k*5+5)=Zc (YS<|ds.set k d):=by
 rw [Zae];exact H5 (y:=Kh d) (T2 ds) rfl (by simpa using hk)
def Z9y (xs:List Z6) (k:Nat) (d:Z6):YP (xs.set k d)=(YP xs).set k (ZV d):=by
 simp [TR,List.map_set]
def Fi (xs:List Z6):(Zc (YP xs)).length=xs.length*2:=by rw [T3 (k:=2) _ (Qy xs)];simp
def Zb6 {ds:List Z6} {k:Nat} (d:Z6) (hk:k<ds.length):(Zc (YP ds)).take (k*2)++(ZV d).leaves++(Zc (YP ds)).drop (k*2+2)=Zc (YP<|ds.set k d):=by
 rw [Z9y];exact H5 (y:=ZV d) (Qy ds) (by cases d;rfl) (by simpa using hk)
def Wf.frzN {P:Program} {f:FuncId} {as1:List AV} {h0:List Res} {ds:List Zh} {rs:List Y9} {hs:List Res}
  (H:Wf P f as1 h0 fun r h=>∃g c:Nat,r=.agg [ZQ ds,.ms g 0 rs.length c]/\h=.row (.slice (some ⟨g,0,none⟩) rs.length c) 5 (Zc<|YS rs)::hs) :
  Wf P f as1 h0 (fun r h=>r=.agg [ZQ ds,KV rs]/\h=hs):=by
 intro w G vs hv hh;refine (H w G vs hv hh).mono ?_;rintro e w' ⟨u,r,h',G',he,⟨gb,c,rfl,rfl⟩,hr,hh',hx⟩;obtain ⟨G2,h1,h2,h3⟩:=Ct hh' (T2 _) om;have hA:Ur G' w' w' G2:=h2.agree hh';refine ⟨u,_,hs,G2,he,⟨U,U⟩,?_,(h1.perm (List.perm_append_comm (l₁:=[_]))).left,(hx.trans h2).sub' (B3 _ _)⟩
 cases hr with
 | agg hc=>
  cases hc with
  | cons k1 t1=>
   cases t1 with
   | cons k2 t2=>
    cases t2;have hv2:=k2.val_inv;subst hv2;refine .agg (.cons (k1.mono hA) (.cons ?_ .nil));have hw:Zd (.sl (YS rs) (some (.slice (some ⟨gb,0,none⟩) rs.length c))) (KV rs):=Zd.forget _ _;exact hw _ _ _ h3
def Zbj (v:Value) (k:Nat) (ls ks:List AV) (b o:Nat):Res.fp (.row v k ks) b o=Res.fp (.vec v ls) b o:=by
 cases v with
 | slice a _ _=>cases a<;>rfl
 | _=>rfl
def Znz {w:World} {G:Yl} {v:Value} {ls:List AV} {h2:List Res} (hh:YA w G (.vec v ls::h2)):YA w G (.row v 1 ls::h2)/\X4 w G (.vec v ls::h2) w G (.row v 1 ls::h2):=by
 have hpw:=Vb.1 hh.apart;have hf:∀b o,Res.fp (.row v 1 ls) b o->Res.fp (.vec v ls) b o:=fun b o h=>by rw [Zbj v 1 ls ls] at h;exact h
 refine ⟨⟨fun r hr=>?_,Vb.2 ⟨fun r hr b o f1 f2=>hpw.1 r hr b o (hf b o f1) f2,hpw.2⟩,fun r hr b o f1 hg=>?_,hh.lt⟩,⟨U,U,U,X8 _,fun _ _ h=>h,fun _ _=>.inl rfl,fun _ _ _ h=>.inl h,fun b o _ ⟨r,hr,f1⟩=>?_⟩⟩
 .rcases YM.1 hr with rfl|hr
  .rcases hh.ok _ (Xn ..) with h0|⟨g,cap,cur,e,h0,h1,h3,h4,h5⟩
   .exact .inl h0
   .exact .inr ⟨g,ls.length,cap,cur,e,h0,h1,h3,by rw [h4,Kg],by rw [Kg],by rw [Kg];exact h5⟩
  .exact hh.ok r<|XF _ hr
 .rcases YM.1 hr with rfl|hr
  .exact hh.prot _ (Xn ..) b o (hf b o f1) hg
  .exact hh.prot r (XF _ hr) b o f1 hg
 .rcases YM.1 hr with rfl|hr
  .exact ⟨_,Xn ..,hf b o f1⟩
  .exact ⟨r,XF _ hr,f1⟩
def RH:∀xs:LI,Zc (Z7 xs)=Z7 xs
 | []=>rfl
 | x::r=>Ys (AV.i x::·) (RH r)
section
variable {h:List Res}
def AY (j:Nat) (v:Hd) (xs:LI) (hp:Wu [j] h=some [rV v xs]:=by kernel_rfl):TN h (.row v.v 1 (Zc<|Z7 xs)::XO [j] h):=by
 have e:Zc (Z7 xs)=Z7 xs:=RH xs;rw [e];intro w G hh;have hp':=UF (VL hp);obtain ⟨a,b⟩:=Znz (hh.perm hp');exact ⟨G,a,b.perm hp'.symm<|QP _⟩
end
def BI (bs:LI) (p:Nat) (mx:Int):Int:=
 if mx<1∨bs.length=0 then 0 else if p<bs.length then (bs[p]?).getD 0 % mx else
  BU ((((bs[p % bs.length]?).getD 0*131+(bs[(p*7+3) % bs.length]?).getD 0*1117)+((p*29:Nat):Int))+(((p / bs.length:Nat):Int)*53))
   (((((bs[p % bs.length]?).getD 0*131+(bs[(p*7+3) % bs.length]?).getD 0*1117)+((p*29:Nat):Int))+(((p / bs.length:Nat):Int)*53)) / 64) % mx
def Zih {bs:LI} {p:Nat} {mx:Int} (h:0<mx):0<=BI bs p mx/\BI bs p mx<mx:=by
 rw [BI]
 split
 .omega
 .split
  .exact ⟨Int.emod_nonneg _ om,Int.emod_lt_of_pos _ h⟩
  .exact ⟨Int.emod_nonneg _ om,Int.emod_lt_of_pos _ h⟩
def Zb5 {xs:List Z6} {k:Nat} {b:Z6} (h:xs[k]? = some b):Zc (YP<|xs.take k)++Zc [ZV b]=Zc (YP<|xs.take (k+1)):=by
 rw [WO h,Bg,Uk]
 congr 1
 rw [TR];rfl
def Fv (s:Z4) (u:Value):List AV:=[.i s.op,.i s.num,.i s.into,Z5 s.args,.val u]
def Fl (b:Z6) (k:Nat):Z4:=(b.steps[k]?).getD (Zz 0 0)
def H7 {b:Z6} {k:Nat} {s:Z4} (h:b.steps[k]? = some s):Fl b k=s:=by rw [Fl,h];rfl
def Vk (b:Z6) (kk:Nat) (u:Value) (k:Nat):List AV:=if k<=kk then Zc (Zv<|b.steps.take k) else Zc (Zv<|b.steps.take kk)++(Fv (Fl b kk) u++Zc (Zv<|(b.steps.take k).drop (kk+1)))
def Q0 (b:Z6) (kk k:Nat):List AV:=if k<=kk then [] else Zc (YP (Fl b kk).kids)
def SX {b:Z6} {kk:Nat} {u:Value}:Vk b kk u 0=[]:=by rw [Vk,Zg<|JG _,List.take_zero,U2];rfl
def Z00 {b:Z6} {kk:Nat}:Q0 b kk 0=[]:=Zg (JG _)
def MF {b:Z6} {kk k:Nat} {u:Value} (h:k<=b.steps.length):(Vk b kk u k).length=k*5:=by
 rw [Vk]
 split
 .rw [Qb,WK,Vz h]
 .rename_i q;have e:(Fv (Fl b kk) u).length=5:=rfl;rw [Yy,Yy,Qb,Qb,B1,WK,WK,e,Vz h,Vz om];omega
def SV {b:Z6} {kk k:Nat} {u:Value} {s:Z4} (hs:b.steps[k]? = some s) (hk:¬k=kk):Vk b kk u k++Zc [YL s]=Vk b kk u (k+1):=by
 have hkl:=(Xv.1 hs).1;by_cases q:k<=kk
 .rw [Vk,Zg q,Vk,Zg om];exact RG hs
 .rw [Vk,Z8 q,Vk,Z8 om,Uq,Uq]
  congr 2
  rw [WO hs,List.drop_append_of_le_length (by rw [WK];omega),V7,Uk]
  congr 1
  rw [U2];rfl
def SY {b:Z6} {kk k:Nat} (hk:¬k=kk):Q0 b kk k=Q0 b kk (k+1):=by
 by_cases q:k<=kk
 .rw [Q0,Zg q,Q0,Zg om]
 .rw [Q0,Z8 q,Q0,Z8 om]
def SW {b:Z6} {kk:Nat} {u u2:Value} {s:Z4} (hs:b.steps[kk]? = some s):Vk b kk u kk++Fv s u2=Vk b kk u2 (kk+1):=by
 rw [Vk,Zg<|X8 _,Vk,Z8 om,H7 hs,Iz (by rw [WK];omega),U2];show _=_++(Fv s u2++Zc [])
 rw [Zbh,JF]
def SZ {b:Z6} {kk:Nat} {s:Z4} (hs:b.steps[kk]? = some s):Zc (YP s.kids)=Q0 b kk (kk+1):=by
 rw [Q0,Z8 om,H7 hs]
def Z3n {α:Type}:∀(A X:List α) (m:Nat) (y:α),(A++X).set (A.length+m) y=A++X.set m y
 | [],X,m,y=>by simp
 | a::r,X,m,y=>by
  have:=Z3n r X m y;rw [QQ,YR,show r.length+1+m=(r.length+m)+1 by omega,List.set_cons_succ,this,QQ]
def Zdf {α:Type} (A X:List α) (m:Nat):(A++X)[A.length+m]? = X[m]?:=by
 rw [Ds om];congr 1;omega
section
variable {b:Z6} {kk:Nat} {u:Value} {s:Z4}
def ME (hs:b.steps[kk]? = some s):Vk b kk u b.steps.length=Zc (Zv<|b.steps.take kk)++(Fv s u++Zc (Zv<|b.steps.drop (kk+1))):=by
 have hk:=(Xv.1 hs).1;rw [Vk,Z8 om,H7 hs,VP]
def MD (hs:b.steps[kk]? = some s):(Zc (Zv<|b.steps.take kk)).length=kk*5:=by
 have hk:=(Xv.1 hs).1;rw [Qb,WK,Vz om]
def Zg1 (hs:b.steps[kk]? = some s):(Vk b kk u b.steps.length)[kk*5+4]? = some (.val u):=by
 rw [ME hs,<-MD hs,Zdf];rfl
def Hw (hs:b.steps[kk]? = some s):((Vk b kk u b.steps.length).drop (kk*5+4)).take 1=[.val u]:=by
 rw [ME hs,<-MD hs,<-List.drop_drop,List.drop_left];rfl
def Zbe {xs:List Z4} {k:Nat} {t:Z4} (hk:k<xs.length):Zc (Zv<|xs.set k t)=Zc (Zv<|xs.take k)++(Xp t++Zc (Zv<|xs.drop (k+1))):=by
 rw [Du,Zg hk,V7,Uk,DW]
def Zg2 (hs:b.steps[kk]? = some s) (ks:List Z6):(Vk b kk u b.steps.length).set (kk*5+4) (.sl (YP ks) none)=Zc (Zv<|b.steps.set kk ⟨s.op,s.num,s.into,s.args,ks⟩):=by
 have hk:=(Xv.1 hs).1;rw [ME hs,<-MD hs,Z3n,Zbe hk];rfl
def MG (hs:b.steps[kk]? = some s):Q0 b kk b.steps.length=Zc (YP s.kids):=by
 have hk:=(Xv.1 hs).1;rw [Q0,Z8 om,H7 hs]
def Zg3 (hs:b.steps[kk]? = some s):b.steps.set kk ⟨s.op,s.num,s.into,s.args,s.kids⟩=b.steps:=by
 have e:Z4.mk s.op s.num s.into s.args s.kids=s:=by cases s;rfl
 rw [e];apply List.ext_getElem?
 intro i;rw [List.getElem?_set]
 split
 .rename_i q;subst q;rw [Zg (Xv.1 hs).1];exact hs.symm
 .rfl
end
def Vo.set:∀(ls:List AV) (p:Nat) {x y:AV},Zd x y->Vo (ls.set p x) (ls.set p y)
 | [],_,_,_,_=>.nil
 | a::r,0,_,_,h=>.cons h (Vo.refl r)
 | a::r,p+1,_,_,h=>.cons (Zd.refl a) (Vo.set r p h)
def Vo.len:∀{xs ys:List AV},Vo xs ys->ys.length=xs.length
 | _,_,.nil=>rfl
 | _,_,.cons _ t=>by rw [YR,YR,t.len]
def Zbi (v:Value) (k:Nat) (ls ks:List AV):Res.fp (.row v k ks)=Res.fp (.row v k ls):=by
 cases v with
 | slice a _ _=>cases a<;>rfl
 | _=>rfl
def Zjr {w:World} {G:Yl} {v:Value} {k:Nat} {ls ls':List AV} {h2:List Res} (hle:Vo ls ls') (hh:YA w G (.row v k ls::h2)):YA w G (.row v k ls'::h2)/\X4 w G (.row v k ls::h2) w G (.row v k ls'::h2):=by
 have hpw:=Vb.1 hh.apart;have hf:∀b o,Res.fp (.row v k ls') b o->Res.fp (.row v k ls) b o:=fun b o h=>by rw [Zbi v k ls ls'] at h;exact h
 refine ⟨⟨fun r hr=>?_,Vb.2 ⟨fun r hr b o f1 f2=>hpw.1 r hr b o (hf b o f1) f2,hpw.2⟩,fun r hr b o f1 hg=>?_,hh.lt⟩,⟨U,U,U,X8 _,fun _ _ h=>h,fun _ _=>.inl rfl,fun _ _ _ h=>.inl h,fun b o _ ⟨r,hr,f1⟩=>?_⟩⟩
 .rcases YM.1 hr with rfl|hr
  .rcases hh.ok _ (Xn ..) with ⟨h0,h1⟩|⟨g,len,cap,cur,e,h0,h1,h3,h4,h5,h6⟩
   .subst h1;cases hle;exact .inl ⟨h0,rfl⟩
   .exact .inr ⟨g,len,cap,cur,e,h0,h1,h3,h4,by rw [hle.len];exact h5,hle.cs h6⟩
  .exact hh.ok r<|XF _ hr
 .rcases YM.1 hr with rfl|hr
  .exact hh.prot _ (Xn ..) b o (hf b o f1) hg
  .exact hh.prot r (XF _ hr) b o f1 hg
 .rcases YM.1 hr with rfl|hr
  .exact ⟨_,Xn ..,hf b o f1⟩
  .exact ⟨r,XF _ hr,f1⟩
section
variable {h:List Res}
def Z55 (j i:Nat) (b:Z6) (kk:Nat) (s:Z4) (ks:List Z6) (u v:Value) (hs:b.steps[kk]? = some s) (hp:Wu [j,i] h=some [.row u 2 (Zc<|YP ks),.row v 5<|Vk b kk u b.steps.length]:=by kernel_rfl) :
  TN h (.row v 5 (Zc<|Zv<|b.steps.set kk ⟨s.op,s.num,s.into,s.args,ks⟩)::.tail u 2::XO [j,i] h):=by
 intro w G hh;obtain ⟨G',a1,a2⟩:=Z5b j i (kk*5+4) hp (Qy ks) om (Zg1 hs) w G hh;obtain ⟨b1,b2⟩:=Zjr (Vo.set _ (kk*5+4) (Zd.forget (YP ks) (some u))) a1;rw [Zg2 hs] at b1 b2;exact ⟨G',b1,a2.trans b2⟩
def O5 (j i:Nat) (b:Z6) (kk:Nat) (s:Z4) (u v:Value) (hs:b.steps[kk]? = some s) (hp:Wu [j,i] h=some [.row u 2 (Q0 b kk b.steps.length),.row v 5<|Vk b kk u b.steps.length]:=by kernel_rfl) :
  TN h (.row v 5 (Zc<|Zv b.steps)::.tail u 2::XO [j,i] h):=by
 have Yf:Wu [j,i] h=some [.row u 2 (Zc<|YP s.kids),.row v 5<|Vk b kk u b.steps.length]:=by rw [hp,MG hs]
 have:=Z55 j i b kk s s.kids u v hs Yf
 rwa [Zg3 hs] at this
end
def RE {xs:List Z4} {k:Nat} (hk:k<xs.length):(Zc (Zv xs)).take (k*5)++(Zc (Zv xs)).drop ((k+1)*5)=Zc (Zv (xs.take k++xs.drop (k+1))):=by
 have h1:(Zc (Zv<|xs.take k)).length=k*5:=by rw [Qb,WK,Vz om]
 have h2:(Zc (Zv<|xs.take (k+1))).length=(k+1)*5:=by rw [Qb,WK,Vz om]
 have e1:Zc (Zv xs)=Zc (Zv<|xs.take k)++Zc (Zv<|xs.drop k):=by rw [<-Uk,<-V7,Ty]
 have e2:Zc (Zv xs)=Zc (Zv<|xs.take (k+1))++Zc (Zv<|xs.drop (k+1)):=by rw [<-Uk,<-V7,Ty]
 rw [V7,Uk]
 congr 1
 .rw [e1,<-h1,B4]
 .conv=>lhs;rw [e2,<-h2,List.drop_left]
def Zb4 {xs:List Z6} {i:Nat} {s:Z6} (h:xs[i]? = some s):((Zc<|YP xs).drop (i*2)).take 2=Xb s:=by
 have hi:=(Xv.1 h).1;have h1:(Zc (YP<|xs.take i)).length=i*2:=by rw [Fi,WK,Vz om]
 have e1:Zc (YP xs)=Zc (YP<|xs.take i)++Zc (YP<|xs.drop i):=by rw [<-Uk,<-Bg,Ty]
 rw [e1,<-h1,List.drop_left,Yc h,TR,Uh];rfl
section
variable {rs:List Y9} {k:Nat} {r:Y9}
def LZ (hk:k<rs.length) (r:Y9):Zc (YS<|rs.set k r)=Zc (YS<|rs.take k)++((Kh r).leaves++Zc (YS<|rs.drop (k+1))):=by
 rw [Du,Zg hk,CX,Uk];rfl
def RD (hk:k<rs.length):(Zc (YS<|rs.take k)).length=k*5:=by rw [H2,WK,Vz om]
def Zbb (hk:k<rs.length) (r:Y9):((Zc<|YS<|rs.set k r).drop (k*5+1)).take 1=[Z5 r.2]:=by
 rw [LZ hk,<-RD hk,<-List.drop_drop,List.drop_left];rfl
def Zbd (hk:k<rs.length) (r:Y9) (l:LI):(Zc (YS<|rs.set k r)).take (k*5+1)++[Z5 l]++(Zc (YS<|rs.set k r)).drop (k*5+1+1)=Zc (YS<|rs.set k ⟨r.1,l,r.result,r.4⟩):=by
 have hl:=RD hk;rw [LZ hk,LZ hk];have e:(Kh r).leaves=[Z5 r.1]++([Z5 r.2]++[.i r.result,.sl (Zv r.4.steps) none,.i r.4.result]):=rfl;have e2:(Kh ⟨r.1,l,r.result,r.4⟩).leaves=[Z5 r.1]++([Z5 l]++[.i r.result,.sl (Zv r.4.steps) none,.i r.4.result]):=rfl;rw [e,e2];have q:=Cu (A:=Zc (YS<|rs.take k)++[Z5 r.1]) (xs:=[Z5 r.2]) (ys:=[Z5 l]) (B:=[.i r.result,.sl (Zv r.4.steps) none,.i r.4.result]++Zc (YS<|rs.drop (k+1))) (o:=k*5+1) (by rw [Yy,hl];rfl) rfl
 simpa [Uq] using q
end

def As (X:List LI) (i:Nat):LI:=X[i]?.getD []
def lvA (X:List LI) (op num:Int) (k:Nat):Bool:=decide (op=9/\(k:Int)∈As X num.toNat)
def PS (X:List LI) (op num v:Int):LI->Nat->Bool
 | [],_=>false
 | a::r,k=>(a==v&&(TB op&&!lvA X op num k))||PS X op num v r (k+1)
mutual
def cuS (X:List LI) (v:Int):Z4->Bool
 | .mk op num _ args kids=>PS X op num v args 0||PT X v kids
def PT (X:List LI) (v:Int):List Z6->Bool
 | []=>false
 | b::r=>Lj X v b||PT X v r
def PU (X:List LI) (v:Int):List Z4->Bool
 | []=>false
 | s::r=>cuS X v s||PU X v r
def Lj (X:List LI) (v:Int):Z6->Bool
 | .mk steps result=>result==v||PU X v steps
end
def EL (X Y:List LI):Prop:=∀(i:Nat) (v:Int),v∈As X i->v∈As Y i
section
variable {X Y:List LI} (hle:EL X Y)
include hle
end
mutual
def czS (t:Int):Z4->Bool
 | .mk op num _ _ kids=>(op==10&&num==t)||PW t kids
def PW (t:Int):List Z6->Bool
 | []=>false
 | b::r=>PV t b||PW t r
def PY (t:Int):List Z4->Bool
 | []=>false
 | s::r=>czS t s||PY t r
def PV (t:Int):Z6->Bool
 | .mk steps _=>PY t steps
end
abbrev PB:=List (LI × Z6)
def PX (t:Int):PB->Bool
 | []=>false
 | p::r=>PV t p.2||PX t r
def Z7z (ps:PB) (i:Nat):LI:=if PX i ps=true then [] else Ut ((ps[i]?.map (·.1)).getD []) 0
def Gx (ps:PB):List LI:=(List.range ps.length).map (Z7z ps)
def PF (ps:PB) (X:List LI):Prop:=∀(i:Nat) (p:LI × Z6),ps[i]? = some p->∀v∈As X i,Lj X v p.2=false
structure Zoi (ps:PB) (X:List LI):Prop where
 len:X.length=ps.length
 fil:∀i,∃p:Int->Bool,As X i=(As (Gx ps) i).filter p
 pf:PF ps X
 all:∀Z,PF ps Z->(∀i,¬i<ps.length->As Z i=[])->EL Z (Gx ps)->EL Z X
def G8:List LI->Nat
 | []=>0
 | l::r=>l.length+G8 r
structure Z62 (ps:PB) (X:List LI):Prop where
 len:X.length=ps.length
 fil:∀i,∃p:Int->Bool,As X i=(As (Gx ps) i).filter p
 all:∀Z,PF ps Z->(∀i,¬i<ps.length->As Z i=[])->EL Z (Gx ps)->EL Z X
structure Zoh (ps:PB) (X0 X:List LI) (k:Nat) (more:Bool):Prop where
 inv:Z62 ps X
 no:more=false->X=X0/\∀(i:Nat) (p:LI × Z6),i<k->ps[i]? = some p->∀v∈As X i,Lj X v p.2=false
 yes:more=true->G8 X<G8 X0
 le:G8 X<=G8 X0
section
variable {n:Zm} {X:List LI} (hl:X.length=n.2.length)
include hl
variable (hun:∀r∈n.2,r.2=[])
include hun
end
def GB (B:List Nat):Yl:=fun b _=>b∈B
section
variable {w:World} {G:Yl} {B:List Nat}
end
section
variable {w:World} {G:Yl} {B:List Nat}
def Sb:Value->Hd
 | .slice a l c=>⟨a,l,c⟩
 | _=>⟨none,0,0⟩
abbrev av (y:QR):AV:=.agg [.h (Sb y.dv),.h<|Sb y.rv]
end
def Z63 (B:List Nat) (m:Mem) (x:AV) (u:Value):Prop:=
 ∀w:World,(∀b∈B,∃cs e,w.heap[b]? = some (.cells cs e (0,0))/\∀o,cs[o]? = m b o)->RV w (GB B) x u
inductive EK (bs:List Res):List AV->List AV->Prop
 | nil:EK bs [] []
 | same {x as1 xs} (t:EK bs as1 xs):EK bs (x::as1) (x::xs)
 | gen {B m x a u as1 xs} (h:Res.own B m∈bs) (hr:Z63 B m x u) (ha:∀w G v,RV w G a v->v=u) (t:EK bs as1 xs):EK bs (a::as1) (x::xs)
section
variable {P:Program} {n:Nat} {ops:Array Oper} {B:Fr->List Res->Prop} {k:Nat} {F:Fr} {h:List Res}
def P8 (P:Program) (ops:Array Oper) (F:Fr) (k:Nat):Option (Bool × Bool):=
 match (ZG ops k).op with
 | .binOp .neq t x y _=>match P.underlying t with
  | some .bool=>match F.ev x,F.ev y with
   | .val (.bool a),.val (.bool b)=>some (a,b)
   | _,_=>none
  | _=>none
 | _=>none
def SJ (a b:Bool) (hb:P8 P ops F k=some (a,b):=by kernel_rfl):XH P (ZG ops k) F h [] (.b (a != b)):=by
 unfold P8 at hb;generalize hoo:ZG ops k=o at hb;obtain ⟨dst,op,type,pos,after,guard⟩:=o;cases op<;>simp only at hb<;>try (cases hb)
 rename_i bop t x y yt;cases bop<;>simp only at hb<;>try (cases hb)
 split at hb
 .rename_i ht
  split at hb
  .rename_i a' b' h1 h2;cases hb;intro n w G ac hF hh;have v1:=hF.ev x;have v2:=hF.ev y;rw [h1] at v1;rw [h2] at v2;have v1:=v1.val_inv;have v2:=v2.val_inv;refine ⟨_,.val,fun w' _ _=>?_⟩;simp only [execOp,v1,v2];have he:(Op.equalIn (9999+1) t (.bool a) (.bool b)).run P w'=.ok (a==b) w':=by
    rw [Op.equalIn];simp [Sem.run_bind,VX ht]
   refine Vv ?_;simp only [eqGuard,binOp,Op.equal,Op.maxDepth];have he2:(Op.equalIn 10000 t (.bool a) (.bool b)).run P w'=.ok (a==b) w':=he;simp [Sem.run_bind,he2,bne]
  .cases hb
 .cases hb
end
end Go.Abs
section
namespace Go.Abs
section
variable {P:Program} {n:Nat} {ops:Array Oper} {B:Fr->List Res->Prop} {k:Nat} {F:Fr} {h:List Res}
def P9 (P:Program) (ops:Array Oper) (F:Fr) (k:Nat):Option (Bool × Bool):=
 match (ZG ops k).op with
 | .binOp .eql t x y _=>match P.underlying t with
  | some .bool=>match F.ev x,F.ev y with
   | .val (.bool a),.val (.bool b)=>some (a,b)
   | _,_=>none
  | _=>none
 | _=>none
def SH (a b:Bool) (hb:P9 P ops F k=some (a,b):=by kernel_rfl):XH P (ZG ops k) F h [] (.b (a==b)):=by
 unfold P9 at hb;generalize hoo:ZG ops k=o at hb;obtain ⟨dst,op,type,pos,after,guard⟩:=o;cases op<;>simp only at hb<;>try (cases hb)
 rename_i bop t x y yt;cases bop<;>simp only at hb<;>try (cases hb)
 split at hb
 .rename_i ht
  split at hb
  .rename_i a' b' h1 h2;cases hb;intro n w G ac hF hh;have v1:=hF.ev x;have v2:=hF.ev y;rw [h1] at v1;rw [h2] at v2;have v1:=v1.val_inv;have v2:=v2.val_inv;refine ⟨_,.val,fun w' _ _=>?_⟩;simp only [execOp,v1,v2];have he:(Op.equalIn (9999+1) t (.bool a) (.bool b)).run P w'=.ok (a==b) w':=by
    rw [Op.equalIn];simp [Sem.run_bind,VX ht]
   refine Vv ?_;simp only [eqGuard,binOp,Op.equal,Op.maxDepth];have he2:(Op.equalIn 10000 t (.bool a) (.bool b)).run P w'=.ok (a==b) w':=he;simp [Sem.run_bind,he2]
  .cases hb
 .cases hb
end
end Go.Abs
namespace Go.Abs
def Wf.frzI {P:Program} {f:FuncId} {as1:List AV} {h0:List Res} {xs:LI} (H:Wf P f as1 h0 fun r h=>∃v:Hd,r=.h v/\h=[rV v xs]) :
  Wf P f as1 h0 (fun r h=>r=Z5 xs/\h=[]):=by
 intro w G vs hv hh;refine (H w G vs hv hh).mono ?_;rintro e w' ⟨u,r,h',G',he,⟨v,rfl,rfl⟩,hr,hh',hx⟩;obtain ⟨G2,h1,h2,h3⟩:=Z5j hh' fun y hy=>by simp only [Z7,XG] at hy;obtain ⟨x,_,rfl⟩:=hy;rfl
 have hrv:=hr.val_inv;subst hrv;have hw:Zd (.sl (Z7 xs)<|some v.v) (Z5 xs):=Zd.forget _ _;exact ⟨_,_,[],G2,he,⟨U,U⟩,hw _ _ _ h3,h1.sub<|B3 _ _,(hx.trans h2).sub'<|B3 _ _⟩
end Go.Abs
namespace Go.Abs
def Wf.alone {P:Program} {f:FuncId} {as1:List AV} {h0:List Res} {R:AV->List Res->Prop} {r0:AV} (H:Wf P f as1 h0 R) (hR:∀r h,R r h->Zd r r0):Wf P f as1 h0 (fun r h=>r=r0/\h=[]):=by
 intro w G vs hv hh;refine (H w G vs hv hh).mono ?_;rintro e w' ⟨u,r,h',G',he,hq,hr,hh',hx⟩;exact ⟨_,_,[],G',he,⟨U,U⟩,hR _ _ hq _ _ _ hr,hh'.sub (List.nil_sublist _),hx.sub' (List.nil_sublist _)⟩
end Go.Abs
end
section
namespace Go.Abs
def Tl {rs fs:List Func} (hp:fs <+: rs) {i:Nat} {f:Func} (hx:fs[i]? = some f) (c:Nat) {zs:List AV} (hz:((Hx f).drop c).take zs.length=zs) (hl:c+zs.length<=5):((Zc<|XC rs).drop (i*5+c)).take zs.length=zs:=by
 obtain ⟨ys,rfl⟩:=hp;have h1:(fs++ys)[i]? = some f:=by rw [Dr (Xv.1 hx).1];exact hx
 have e1:=(Ty i (fs++ys)).symm;rw [Yc h1] at e1;have hl2:(Zc (XC<|(fs++ys).take i)).length=i*5:=by
  rw [T3 (k:=5) _ (GQ _),DR,WK,Vz (by have:=(Xv.1 h1).1;omega)]
 have e2:Zc (XC (fs++ys))=Zc (XC<|(fs++ys).take i)++(Hx f++Zc (XC<|(fs++ys).drop (i+1))):=by
  conv=>lhs;rw [e1]
  simp only [XC,Zc,List.map_append,Uh,List.flatMap_append,BV];rfl
 rw [e2,List.drop_append,List.drop_of_length_le om,BW,hl2,Nat.add_sub_cancel_left,List.drop_append_of_le_length (by show c<=5;omega),List.take_append_of_le_length (by rw [B1];show zs.length<=5-c;omega)];exact hz
def LX (rs:List Func):(Zc (XC rs)).length=rs.length*5:=by rw [T3 (k:=5) _ (GQ _),DR]
end Go.Abs
namespace Go.Abs
abbrev WR (g:Wr) (gb:Nat):List AV:=[ZQ g.decls,.ms gb 0 g.funcs.length 4]
abbrev W2 (gb:Nat) (rs:List Func):Res:=.row (.slice (some ⟨gb,0,none⟩) 4 4) 5 (Zc<|XC rs)
abbrev YD (rd:Nat) (bs:LI) (p:Nat):Res:=.obj rd [UD bs,.i p]

end Go.Abs
end
namespace Go.Abs
def Zjt {w:World} {G:Yl} {g len cap k m:Nat} {ls:List AV} {h2:List Res} (hh:YA w G (.row (.slice (some ⟨g,0,none⟩) len cap) k ls::h2)) (hle:m<=len) :
  YA w G (.row (.slice (some ⟨g,0,none⟩) m cap) k (ls.take (m*k))::h2)/\X4 w G (.row (.slice (some ⟨g,0,none⟩) len cap) k ls::h2) w G (.row (.slice (some ⟨g,0,none⟩) m cap) k (ls.take (m*k))::h2):=by
 have hpw:=Vb.1 hh.apart;have hfp:∀b o,Res.fp (.row (.slice (some ⟨g,0,none⟩) m cap) k<|ls.take (m*k)) b o->Res.fp (.row (.slice (some ⟨g,0,none⟩) len cap) k ls) b o:=fun b o hf=>hf
 refine ⟨⟨fun r hr=>?_,Vb.2 ⟨fun r hr b o h1 h2=>hpw.1 r hr b o (hfp b o h1) h2,hpw.2⟩,fun r hr b o hf hg=>?_,hh.lt⟩,⟨U,U,U,X8 _,fun _ _ h=>h,fun _ _=>.inl rfl,fun _ _ _ h=>.inl h,fun b o _ hf=>?_⟩⟩
 .rcases YM.1 hr with rfl|hr
  .rcases hh.ok _ (Xn ..) with ⟨h0,_⟩|⟨g',len',cap',cur,e,hv,h1,h3,h4,h5,h6⟩
   .cases h0
   .cases hv;have hmk:m*k<=len*k:=Ky k hle;refine .inr ⟨g,m,cap,cur,e,rfl,h1,by omega,h4,by rw [WK,h5];omega,?_⟩;have:=h6.take (m*k);rw [List.take_take,Vz hmk] at this;exact this
  .exact hh.ok r<|XF _ hr
 .rcases YM.1 hr with rfl|hr
  .exact hh.prot _ (Xn ..) b o (hfp b o hf) hg
  .exact hh.prot r (XF _ hr) b o hf hg
 .obtain ⟨r,hr,hf⟩:=hf;rcases YM.1 hr with rfl|hr
  .exact ⟨_,Xn ..,hfp b o hf⟩
  .exact ⟨r,XF _ hr,hf⟩
def Zba {rs:List Func} {k:Nat} (f:Func) (hk:k<rs.length):(Zc (XC rs)).take (k*5)++Hx f++(Zc (XC rs)).drop (k*5+5)=Zc (XC<|rs.set k f):=by
 rw [show XC (rs.set k f)=(XC rs).set k (EN f) by simp [XC,List.map_set]];exact H5 (y:=EN f) (GQ rs) rfl (by simpa using hk)
def Wf.frzP {P:Program} {f:FuncId} {as1:List AV} {h0:List Res} {E:Type} {ds:E->List Zh} {rs:E->List Func} {m:E->Nat} {hs:E->List Res} {Q:E->Prop}
  (H:Wf P f as1 h0 fun r h=>∃(e:E) (gb:Nat),r=.agg [ZQ (ds e),.ms gb 0 (m e) 4]/\h=.row (.slice (some ⟨gb,0,none⟩) 4 4) 5 (Zc<|XC<|rs e)::hs e/\Q e) (hm:∀e,Q e->m e<=4/\(rs e).length=4) :
  Wf P f as1 h0 (fun r h=>∃e:E,r=.agg [ZQ (ds e),HG<|(rs e).take<|m e]/\h=hs e/\Q e):=by
 intro w G vs hv hh;refine (H w G vs hv hh).mono ?_;rintro e w' ⟨u,r,h',G',he,⟨x,gb,rfl,rfl,hq⟩,hr,hh',hx⟩;obtain ⟨hm4,hr4⟩:=hm x hq;obtain ⟨j1,j2⟩:=Zjt hh' hm4;have hft:(Zc (XC (rs x))).take (m x*5)=Zc (XC ((rs x).take (m x))):=by
  have e1:rs x=(rs x).take (m x)++(rs x).drop (m x):=(Ty _ _).symm;have e2:Zc (XC<|rs x)=Zc (XC<|(rs x).take<|m x)++Zc (XC<|(rs x).drop<|m x):=by
   conv=>lhs;rw [e1]
   rw [Za6,Uk]
  rw [e2,List.take_append_of_le_length (by rw [LX,WK,show min (m x) (rs x).length=m x by omega];exact X8 _),Vc (by rw [LX,WK];exact Ky 5<|Nat.min_le_left _ _)]
 rw [hft] at j1 j2;obtain ⟨G2,h1,h2,h3⟩:=Ct j1 (GQ _) om;have hA:Ur G' w' w' G2:=h2.agree j1;refine ⟨u,_,hs x,G2,he,⟨x,U,U,hq⟩,?_,(h1.perm<|List.perm_append_comm (l₁:=[_])).left,((hx.trans j2).trans h2).sub'<|B3 _ _⟩
 cases hr with
 | agg hc=>
  cases hc with
  | cons k1 t1=>
   cases t1 with
   | cons k2 t2=>
    cases t2;have hv2:=k2.val_inv;subst hv2;refine .agg (.cons (k1.mono hA) (.cons ?_ .nil));have hw:Zd (.sl (XC ((rs x).take (m x))) (some (.slice (some ⟨gb,0,none⟩) (m x) 4))) (HG ((rs x).take (m x))):=Zd.forget _ _;exact hw _ _ _ h3
open Go.Proofs
abbrev Zj:=@Wf Tryz.prog
def Zhh {xs:LI} {k:Nat} {n x:Int} (h:n∉xs.take k) (hx:xs[k]? = some x) (hn:¬x=n):n∉xs.take (k+1):=by
 rw [List.take_add_one,hx];simp only [Option.toList_some,Xh,XI];exact fun q=>q.elim h fun q=>hn q.symm
def Zhb {xs:LI} {k:Nat} {n x:Int} (hx:xs[k]? = some x) (hn:x=n):n∈xs:=hn▸Y0 hx
def Q5 (n low high:Int) :Zj 84 [.i n,.i low,.i high] [] (fun r h=>r=.b (decide (low<=n/\n<=high))/\h=[]):=by
 refine ZF 15 Tryz.func84<|ZB<|ar (XD 8 [] [(14,.b ((decide (low<=n))&&(decide (n<=high))))] (fun gz=>gz) ?_ fun hj1=>?_)
 .exact Zp<|ZW (.b ((decide (low<=n))&&(decide (n<=high))))<|lb (by rw [XE];simp)
 refine Z1 4 (ib (b:=(decide (low<=n))) 10 (fun Zb=>?_) fun Zb=>?_)
 .have ZX:low<=n:=(dq).1 Zb;exact Z1 4<|Yt (wk []<|Zu (decide (n<=high)) Zb fl) hj1
 have Yf:¬(low<=n):=Y8 dq Zb;exact Z1 4<|Yt (wk []<|Zu false Zb fl) hj1
def Tt (xs:LI) (n:Int) (hlen:xs.length<=4294967296:=by exact ob):Zj 87 [Z5 xs,.i n] [] (Yr<|.b<|decide (n∈xs)):=by
 refine ZF 18 Tryz.func87<|ZB<|Yj<|ab 0<|Y2 (fun fz gz m F h=>∃(k:Nat),(k<=xs.length)/\(n∉xs.take k)/\F=sF [0,1] fz [(5,.i k)]/\h=gz/\m=xs.length-k) _ _ _ ⟨0,ob,ob,U,U,U⟩ (wk []<|Y7 fl) ?_;rintro m F h ⟨k,Ye,Zk,rfl,rfl,rfl⟩;refine YE 2<|iw (Yg xs) (Y4 ((k:Int)<(xs.length:Int)) (fun Za=>?_) fun Za=>?_)
 .refine ak<|aq<|ab 1<|Y5 2 ?_;obtain ⟨x1,Z3⟩:=Zs xs k om;refine Zo (Zl none (k:Int) 1<|Y3 Z3) (YH (x1==n) Zq (fun Zf=>?_) fun Zf=>?_)
  .exact ar<|Zp<|ZW (.b true)<|lb (by rw [eq_comm,dq];exact Zhb Z3 Zf)
  exact ak<|az<|Z1 1<|ZI k<|Z0<|ZK ⟨k+1,ob,(Zhh Zk Z3 Zf),U,U,U⟩<|wk []<|ZM k fl
 refine ax 0<|ZB ?_;have hke:k=xs.length:=by omega
 exact ZC<|ZW (.b false)<|lb (by rw [eq_comm,decide_eq_false_iff_not];rw [hke,VP] at Zk;exact Zk)
def UX (xs:LI) (hlen:xs.length<=4294967296:=by exact ob):Zj 73 [Z5 xs] [] (fun r h=>∃(v:Value),r=ZT xs v/\h=[.tail v 1]):=by
 exact ZF 6 Tryz.func73<|ZB<|ar (iL (Z7 []) 0 1 fun v1=>Z1 1 (ip 0 (Z7 xs) (Z7 []) (Z7 xs) v1 none 1 (YJ _) (YJ _) (Wk _) (by simp<;>omega) (by simp [Z7]) fun v2=>Zp<|r1 [0] ⟨v2,rfl,rfl⟩))
def NU (ds:List Zh) (n:Nat) (hd:Wq ds:=by exact ob) (hn:n<=ds.length:=by exact ob):Zj 115 [ZQ ds,.i n] [] (Yr<|.i ((YX (ds.take n):Nat):Int)):=by
 refine ZF 21 Tryz.func115<|ZB<|ZB<|Yj<|ab 0<|Y2 (fun fz gz m F h=>∃(k:Nat),(k<=n)/\F=sF [0,1] fz [(5,.i ((YX (ds.take k):Nat):Int)),(6,.i k)]/\h=gz/\m=n-k) _ _ _ ⟨0,ob,U,U,U⟩ (wk []<|Y7<|Y7 fl) ?_;rintro m F h ⟨k,Ye,rfl,rfl,rfl⟩;refine X6 (Y4 ((k:Int)<(n:Int)) (fun Za=>?_) fun Za=>?_)
 .refine ak<|aq<|ab 1<|az<|Z1 3 ?_;obtain ⟨x1,Z3⟩:=Zs ds k om;refine Zo (Zl none (k:Int) 3<|V6 Z3)<|Z1 2<|iw (UJ x1.cons)<|ia ((((YX<|ds.take k)+x1.cons.length:Nat):Int)) ((((YX (ds.take k):Nat):Int))+((x1.cons.length:Int))) (hb:=(by have h1:=hd.cons_at Z3;have h2:=(hd.take k).sum;omega))<|Z0<|az<|Z1 1<|ZI k (hb:=(by have:=hd.len;omega))<|Z0 ?_;have hsn:YX (ds.take (k+1))=YX (ds.take k)+x1.cons.length:=by rw [WO Z3,EX];simp [YX]
  exact ZK ⟨k+1,ob,U,U,U⟩<|wk []<|fc (x:=.i (((YX<|ds.take k)+x1.cons.length:Nat):Int)) li<|ZM k fl
 refine ax 0<|ZB ?_;have hke:k=n:=by omega
 subst hke;exact ZC<|ZW (.i ((YX (ds.take k):Nat):Int)) li
def NT (ds:List Zh) (c:Int) (hd:Wq ds:=by exact ob):Zj 116 [ZQ ds,.i c] [] (Yr<|.i<|Wx ds c):=by
 refine ZF 30 Tryz.func116<|ZB<|Yj<|ab 0<|Y2 (fun fz gz m F h=>∃(k:Nat),(k<=ds.length)/\((TP c (ds.drop k) k<|YX<|ds.take k).1=Wx ds c)/\F=sF [0,1] fz [(5,.i k)]/\h=gz/\m=ds.length-k) _ _ _ ⟨0,ob,(by rfl),rfl,rfl,rfl⟩ (wk []<|Y7 fl) ?_;rintro m F h ⟨k,Ye,Zk,rfl,rfl,rfl⟩;refine YE 2<|iw (Uy ds) (Y4 ((k:Int)<(ds.length:Int)) (fun Za=>?_) fun Za=>?_)
 .refine ak<|aq<|ab 1<|Y5 2<|Zx [] (NU ds k)<|Z0<|Y5 5 ?_;obtain ⟨x1,Z3⟩:=Zs ds k om;refine Zo (Zl none (k:Int) 3<|V6 Z3)<|Z1 2<|iw (UJ x1.cons)<|ia ((((YX<|ds.take k)+x1.cons.length:Nat):Int)) ((((YX (ds.take k):Nat):Int))+((x1.cons.length:Int))) (hb:=(by have h1:=hd.cons_at Z3;have h2:=(hd.take k).sum;omega))<|ia (((((YX<|ds.take k)+x1.cons.length:Nat):Int)-1)) (((((YX<|ds.take k)+x1.cons.length:Nat):Int))-(1)) (hb:=(by have h1:=hd.cons_at Z3;have h2:=(hd.take k).sum;omega))<|Zx [] (Q5 c ((YX (ds.take k):Nat):Int) ((((YX<|ds.take k)+x1.cons.length:Nat):Int)-1))<|ie (XK (((YX (ds.take k):Nat):Int)<=c/\c<=((((YX<|ds.take k)+x1.cons.length:Nat):Int)-1)) (fun Zf=>?_) fun Zf=>?_)
  .exact Y5 1<|ZI k (hb:=(by have h2:=hd.len;omega))<|Zp<|ZW (.i (k+1:Nat))<|li (by rw [<-Zk,Yc Z3,TP,Zg Zf];rfl)
  refine ak<|az<|Z1 1<|ZI k (hb:=(by have h2:=hd.len;omega))<|Z0 ?_;have hdr:=Yc Z3;exact ZK ⟨k+1,ob,(by rw [hdr] at Zk;rw [<-Zk,TP,Z8 Zf,WO Z3,EX];rfl),rfl,rfl,rfl⟩<|wk []<|ZM k fl
 exact ax 0<|ar<|Zp<|ZW (.i (-1))<|li (by rw [<-Zk,Xk om];rfl)
def Jz (ds:List Zh) (c:Int) (hd:Wq ds:=by exact ob):Zj 75 [ZQ ds,.i c] [] (Yr<|Z5<|ZZ ds c):=by
 refine ZF 27 Tryz.func75<|ZB<|Y5 2<|Zx [] (NT ds c)<|Z0<|X6 (Y4 ((Wx ds c)<1) (fun Za=>?_) fun Za=>?_)
 .exact ar (iL (Z7 []) 0 1 fun v1=>Zp<|ZW (ZT [] v1)<|Zd.sl _<|Ys Z7<|by rw [(GF Za).1])
 obtain ⟨k,d,x,hk1,hk2,hk3,hk4,hk5⟩:=Lg Za;have hkl:=(Xv.1 hk1).1;have hxl:=(Xv.1 hk3).1;have hsm:=(hd.take k).sum;have hdl:=hd.cons_at hk1;have hdn:=hd.len;refine ak (aD 16 (Zi 14 16 [0,1] (da 2 ((k:Int)) ((Wx ds c)-(1)) (hb:=(by have:=hd.len;omega)) ?_)));obtain ⟨x1,Z3⟩:=Zs ds k om;have hxe:x1=d:=by rw [hk1] at Z3;exact (Qs Z3).symm
 subst hxe;refine dx 3 (Zl none (k:Int) 3<|V6 Z3)<|Zi 7 12 [4,5,6,7,8]<|da 9 ((k:Int)) ((Wx ds c)-(1)) (hb:=(by have:=hd.len;omega))<|Z9 10<|Yu 10 [] [] [] (NU ds k)<|da 11 ((c-((YX (ds.take k):Nat):Int))) ((c)-(((YX (ds.take k):Nat):Int))) ?_;obtain ⟨x2,Zr⟩:=Zs x1.cons ((c-((YX (ds.take k):Nat):Int)).toNat) om;have hxe:x2=x:=by rw [show (c - ↑(YX (ds.take k))).toNat=(c-YX (ds.take k)).toNat from rfl,hk3] at Zr;exact (Qs Zr).symm
 subst hxe;exact dx 12 (Zl none (c-((YX (ds.take k):Nat):Int)) 1<|Bh Zr)<|Zi 0 3 [13,14,15]<|de<|ZC<|ZW (Z5 x2.fields)<|Zd.sl _<|Ys Z7 hk5.symm
def AW (ds:List Zh) (t:Int) (hd:Wq ds:=by exact ob):Zj 74 [ZQ ds,.i t] [] (fun r h=>∃(v:Value),r=ZT (Y1 ds t) v/\h=[.tail v 1]):=by
 have hdn:=hd.len;refine ZF 35 Tryz.func74<|ZB<|ar (iL (Z7 []) 0 1 fun v1=>Z0<|YE 2<|iw (Uy ds)<|Zx [] (Q5 t 1 (ds.length:Int)) (YH (!(decide (1<=t/\t<=(ds.length:Int)))) (p:=¬(1<=t/\t<=(ds.length:Int))) (Yp dq) (fun Za=>?_) fun Za=>?_))
 .exact ar<|Zp<|r2 [0] [ZT [] v1] ⟨v1,rfl,rfl⟩<|Zd.slh _<|Ys Z7 (by simp [Y1];omega)
 have Za:1<=t/\t<=ds.length:=by simpa using Za
 obtain ⟨d,hd1⟩:=Zs ds ((t-1).toNat) om;have hdc:=hd.cons_at hd1;have hsm:=(hd.take (t-1).toNat).sum;refine ak (Yj (ab 0 (Y2 (fun fz gz m F h=>∃(k:Nat) (v:Value),(k<=d.cons.length)/\F=sF [0,1] fz [(5,ZT (U4 (YX (ds.take (t-1).toNat)) k) v),(6,.i k)]/\h=[.tail v 1]/\m=d.cons.length-k) _ _ _ ⟨0,v1,(by first|omega|rfl|(simp<;>omega)|grind [Y1,U4]),rfl,rfl,rfl⟩ (wk [0] (fc (x:=ZT [] v1) (Zd.slh _ (Ys Z7 (by first|omega|rfl|(simp<;>omega)|grind [Y1,U4]))) (fc (x:=.i 0) (li (by first|omega|rfl|(simp<;>omega)|grind [Y1,U4])) fl))) ?_)));rintro m F h ⟨k,v,Ye,rfl,rfl,rfl⟩;refine YE 3 (ia ((((t-1).toNat:Nat):Int)) ((t)-(1)) (Zo (Zl none (((t-1).toNat:Nat):Int) 3 (V6 hd1)) (Z1 2 (iw (UJ d.cons) (Y4 ((k:Int)<(d.cons.length:Int)) (fun Zf=>?_) fun Zf=>?_)))))
 .exact ak<|aq<|ab 1<|az<|Z1 3<|ia ((((t-1).toNat:Nat):Int)) ((t)-(1))<|Zx [] (NU ds ((t-1).toNat) (hd:=(by first|omega|rfl|(simp<;>omega)|grind [Y1,U4])) (hn:=(by first|omega|rfl|(simp<;>omega)|grind [Y1,U4])))<|Z1 1<|ia ((((YX<|ds.take<|(t-1).toNat)+k:Nat):Int)) ((((YX (ds.take<|(t-1).toNat):Nat):Int))+((k:Int))) (iL (Z7 [(((YX<|ds.take<|(t-1).toNat)+k:Nat):Int)]) 1 1 fun v2=>ZY 0 [(32,Z5 [(((YX<|ds.take<|(t-1).toNat)+k:Nat):Int)])] (ip 1 (Z7 (U4 (YX<|ds.take (t-1).toNat) k++[(((YX<|ds.take<|(t-1).toNat)+k:Nat):Int)])) (Z7<|U4 (YX<|ds.take (t-1).toNat) k) (Z7 [(((YX<|ds.take<|(t-1).toNat)+k:Nat):Int)]) v none 1 (YJ _) (YJ _) (Wk _) (by simp<;>omega) (by simp [Wj,Z7]) fun v3=>Z0<|az<|Z1 1<|ZI k<|Z0<|⟨_,_,_,(by first|omega|rfl|(simp<;>omega)|grind [Y1,U4]),⟨k+1,v3,(by first|omega|rfl|(simp<;>omega)|grind [Y1,U4]),rfl,rfl,rfl⟩,(wk [0]<|fc (x:=ZT (U4 (YX<|ds.take (t-1).toNat) k++[(((YX<|ds.take<|(t-1).toNat)+k:Nat):Int)]) v3) (Zd.slh _<|Ys Z7 (Z19 _ _).symm)<|fc (x:=.i (k+1:Nat)) (li<|by first|omega|rfl|(simp<;>omega)|grind [Y1,U4]) fl)⟩))
 exact ax 0<|ar<|Zp<|r2 [0] [ZT (U4 (YX<|ds.take (t-1).toNat) k) v] ⟨v,rfl,rfl⟩<|Zd.slh _<|Ys Z7 (by rw [Y1,Zg Za,hd1,show k=d.cons.length by omega];rfl)
def Z46 (ds:List Zh) (frm to_:Int) (hl_ds:ds.length<=4294967296:=by exact ob):Zj 215 [ZQ ds,.i frm,.i to_] [] (Yr<|.i<|UP ds frm to_):=by
 refine ZF 41 Tryz.func215<|ZB<|Yj<|ab 0<|Y2 (fun fz gz m F h=>∃(k:Nat),(k<=ds.length)/\(Jd frm to_ (ds.drop k) k=UP ds frm to_)/\F=sF [0,1,2] fz [(7,.i k)]/\h=gz/\m=ds.length-k) _ _ _ ⟨0,ob,ob,U,U,U⟩ (wk []<|Y7 fl) ?_;rintro m F h ⟨k,Ye,Zk,rfl,rfl,rfl⟩;refine YE 2<|iw (Uy ds) (Y4 ((k:Int)<(ds.length:Int)) (fun Za=>?_) fun Za=>?_)
 .refine ak<|aq<|ab 1<|Y5 2 ?_;obtain ⟨x1,Z3⟩:=Zs ds k om;refine Zo (Zl none (k:Int) 3<|V6 Z3)<|Z1 2<|iw (UJ x1.cons) (XD 16 [0,1,2,7] [(29,.b (((x1.cons.length:Int)==0)&&(x1.frm==frm)))] (fun gz=>gz) ?_ fun hj1=>?_)
  .refine Xu [0,1,2,7] [(38,.b ((((x1.cons.length:Int)==0)&&(x1.frm==frm))&&(x1.to_==to_)))] (fun gz=>gz) ?_ ?_
   .refine Z1 1 (ib (b:=(((x1.cons.length:Int)==0)&&(x1.frm==frm))) 30 (fun Zb=>?_) fun Zb=>?_)
    .have ZX:((x1.cons.length:Int)=0)/\(x1.frm=frm):=((YN Zq Zq)).1 Zb;exact Z1 2<|Zo (Zl none (k:Int) 3<|V6 Z3)<|Z0<|wk []<|Zu (x1.to_==to_) Zb fl
    have Yf:¬(((x1.cons.length:Int)=0)/\(x1.frm=frm)):=Y8 (YN Zq Zq) Zb;exact Z0<|wk []<|Zu false Zb fl
   refine ac ((((x1.cons.length:Int)==0)&&(x1.frm==frm))&&(x1.to_==to_)) (p:=(((x1.cons.length:Int)=0)/\(x1.frm=frm))/\(x1.to_=to_)) (YN (YN Zq Zq) Zq) (fun Zf=>?_) fun Zf=>?_
   .refine Y5 1<|ZI k<|Z0 ?_;rw [Yc Z3] at Zk;exact ZC<|ZW (.i (k+1:Nat))<|li (by clear Z3;first|rfl|omega|grind [Jd])
   refine ak<|az<|Z1 1<|ZI k<|Z0 ?_;have hdr:=Yc Z3;exact ZK ⟨k+1,ob,(by rw [hdr] at Zk;clear hdr Z3;grind [Jd]),rfl,rfl,rfl⟩<|wk []<|ZM k fl
  refine Z1 2 (ib (b:=((x1.cons.length:Int)==0)) 21 (fun ZE=>?_) fun ZE=>?_)
  .have YK:(x1.cons.length:Int)=0:=(Zq).1 ZE;exact Z1 2<|Zo (Zl none (k:Int) 3<|V6 Z3)<|Z1 5<|Yt (wk []<|Zu (x1.frm==frm) ZE fl) hj1
  have YW:¬((x1.cons.length:Int)=0):=Y8 Zq ZE;exact Z1 8<|Yt (wk []<|Zu false ZE fl) hj1
 refine ax 0 (ZB ?_)
 try rw [Xk (xs:=ds) (k:=k) om] at Zk
 exact ZC<|ZW (.i (-1))<|li<|by first|rfl|omega|grind [Jd]
def G3 (ds:List Zh) (t:Int) (hd:Wq ds:=by exact ob):Zj 182 [ZQ ds,.i t] [] (Yr<|.b<|Wd ds t):=by
 have hdn:=hd.len;refine ZF 19 Tryz.func182<|ZB<|Y5 2<|iw (Uy ds)<|Zx [] (Q5 t 1 (ds.length:Int))<|Z1 1 (ib (b:=(decide (1<=t/\t<=(ds.length:Int)))) 9 (fun Zb=>?_) fun Zb=>?_)
 .have ZX:1<=t/\t<=(ds.length:Int):=(dq).1 Zb;refine Z1 2<|ia ((t-1)) ((t)-(1)) ?_;obtain ⟨x1,Z3⟩:=Zs ds ((t-1).toNat) om;exact Zo (Zl none (t-1) 3<|V6 Z3)<|Z1 2<|iw (UJ x1.cons)<|Zp<|ZW (.b ((x1.cons.length:Int)==0))<|lb (by first|omega|rfl|(rw [Hr ZX Z3])|exact Mw Yf)
 have Yf:¬(1<=t/\t<=(ds.length:Int)):=Y8 dq Zb;exact Zp<|ZW (.b false)<|lb (by first|omega|rfl|(rw [Hr ZX Z3])|exact Mw Yf)
def J2 (xs ys:LI) (hl:xs.length+ys.length<=4294967296:=by exact ob):Zj 185 [Z5 xs,Z5 ys] [] (fun r h=>∃(v:Value),r=ZT (xs++ys) v/\h=[.tail v 1]):=by
 refine ZF 9 Tryz.func185<|ZB<|Y5 1<|ic [] (UX xs) ?_;rintro _ _ ⟨v1,rfl,rfl⟩;exact Z1 1 (ip 0 (Z7 (xs++ys)) (Z7 xs) (Z7 ys) v1 none 1 (YJ _) (YJ _) (Wk _) (by simp<;>omega) (by simp [Wj,Z7]) fun v2=>Zp<|r1 [0] ⟨v2,rfl,rfl⟩)
def Z44 (ds:List Zh) (xs:LI) (hl_ds:ds.length<=4294967296:=by exact ob) (hl_xs:xs.length<=4294967296:=by exact ob):Zj 195 [ZQ ds,Z5 xs] [] (Yr<|.b<|WB ds.length xs):=by
 refine ZF 20 Tryz.func195<|ZB<|Yj<|ab 0<|Y2 (fun fz gz m F h=>∃(k:Nat),(k<=xs.length)/\(WB ds.length (xs.drop k)=WB ds.length xs)/\F=sF [0,1] fz [(5,.i k)]/\h=gz/\m=xs.length-k) _ _ _ ⟨0,ob,ob,U,U,U⟩ (wk []<|Y7 fl) ?_;rintro m F h ⟨k,Ye,Zk,rfl,rfl,rfl⟩;refine YE 2<|iw (Yg xs) (Y4 ((k:Int)<(xs.length:Int)) (fun Za=>?_) fun Za=>?_)
 .refine ak<|aq<|ab 1<|Y5 2 ?_;obtain ⟨x1,Z3⟩:=Zs xs k om;refine Zo (Zl none (k:Int) 1<|Y3 Z3)<|Z1 2<|iw (Uy ds)<|Zx [] (Q5 x1 0 (ds.length:Int)) (YH (!(decide (0<=x1/\x1<=(ds.length:Int)))) (p:=¬(0<=x1/\x1<=(ds.length:Int))) (Yp dq) (fun Zf=>?_) fun Zf=>?_)
  .refine ZB ?_;rw [Yc Z3] at Zk;exact ZC<|ZW (.b false)<|lb (by clear Z3;first|rfl|omega|grind [WB])
  refine ak<|az<|Z1 1<|ZI k<|Z0 ?_;have hdr:=Yc Z3;exact ZK ⟨k+1,ob,(by rw [hdr] at Zk;clear hdr Z3;grind [WB]),rfl,rfl,rfl⟩<|wk []<|ZM k fl
 refine ax 0 (ZB ?_)
 try rw [Xk (xs:=xs) (k:=k) om] at Zk
 exact ZC<|ZW (.b true)<|lb<|by first|rfl|omega|grind [WB]
def Zct (code:LI) (hl:code.length<=1048576:=by exact ob) (hc:∀z∈code,0<=z/\z<=255):Zj 12 [UD code] [] (fun r h=>∃(rd:Nat) (bs:LI),r=.p rd 0/\h=[.obj rd [UD bs,.i 0]]/\∀z∈bs,0<=z/\z<=255):=by
 refine ZF 11 Tryz.func12<|ZB<|YE 1<|iw (Jk code)<|Z0<|XY (fun fz gz F h=>F=sF [] fz [(0,UD (if (code.length:Int)>2000 then (code.take 2000) else code))]/\h=gz) ?_ ?_
 .refine XK ((code.length:Int)>2000) (fun Za=>?_) fun Za=>?_
  .exact az<|Z1 1<|Zo (JC (es:=Qz code) (hv:=none) (l:=0) (m:=2000) (sz:=1) (es':=Qz (code.take 2000)) kr om (by simp<;>omega) (by simp<;>omega) (Z9z _)<|by first|(simp only [Ua,VP,Lv,Lu];done)|(simp only [Ua,VP,Lv,Lu];rfl)|(simp [Lv,Lu];done))<|Z0<|ZU ⟨rfl,rfl⟩<|wk []<|fc (x:=UD (code.take 2000)) (Zd.sl _<|Ys Qz<|by first|rfl|(rw [Zg Za])|(rw [Z8 Za])|(simp [Za];done)|(rw [XE];simp [Za];done)|omega) fl
  exact ak<|ZU ⟨rfl,rfl⟩<|wk []<|fc (x:=UD code) (Zd.sl _<|Ys Qz<|by first|rfl|(rw [Zg Za])|(rw [Z8 Za])|(simp [Za];done)|(rw [XE];simp [Za];done)|omega) fl
 rintro F h ⟨rfl,rfl⟩;exact Y5 2 (iA [UD (if (code.length:Int)>2000 then (code.take 2000) else code),.i 0] fun b1=>Zp (r1 [0] ⟨b1,(if (code.length:Int)>2000 then (code.take 2000) else code),rfl,rfl,(by first|exact hc|exact fun z hz=>hc z (Qr hz)|(split<;>first|exact hc|exact fun z hz=>hc z (Qr hz)))⟩))
def Wm (rd:Nat) (bs:LI) (p:Nat) (mx:Int) (ZO:∀z∈bs,0<=z/\z<=255) (hp:p+1<=1000000000:=by exact ob):Zj 13 [.p rd 0,.i mx] [YD rd bs p] (fun r h=>∃(k:Int),r=.i k/\h=[.obj rd [UD bs,.i (p+1:Nat)]]/\Pk mx k):=by
 refine ZF 99 Tryz.func13<|ZB<|Zt 5 [0]<|ZI p<|Z1 2<|ZD 0 rd [UD bs,.i (p+1:Nat)]<|ie<|X6<|Xu [0,1] [(24,.b ((decide (mx<1))||((bs.length:Int)==0)))] (fun gz=>gz) ?_ ?_
 .refine Z1 3 (ib (b:=(decide (mx<1))) 17 (fun Zb=>?_) fun Zb=>?_)
  .exact Z0<|wk [0]<|Zu true Zb fl
  exact ZL 4 [0]<|iw (Jk bs)<|Z0<|wk [0]<|Zu ((bs.length:Int)==0) Zb fl
 refine ac ((decide (mx<1))||((bs.length:Int)==0)) (p:=(mx<1)∨((bs.length:Int)=0)) (Yi dq Zq) (fun Za=>?_) fun Za=>?_
 .exact ar<|Zp<|r1 [0] ⟨0,U,U,Pk.zero⟩
 refine ak<|Zt 4 [0]<|ia ((p:Int)) ((((p+1:Nat):Int))-(1))<|Z0<|Yh 5 [0]<|iw (Jk bs) (Y4 ((p:Int)<(bs.length:Int)) (fun Zf=>?_) fun Zf=>?_)
 .refine Zt 5 [0] ?_;obtain ⟨x1,Z3⟩:=Zs bs p om;have hz:=ZO _ (Y0 Z3);exact Zo (Zl none (p:Int) 1<|DN Z3)<|Z1 1<|Zo (Ec x1 om)<|Z1 1<|Zo (Ft x1 mx om om)<|Zp<|r1 [0] ⟨(x1 % mx),U,U,(Pk.rem om om)⟩
 have hq1:p / bs.length<=p:=Nat.div_le_self _ _;have hq0:(0:Int)<=((p / bs.length:Nat):Int):=Int.natCast_nonneg _;refine ak<|aD 46<|ZJ 37 46 [0,1,2,3,4,5,6,7,8] [0,0]<|dw 9 (Jk bs)<|dx 10 (Hu p bs.length om om) ?_;obtain ⟨x2,Zr⟩:=Zs bs (p % bs.length) (Nat.mod_lt _ om);have hz:=ZO _ (Y0 Zr);refine dx 11 (Zl none ((p % bs.length:Nat):Int) 1<|DN Zr)<|Zi 33 34 [12]<|dx 13 (Ec x2 om)<|da 14 ((x2*131)) ((x2)*(131))<|ZJ 26 31 [15,16,17,18,19] [0]<|da 20 (((p*7:Nat):Int)) (((p:Int))*(7))<|da 21 (((p*7+3:Nat):Int)) ((((p*7:Nat):Int))+(3))<|ZJ 20 24 [22,23,24,25] [0]<|dw 26 (Jk bs)<|dx 27 (Hu (p*7+3) bs.length om om) ?_;obtain ⟨x3,YG⟩:=Zs bs ((p*7+3) % bs.length) (Nat.mod_lt _ om);have hz3:=ZO _ (Y0 YG);exact dx 28 (Zl none (((p*7+3) % bs.length:Nat):Int) 1<|DN YG)<|Zi 16 17 [29]<|dx 30 (Ec x3 om)<|da 31 ((x3*1117)) ((x3)*(1117))<|da 32 (((x2*131)+(x3*1117))) (((x2*131))+((x3*1117)))<|Zi 12 13 [33]<|da 34 (((p*29:Nat):Int)) (((p:Int))*(29))<|da 35 ((((x2*131)+(x3*1117))+((p*29:Nat):Int))) ((((x2*131)+(x3*1117)))+(((p*29:Nat):Int)))<|ZJ 5 10 [36,37,38,39,40] [0]<|dw 41 (Jk bs)<|dx 42 (Dc p bs.length om om)<|da 43 ((((p / bs.length:Nat):Int)*53)) ((((p / bs.length:Nat):Int))*(53))<|da 44 (((((x2*131)+(x3*1117))+((p*29:Nat):Int))+(((p / bs.length:Nat):Int)*53))) (((((x2*131)+(x3*1117))+((p*29:Nat):Int)))+((((p / bs.length:Nat):Int)*53)))<|Zi 0 1 [45]<|de<|Y5 2<|Zo (MB ((((x2*131)+(x3*1117))+((p*29:Nat):Int))+(((p / bs.length:Nat):Int)*53)) 64 om om)<|Zo (SS ((((x2*131)+(x3*1117))+((p*29:Nat):Int))+(((p / bs.length:Nat):Int)*53)) (((((x2*131)+(x3*1117))+((p*29:Nat):Int))+(((p / bs.length:Nat):Int)*53)) / 64))<|Z0<|Y5 2<|Zo (Ft (BU ((((x2*131)+(x3*1117))+((p*29:Nat):Int))+(((p / bs.length:Nat):Int)*53)) (((((x2*131)+(x3*1117))+((p*29:Nat):Int))+(((p / bs.length:Nat):Int)*53)) / 64)) mx om (Iv ⟨by omega,by omega⟩ ⟨by omega,by omega⟩).1)<|Zp<|r1 [0] ⟨((BU ((((x2*131)+(x3*1117))+((p*29:Nat):Int))+(((p / bs.length:Nat):Int)*53)) (((((x2*131)+(x3*1117))+((p*29:Nat):Int))+(((p / bs.length:Nat):Int)*53)) / 64)) % mx),rfl,rfl,(Pk.rem (Iv ⟨by omega,by omega⟩ ⟨by omega,by omega⟩).1 om)⟩
def UB (rd:Nat) (bs:LI) (p:Nat) (xs:LI) (ZO:∀z∈bs,0<=z/\z<=255) (hp:p+1<=1000000000:=by exact ob) (hx:0<xs.length/\xs.length<=1000000:=by exact ob):Zj 88 [.p rd 0,Z5 xs] [YD rd bs p] (fun r h=>∃(z:Int),r=.i z/\h=[.obj rd [UD bs,.i (p+1:Nat)]]/\z∈xs):=by
 refine ZF 12 Tryz.func88<|ZB<|Y5 3<|iw (Yg xs)<|ic [0] (Wm rd bs p (xs.length:Int) (ZO:=ob)) ?_;rintro _ _ ⟨k1,rfl,rfl,ZX⟩;have hk:=ZX.lt om;obtain ⟨x1,Z3⟩:=Zs xs k1.toNat om;exact Zo (Zl none k1 1<|Y3 Z3)<|Zp<|r1 [0] ⟨x1,U,U,(Y0 Z3)⟩
def QY (fs:LI) :Zj 90 [Z5 fs] [] (Yr<|Dz<|Yo.mk fs):=by
 exact ZF 5 Tryz.func90<|ar (iA [nl] fun b1=>ie<|Y5 2<|ZD 0 b1 [Z5 fs]<|ie<|ZC<|r3 [] [.agg [Z5 fs]] [0] [(b1,b1)] ⟨U,U⟩<|Zd.agg<|.cons (Zd.sl _<|Ys Z7 ob) .nil)
def RW (rd:Nat) (bs:LI) (p:Nat) (ZO:∀z∈bs,0<=z/\z<=255) (hp:p+1<=1000000000:=by exact ob):Zj 89 [.p rd 0] [YD rd bs p] (fun r h=>∃(ds:List Zh) (v:Hd),r=.h v/\h=[rK v 3 (Zc<|YF ds),.obj rd [UD bs,.i (p+1:Nat)]]/\GD ds):=by
 refine ZF 51 Tryz.func89<|ZB<|ar (iL (Z7 []) 0 1 fun v1=>ZY 0 [(8,Z5 [])]<|Zx [] (QY []) (iL (Z7 [0,1]) 2 1 fun v2=>ZY 0 [(10,Z5 [0,1])]<|Zx [] (QY [0,1]) (iL (XW [Yo.mk [],Yo.mk [0,1]]) 2 1 fun v3=>Z1 1 (iA [.i 0,.i 0,nl] fun b1=>ZD 0 b1 [.i 0,.i 0,HI [Yo.mk [],Yo.mk [0,1]] v3]<|ie<|ar (iL (Z7 []) 0 1 fun v4=>ZY 0 [(14,Z5 [])]<|Zx [] (QY []) (iL (Z7 [3,0,3]) 3 1 fun v5=>ZY 0 [(16,Z5 [3,0,3])]<|Zx [] (QY [3,0,3]) (iL (XW [Yo.mk [],Yo.mk [3,0,3]]) 2 1 fun v6=>Z1 1 (iA [.i 0,.i 0,nl] fun b2=>ZD 0 b2 [.i 0,.i 0,HI [Yo.mk [],Yo.mk [3,0,3]] v6]<|ie<|ar (iL (Z7 [1,3]) 2 1 fun v7=>ZY 0 [(20,Z5 [1,3])]<|Zx [] (QY [1,3]) (iL (XW [Yo.mk [1,3]]) 1 1 fun v8=>Z1 2 (iL (Z7 [1,1,0]) 3 1 fun v9=>ZY 0 [(25,Z5 [1,1,0])]<|Zx [] (QY [1,1,0]) (iL (Z7 [0]) 1 1 fun v10=>ZY 0 [(27,Z5 [0])]<|Zx [] (QY [0]) (iL (Z7 [3]) 1 1 fun v11=>ZY 0 [(29,Z5 [3])]<|Zx [] (QY [3]) (iL (XW [Yo.mk [1,1,0],Yo.mk [0],Yo.mk [3]]) 3 1 fun v12=>ZY 2 [(23,.agg [.i 0,.i 0,Jt [Yo.mk [1,3]]]),(24,.agg [.i 1,.i 0,.sl [] none]),(32,.agg [.i 0,.i 0,Jt [Yo.mk [1,1,0],Yo.mk [0],Yo.mk [3]]]),(33,.agg [.i 0,.i 1,.sl [] none])] (iL (YF [Zh.mk 0 0 [Yo.mk [1,3]],Zh.mk 1 0 [],Zh.mk 0 0 [Yo.mk [1,1,0],Yo.mk [0],Yo.mk [3]],Zh.mk 0 1 []]) 4 3 fun v13=>Z0<|ar<|Kq 3 [(35,.agg [.i 0,.i 0,Jt [Yo.mk [],Yo.mk [0,1]]]),(36,.agg [.i 0,.i 0,.sl [] none]),(37,.agg [.i 0,.i 0,Jt [Yo.mk [],Yo.mk [3,0,3]]])] [11,7] (iKN (Zc<|YF [Zh.mk 0 0 [Yo.mk [],Yo.mk [0,1]],Zh.mk 0 0 [],Zh.mk 0 0 [Yo.mk [],Yo.mk [3,0,3]]]) 3 3 fun g1=>Z0<|Y5 1<|ic [16] (Wm rd bs p 5 (ZO:=ob)) ?_))))))))))))))));rintro _ _ ⟨k1,rfl,rfl,ZX⟩;have hk:=ZX.lt om;refine Z0<|X6 (Y4 (k1<4) (fun Za=>?_) fun Za=>?_)
 .refine az<|Z1 3 ?_;obtain ⟨x1,Z3⟩:=Zs [Zh.mk 0 0 [Yo.mk [1,3]],Zh.mk 1 0 [],Zh.mk 0 0 [Yo.mk [1,1,0],Yo.mk [0],Yo.mk [3]],Zh.mk 0 1 []] k1.toNat (by show k1.toNat<4;omega);exact Zo (Zl (some v13) k1 3<|V6 Z3)<|Z1 1 (iL (YF [x1]) 1 3 fun v14=>ZY 0 [(48,ZQ [x1])] (Hh 2 3 (⟨some ⟨g1,0,none⟩,3,3⟩:Hd) 3 (Zc<|YF [Zh.mk 0 0 [Yo.mk [],Yo.mk [0,1]],Zh.mk 0 0 [],Zh.mk 0 0 [Yo.mk [],Yo.mk [3,0,3]]]) (YF [x1]) none rfl (Jl _) (GN _) (by simp [YF]) (by simp<;>omega) fun v15=>Z0<|ar<|Zp<|r1 [0,1] ⟨([Be,Zh.mk 0 0 [],Bf]++[x1]),v15,rfl,rfl,(GD.four Z3)⟩ (eq:=(rr (ls:=Zc (YF [Zh.mk 0 0 [Yo.mk [],Yo.mk [0,1]],Zh.mk 0 0 [],Zh.mk 0 0 [Yo.mk [],Yo.mk [3,0,3]]])++Zc (YF [x1])) (LV _ _)<|rc rz))))
 exact ak<|ar<|Zp<|r1 [1,0] ⟨[Be,Zh.mk 0 0 [],Bf],(⟨some ⟨g1,0,none⟩,3,3⟩:Hd),U,U,GD.three⟩ (eq:=(rr (ls:=Zc (YF [Zh.mk 0 0 [Yo.mk [],Yo.mk [0,1]],Zh.mk 0 0 [],Zh.mk 0 0 [Yo.mk [],Yo.mk [3,0,3]]])) rfl<|rc rz))
def Zca (rd:Nat) (bs:LI) (p:Nat) (ZO:∀z∈bs,0<=z/\z<=255) (hp:p+1<=1000000000:=by exact ob):Zj 89 [.p rd 0] [YD rd bs p] (fun r h=>∃(ds:List Zh) (v:Value),r=AS ds v/\h=[.tail v 3,.obj rd [UD bs,.i (p+1:Nat)]]/\GD ds):=(RW rd bs p ZO hp).frz (es:=YF) (hs:=fun _=>[.obj rd [UD bs,.i (p+1:Nat)]]) Jl om
def Zbm (rd:Nat) (bs:LI) (p:Nat) (ZO:∀z∈bs,0<=z/\z<=255) (hp:p+5<=1000000000:=by exact ob):Zj 49 [.p rd 0] [YD rd bs p] (fun r h=>∃(dz:List Zh) (p2:Nat),r=ZQ dz/\h=[YD rd bs p2]/\AD dz/\p<=p2/\p2<=p+5):=by
 refine ZF 89 Tryz.func49<|ZB<|Y5 1<|ic [0] (RW rd bs p (ZO:=ob)) ?_;rintro _ _ ⟨ds1,v1,rfl,rfl,ZX⟩;have hgl:=ZX.len;have hga:=ZX.ad;refine Hg 0 ds1.length (v:=v1) (D3 _) om fun g1 c1 he1=>?_
 subst he1;refine Z0<|Y5 2<|io (.i ds1.length) (.i ds1.length) (lr _)<|ic [1] (Wm rd bs (p+1) (ds1.length:Int) (ZO:=ob)) ?_;rintro _ _ ⟨k1,rfl,rfl,Yf⟩;have qhp2:=Yf.lt om;refine Z0<|YE 1<|ic [0] (Wm rd bs ((p+1)+1) 14 (ZO:=ob)) ?_;rintro _ _ ⟨k2,rfl,rfl,YK⟩;have qhp3:=YK.lt om;refine ie<|ab 0<|ZB<|Ak (fun fz gz F h=>∃(dq:List Zh) (vq:Hd) (pq:Nat),(AD dq)/\(p<=pq/\pq<=p+5)/\F=sF [] fz [(3,.h vq)]/\h=[YD rd bs pq,rK vq 3<|Zc<|YF dq]) (fun _ _=>rfl) ?_ ?_
 .refine ac (k2==0) Zq (fun Za=>?_) fun Za=>?_
  .refine az<|Z1 3 (iL (Z7 [-1,5,0,2]) 4 1 fun v2=>ZY 0 [(18,Z5 [-1,5,0,2])]<|ic [1] (UB rd bs (((p+1)+1)+1) [-1,5,0,2] (ZO:=ob)) ?_);rintro _ _ ⟨z1,rfl,rfl,YW⟩;refine Z1 1 (iL (Z7 [0,1,5]) 3 1 fun v3=>ZY 0 [(21,Z5 [0,1,5])]<|ic [1] (UB rd bs ((((p+1)+1)+1)+1) [0,1,5] (ZO:=ob)) ?_);rintro _ _ ⟨z2,rfl,rfl,Xl⟩;exact Z1 1<|Zo (W9 g1 ds1.length c1 k1.toNat 3 k1)<|ZY 0 [(23,.agg [.i z1,.i z2,.sl [] none])]<|Bz 3 g1 ds1.length c1 3 (k1.toNat * 3) [.i z1,.i z2,.sl [] none] (Zc<|YF ds1) (Zc<|YF<|ds1.set k1.toNat<|Zh.mk z1 z2 []) (by rw [D3];simp only [YR,Xx];omega) (H1 (Zh.mk z1 z2 []) om)<|ie<|ZU ⟨(ds1.set k1.toNat<|Zh.mk z1 z2 []),(⟨some ⟨g1,0,none⟩,ds1.length,c1⟩:Hd),((((p+1)+1)+1)+1)+1,(hga.set _<|by simp),ob,rfl,rfl⟩<|wk [1,0] fl
  refine ar (YH (k2==1) Zq (fun Zf=>?_) fun Zf=>?_)
  .refine az<|Z1 3 (iL (Z7 [-1,0,4,5]) 4 1 fun v4=>ZY 0 [(30,Z5 [-1,0,4,5])]<|ic [1] (UB rd bs (((p+1)+1)+1) [-1,0,4,5] (ZO:=ob)) ?_);rintro _ _ ⟨z3,rfl,rfl,XS⟩;exact iL (Z7 [z3]) 1 1 fun v5=>ZY 0 [(32,Z5 [z3])]<|Zx [] (QY [z3]) (iL (Z7 [0,0,0,0]) 4 1 fun v6=>ZY 0 [(34,Z5 [0,0,0,0])]<|Zx [] (QY [0,0,0,0]) (iL (Z7 []) 0 1 fun v7=>ZY 0 [(36,Z5 [])]<|Zx [] (QY []) (iL (XW [Yo.mk [z3],Yo.mk [0,0,0,0],Yo.mk []]) 3 1 fun v8=>Z1 1<|Zo (W9 g1 ds1.length c1 k1.toNat 3 k1)<|ZY 0 [(39,.agg [.i 0,.i 0,Jt [Yo.mk [z3],Yo.mk [0,0,0,0],Yo.mk []]])]<|Bz 6 g1 ds1.length c1 3 (k1.toNat * 3) [.i 0,.i 0,Jt [Yo.mk [z3],Yo.mk [0,0,0,0],Yo.mk []]] (Zc<|YF ds1) (Zc<|YF<|ds1.set k1.toNat<|Zh.mk 0 0 [Yo.mk [z3],Yo.mk [0,0,0,0],Yo.mk []]) (by rw [D3];simp only [YR,Xx];omega) (H1 (Zh.mk 0 0 [Yo.mk [z3],Yo.mk [0,0,0,0],Yo.mk []]) om)<|ie<|ZU ⟨(ds1.set k1.toNat<|Zh.mk 0 0 [Yo.mk [z3],Yo.mk [0,0,0,0],Yo.mk []]),(⟨some ⟨g1,0,none⟩,ds1.length,c1⟩:Hd),(((p+1)+1)+1)+1,(hga.set _<|by simp),ob,rfl,rfl⟩<|wk [5,0] fl)))
  refine ar (YH (k2==2) Zq (fun ZA=>?_) fun ZA=>?_)
  .exact az<|Z1 3<|ia ((k1+1)) ((k1)+(1)) (iL (Z7 [k1+1]) 1 1 fun v9=>ZY 0 [(47,Z5 [k1+1])]<|Zx [] (QY [k1+1]) (iL (XW [Yo.mk [k1+1]]) 1 1 fun v10=>Z1 1<|Zo (W9 g1 ds1.length c1 k1.toNat 3 k1)<|ZY 0 [(50,.agg [.i 0,.i 0,Jt [Yo.mk [k1+1]]])]<|Bz 3 g1 ds1.length c1 3 (k1.toNat * 3) [.i 0,.i 0,Jt [Yo.mk [k1+1]]] (Zc<|YF ds1) (Zc<|YF<|ds1.set k1.toNat<|Zh.mk 0 0 [Yo.mk [(k1+1)]]) (by rw [D3];simp only [YR,Xx];omega) (H1 (Zh.mk 0 0 [Yo.mk [(k1+1)]]) om)<|ie<|ZU ⟨(ds1.set k1.toNat<|Zh.mk 0 0 [Yo.mk [(k1+1)]]),(⟨some ⟨g1,0,none⟩,ds1.length,c1⟩:Hd),((p+1)+1)+1,(hga.set _<|by simp),ob,rfl,rfl⟩<|wk [3,0] fl))
  refine ar (YH (k2==3) Zq (fun Ym=>?_) fun Ym=>?_)
  .refine az<|Z1 2 (iL (Z7 [0,2,1]) 3 1 fun v11=>ZY 0 [(56,Z5 [0,2,1])]<|ic [1] (UB rd bs (((p+1)+1)+1) [0,2,1] (ZO:=ob)) ?_);rintro _ _ ⟨z4,rfl,rfl,Wv⟩;exact ZY 1 [(58,.agg [.i 2,.i z4,.sl [] none])] (iL (YF [Zh.mk 2 z4 []]) 1 3 fun v12=>ZY 0 [(59,ZQ [Zh.mk 2 z4 []])] (Hh 3 ds1.length (⟨some ⟨g1,0,none⟩,ds1.length,c1⟩:Hd) 3 (Zc<|YF ds1) (YF [Zh.mk 2 z4 []]) none (D3 _) (Jl _) (GN _) (by simp [YF]) (by simp<;>omega) fun v13=>Z0<|ZU ⟨(ds1++[Zh.mk 2 z4 []]),v13,(((p+1)+1)+1)+1,(hga.app (by simp;omega)<|by simp),ob,rfl,rfl⟩<|wk [2,0] fl (e:=(rc<|rr (ls:=Zc (YF ds1)++Zc (YF [Zh.mk 2 z4 []])) (LV _ _) rz))))
  refine ar (YH (k2==4) Zq (fun Xm=>?_) fun Xm=>?_)
  .refine az<|Z1 3<|ic [0] (Wm rd bs (((p+1)+1)+1) 2 (ZO:=ob)) ?_;rintro _ _ ⟨k3,rfl,rfl,WS⟩;have qhp8:=WS.lt om;refine iL (Z7 []) 0 1 fun v14=>ZY 0 [(67,Z5 [])]<|Zx [] (QY []) (iL (Z7 [2]) 1 1 fun v15=>ZY 0 [(69,Z5 [2])]<|Zx [] (QY [2]) (iL (Z7 []) 0 1 fun v16=>ZY 0 [(71,Z5 [])]<|Zx [] (QY []) (iL (Z7 []) 0 1 fun v17=>ZY 0 [(73,Z5 [])]<|Zx [] (QY []) (iL (XW [Yo.mk [],Yo.mk [2],Yo.mk [],Yo.mk []]) 4 1 fun v18=>Z1 1<|ic [5] (Wm rd bs ((((p+1)+1)+1)+1) 3 (ZO:=ob)) ?_))))
   rintro _ _ ⟨k4,rfl,rfl,Vu⟩;have qhp9:=Vu.lt om;exact Zo (JC (es:=XW [Yo.mk [],Yo.mk [2],Yo.mk [],Yo.mk []]) (hv:=some v18) (l:=k4) (m:=(((XW [Yo.mk [],Yo.mk [2],Yo.mk [],Yo.mk []]).length:Nat):Int)) (sz:=1) (es':=XW ([Yo.mk [],Yo.mk [2],Yo.mk [],Yo.mk []].drop k4.toNat)) kr om (by simp<;>omega) (by simp<;>omega) (F7 _) (by first|(simp only [Ua,VP,Lx,Lw];done)|(simp only [Ua,VP,Lx,Lw];rfl)|(simp [Lx,Lw];done))) (Z1 1 (Zo (W9 g1 ds1.length c1 k1.toNat 3 k1) (Bz 6 g1 ds1.length c1 3 (k1.toNat * 3) [.i k3,.i 0,Jt ([Yo.mk [],Yo.mk [2],Yo.mk [],Yo.mk []].drop k4.toNat)] (Zc (YF ds1)) (Zc (YF (ds1.set k1.toNat (Zh.mk k3 0 ([Yo.mk [],Yo.mk [2],Yo.mk [],Yo.mk []].drop k4.toNat))))) (by rw [D3];simp only [YR,Xx];omega) (H1 (Zh.mk k3 0 ([Yo.mk [],Yo.mk [2],Yo.mk [],Yo.mk []].drop k4.toNat)) om) (ie (ZU ⟨(ds1.set k1.toNat (Zh.mk k3 0 ([Yo.mk [],Yo.mk [2],Yo.mk [],Yo.mk []].drop k4.toNat))),(⟨some ⟨g1,0,none⟩,ds1.length,c1⟩:Hd),((((p+1)+1)+1)+1)+1,(hga.set _ ⟨by simp,fun c hc=>(by decide:∀c∈[Yo.mk [],Yo.mk [2],Yo.mk [],Yo.mk []],c.fields.length<=4) c (List.mem_of_mem_drop hc)⟩),ob,rfl,rfl⟩ (wk [1,0] fl))))))
  refine ar (YH (k2==5) Zq (fun Xs=>?_) fun Xs=>?_)
  .exact az<|ZY 3 [(84,.agg [.i 0,.i 0,.sl [] none]),(85,.agg [.i 3,.i 0,.sl [] none])] (iL (YF [Zh.mk 0 0 [],Zh.mk 3 0 []]) 2 3 fun v19=>ZY 0 [(86,ZQ [Zh.mk 0 0 [],Zh.mk 3 0 []])] (Hh 2 ds1.length (⟨some ⟨g1,0,none⟩,ds1.length,c1⟩:Hd) 3 (Zc<|YF ds1) (YF [Zh.mk 0 0 [],Zh.mk 3 0 []]) none (D3 _) (Jl _) (GN _) (by simp [YF]) (by simp<;>omega) fun v20=>Z0<|ZU ⟨(ds1++[Zh.mk 0 0 [],Zh.mk 3 0 []]),v20,((p+1)+1)+1,(hga.app (by simp;omega)<|by simp),ob,rfl,rfl⟩<|wk [2,0] fl (e:=(rc<|rr (ls:=Zc (YF ds1)++Zc (YF [Zh.mk 0 0 [],Zh.mk 3 0 []])) (LV _ _) rz))))
  exact ak<|ZU ⟨ds1,(⟨some ⟨g1,0,none⟩,ds1.length,c1⟩:Hd),((p+1)+1)+1,hga,ob,U,U⟩<|wk [0,0] fl
 rintro F h ⟨dq,vq,pq,JY,Mz,rfl,rfl⟩;exact ZB (SP 2 1 (v:=vq) (YF dq) (Jl _) (ZC (r2 [1] [AS dq vq.v] ⟨dq,pq,U,U,⟨JY,Mz⟩⟩ (Zd.forget _ _))))
def Zm5 (ds:List Zh) (n:Nat) (hz:Ja ds:=by exact ob) (hn:n<ds.length:=by exact ob):Zj 222 [ZQ ds,.i n] [] (Yr<|.b<|CV ds n):=by
 have hl_ds:ds.length<=4294967296:=by have:=hz.len;omega
 refine ZF 100 Tryz.func222<|ZB<|Y5 2 ?_;obtain ⟨x1,Z3⟩:=Zs ds n om;have hdo:=EZ Z3;have hz1:=hz.cons_at Z3;refine Zo (Zl none (n:Int) 3<|V6 Z3)<|Z1 1 (iA [.i 0,.i 0,nl] fun b1=>ZD 0 b1 (Qf x1)<|ie<|Yh 2 [0]<|iw (UJ x1.cons) (Y4 ((x1.cons.length:Int)>0) (fun Za=>?_) fun Za=>?_))
 .refine Yh 2 [0]<|iw (UJ x1.cons) (XD 9 [0,5] [(24,.b ((decide ((x1.cons.length:Int)>3))||(x1.frm != 0)))] (fun gz=>gz) ?_ fun hj1=>?_)
  .refine Xu [0,5] [(29,.b (((decide ((x1.cons.length:Int)>3))||(x1.frm != 0))||(x1.to_ != 0)))] (fun gz=>gz) ?_ ?_
   .refine Z1 1 (ib (b:=((decide ((x1.cons.length:Int)>3))||(x1.frm != 0))) 25 (fun Zb=>?_) fun Zb=>?_)
    .have ZX:((x1.cons.length:Int)>3)∨(x1.frm≠0):=((Yi dq Yb)).1 Zb;exact Z0<|wk [0]<|Zu true Zb fl
    have Yf:¬(((x1.cons.length:Int)>3)∨(x1.frm≠0)):=Y8 (Yi dq Yb) Zb;exact U6 [0]<|wk [0]<|Zu (x1.to_ != 0) Zb fl
   refine ac (((decide ((x1.cons.length:Int)>3))||(x1.frm != 0))||(x1.to_ != 0)) (p:=(((x1.cons.length:Int)>3)∨(x1.frm≠0))∨(x1.to_≠0)) (Yi (Yi dq Yb) Yb) (fun Zf=>?_) fun Zf=>?_
   .exact ar<|Zp<|ZW (.b false)<|lb (by clear Z3;first|rfl|omega|grind [Tj])
   refine ak<|Yj<|ab 0<|Y2 (fun fz gz m F h=>∃(k:Nat),(k<=x1.cons.length)/\(Ql ds.length (x1.cons.drop k)=Ql ds.length x1.cons)/\F=sF [0,5] fz [(6,.i k)]/\h=gz/\m=x1.cons.length-k) _ _ _ ⟨0,ob,ob,U,U,U⟩ (wk [0]<|Y7 fl) ?_;rintro m F h ⟨k,Ye,Zk,rfl,rfl,rfl⟩;refine Yh 3 [0]<|iw (UJ x1.cons) (Y4 ((k:Int)<(x1.cons.length:Int)) (fun ZA=>?_) fun ZA=>?_)
   .refine ak<|aq<|ab 1<|Zt 3 [0] ?_;obtain ⟨x2,Zr⟩:=Zs x1.cons k om;refine Zo (Zl none (k:Int) 1<|Bh Zr)<|Z1 2<|iw (Yg x2.fields)<|Xu [0,5,6] [(55,.b ((decide ((x2.fields.length:Int)>3))||(!WB ds.length x2.fields)))] (fun gz=>gz) ?_ ?_
    .refine Z1 2 (ib (b:=(decide ((x2.fields.length:Int)>3))) 45 (fun ZE=>?_) fun ZE=>?_)
     .have YK:(x2.fields.length:Int)>3:=(dq).1 ZE;exact Z0<|wk [0]<|Zu true ZE fl
     have YW:¬((x2.fields.length:Int)>3):=Y8 dq ZE;exact ZL 4 [0]<|Zo (Zl none (k:Int) 1<|Bh Zr)<|Z1 2<|Zx [] (Z44 ds x2.fields)<|Z0<|wk [0]<|Zu (!WB ds.length x2.fields) ZE fl
    refine ac ((decide ((x2.fields.length:Int)>3))||(!WB ds.length x2.fields)) (p:=((x2.fields.length:Int)>3)∨(¬(WB ds.length x2.fields=true))) (Yi dq<|Yp Iff.rfl) (fun Ym=>?_) fun Ym=>?_
    .refine ZB ?_;rw [Yc Zr] at Zk;exact ZC<|ZW (.b false)<|lb (by clear Z3 Zr;first|rfl|omega|grind [Ql,Aj,Tj])
    refine ak<|az<|Z1 1<|ZI k<|Z0 ?_;have hdr:=Yc Zr;exact ZK ⟨k+1,ob,(by rw [hdr] at Zk;clear hdr Z3 Zr;grind [Ql,Aj]),rfl,rfl,rfl⟩<|wk [0]<|ZM k fl
   refine ax 0 (ZB ?_)
   try rw [Xk (xs:=x1.cons) (k:=k) om] at Zk
   exact ZC<|ZW (.b true)<|lb (by clear Z3;first|rfl|omega|grind [Ql,Aj,Tj])
  refine Z1 2 (ib (b:=(decide ((x1.cons.length:Int)>3))) 20 (fun Yx=>?_) fun Yx=>?_)
  .have Xl:(x1.cons.length:Int)>3:=(dq).1 Yx;exact Z1 4<|Yt (wk [0]<|Zu true Yx fl) hj1
  have XS:¬((x1.cons.length:Int)>3):=Y8 dq Yx;exact ZL 4 [0]<|Yt (wk [0]<|Zu (x1.frm != 0) Yx fl) hj1
 refine ak<|Yj<|ab 2<|Y2 (fun fz gz m F h=>∃(j:Nat),(j<=n)/\(KL x1 ((ds.take n).drop j)=KL x1 (ds.take n))/\F=sF [0,1,5] fz [(7,.i j)]/\h=gz/\m=n-j) _ _ _ ⟨0,ob,ob,U,U,U⟩ (wk [0]<|Y7 fl) ?_;rintro m F h ⟨j,VZ,XB,rfl,rfl,rfl⟩;refine X6 (Y4 ((j:Int)<(n:Int)) (fun Xm=>?_) fun Xm=>?_)
 .refine ak<|aq<|ab 3<|aD 27<|Zi 25 27 [0,1] ?_;obtain ⟨x3,YG⟩:=Zs ds j om;refine dx 2 (Zl none (j:Int) 3<|V6 YG)<|Zi 22 24 [3,4]<|dw 5 (UJ x3.cons)<|AH [0,1,5,7] [(87,.b (((x3.cons.length:Int)==0)&&((x3.frm==x1.frm)&&(x3.to_==x1.to_))))] (fun gz=>gz) ?_ ?_
  .refine Zi 19 21 [6,7] (db (b:=((x3.cons.length:Int)==0)) 68 (fun Xa=>?_) fun Xa=>?_)
   .have Wv:(x3.cons.length:Int)=0:=(Zq).1 Xa;refine Zi 17 19 [8,9]<|dx 10 (Zl none (j:Int) 3<|V6 YG)<|ZJ 9 16 [11,12,13,14,15,16,17] [0] (db (b:=(x3.frm==x1.frm)) 78 (fun WI=>?_) fun WI=>?_)
    .have WS:x3.frm=x1.frm:=(Zq).1 WI;exact Zi 7 9 [18,19]<|dx 20 (Zl none (j:Int) 3<|V6 YG)<|ZJ 0 6 [21,22,23,24,25,26] [0]<|de<|wk [0]<|Zu (x3.to_==x1.to_) (And.intro Xa WI) fl
    have Vu:¬(x3.frm=x1.frm):=Y8 Zq WI;exact Zi 0 9 [18,19,20,21,22,23,24,25,26]<|de<|wk [0]<|Zu false (And.intro Xa WI) fl
   have T4:¬((x3.cons.length:Int)=0):=Y8 Zq Xa;exact Zi 0 19 [8,9,10,11,12,13,14,15,16,17,18,19,20,21,22,23,24,25,26]<|de<|wk [0]<|Zu false Xa fl
  refine ac (((x3.cons.length:Int)==0)&&((x3.frm==x1.frm)&&(x3.to_==x1.to_))) (p:=((x3.cons.length:Int)=0)/\((x3.frm=x1.frm)/\(x3.to_=x1.to_))) (YN Zq<|YN Zq Zq) (fun Xs=>?_) fun Xs=>?_
  .refine ZB ?_;rw [Yc (show (ds.take n)[j]? = some x3 by rw [Qp,Zg om];exact YG),KL,Zg om] at XB;exact ZC<|ZW (.b false)<|lb (by clear Z3 YG;first|rfl|omega|grind [Tj])
  refine ak<|az<|Z1 1<|ZI j (hb:=(by have:=hz.len;omega))<|Z0 ?_;have hdr:=Yc YG;exact ZK ⟨j+1,ob,(by rw [Yc (show (ds.take n)[j]? = some x3 by rw [Qp,Zg om];exact YG),KL,Z8 om] at XB;exact XB),rfl,rfl,rfl⟩<|wk [0]<|ZM j fl
 refine ax 2<|Zt 3 [0]<|iw (Uy ds)<|Zx [] (Q5 x1.frm 0 (ds.length:Int)) (XD 12 [] [(99,.b ((decide (0<=x1.frm/\x1.frm<=(ds.length:Int)))&&(decide (0<=x1.to_/\x1.to_<=(ds.length:Int)))))] (fun gz=>gz) ?_ fun hj2=>?_)
 .refine Z0 ?_;rw [Xk (show (ds.take n).length<=j by rw [WK];omega),KL] at XB;exact ZC<|ZW (.b ((decide (0<=x1.frm/\x1.frm<=(ds.length:Int)))&&(decide (0<=x1.to_/\x1.to_<=(ds.length:Int)))))<|lb (by clear Z3;first|rfl|omega|grind [Tj])
 refine Z1 1 (ib (b:=(decide (0<=x1.frm/\x1.frm<=(ds.length:Int)))) 93 (fun V2=>?_) fun V2=>?_)
 .have Tn:0<=x1.frm/\x1.frm<=(ds.length:Int):=(dq).1 V2;exact ZL 3 [0]<|iw (Uy ds)<|Zx [] (Q5 x1.to_ 0 (ds.length:Int))<|Z1 1<|Yt (wk [0]<|Zu (decide (0<=x1.to_/\x1.to_<=(ds.length:Int))) V2 fl) hj2
 have To:¬(0<=x1.frm/\x1.frm<=(ds.length:Int)):=Y8 dq V2;exact Z1 6<|Yt (wk [0]<|Zu false V2 fl) hj2
def Zma (ds:List Zh) (hz:Ja ds:=by exact ob):Zj 194 [ZQ ds] [] (Yr<|.b<|Vf ds):=by
 have hzl:=hz.len;refine ZF 17 Tryz.func194<|ZB<|YE 1<|iw (Uy ds) (Y4 ((ds.length:Int)>4) (fun Za=>?_) fun Za=>?_)
 .exact ar<|Zp<|ZW (.b false)<|lb<|by first|rfl|omega|grind [Vf]
 refine ak<|Yj<|ab 0<|Y2 (fun fz gz m F h=>∃(k:Nat),(k<=ds.length)/\(TQ ds (ds.drop k) k=TQ ds ds 0)/\F=sF [0] fz [(3,.i k)]/\h=gz/\m=ds.length-k) _ _ _ ⟨0,ob,ob,U,U,U⟩ (wk []<|Y7 fl) ?_;rintro m F h ⟨k,Ye,Zk,rfl,rfl,rfl⟩;refine YE 2<|iw (Uy ds) (Y4 ((k:Int)<(ds.length:Int)) (fun Zf=>?_) fun Zf=>?_)
 .refine ak<|aq<|ab 1<|Y5 2<|Zx [] (Zm5 ds k) (YH (!CV ds k) (p:=¬(CV ds k=true)) (Yp Iff.rfl) (fun ZA=>?_) fun ZA=>?_)
  .refine ZB ?_
   try rw [Xk (xs:=ds) (k:=k) om] at Zk
   obtain ⟨x1,Z3⟩:=Zs ds k om;rw [Yc Z3] at Zk;exact ZC (ZW (.b false) (lb (by first|rfl|omega|grind [TQ,Vf])))
  refine ak<|az<|Z1 1<|ZI k<|Z0 ?_;obtain ⟨x1,Z3⟩:=Zs ds k om;have hdr:=Yc Z3;exact ZK ⟨k+1,ob,(by rw [hdr] at Zk;clear hdr ;grind [TQ]),rfl,rfl,rfl⟩<|wk []<|ZM k fl
 refine ax 0 (ZB ?_)
 try rw [Xk (xs:=ds) (k:=k) om] at Zk
 exact ZC<|ZW (.b true)<|lb<|by first|rfl|omega|grind [TQ,Vf]
def Zlx (n:Zm) (hz:n.2.length<=4194304:=by exact ob):Zj 146 [Yq n] [] (Yr<|.agg [ZQ n.1,.sl (UT<|n.2.map UN) none]):=by
 refine ZF 35 Tryz.func146<|ar (iA (YI n) fun b1=>iA [nl,nl] fun b2=>ie<|Zt 2 [1] (iL (UT []) 0 5 fun v1=>Z1 1 (iA [nl,nl] fun b3=>?_)));refine ZD 0 b3 [ZQ n.1,.sl (UT [])<|some v1]<|ie<|Yj<|ab 0<|Y2 (fun fz gz m F h=>∃(k:Nat) (v:Value),(k<=n.2.length)/\F=sF [1,2,3] fz [(4,.i k)]/\h=[.obj b3 [ZQ n.1,.sl (UT<|(n.2.take k).map UN)<|some v],Ze gz 2,Ze gz 3,.tail v 5]/\m=n.2.length-k) _ _ _ ⟨0,v1,ob,U,U,U⟩ (wk [0,1,1,0]<|Y7 fl) ?_;rintro m F h ⟨k,v,Ye,rfl,rfl,rfl⟩;refine Yh 3 [2]<|iw (U1 n.2) (Y4 ((k:Int)<(n.2.length:Int)) (fun Za=>?_) fun Za=>?_)
 .refine ak<|aq<|ab 1<|aE 19<|ZJ 14 19 [0,1,2,3,4] [0,2] ?_;obtain ⟨x1,Z3⟩:=Zs n.2 k om;refine dx 5 (Zl none (k:Int) 5<|WG Z3)<|ZJ 8 13 [6,7,8,9,10] [2]<|dx 11 (Zl none (k:Int) 5<|WG Z3)<|Yw 4 7 [12,13,14] [(30,.agg [Z5 x1.1,.i x1.result,.i 0,.i 0,.sl [] none])]<|Z9 15 (dL 15 [0] [b3] (UT [Sg.mk x1.1 x1.result]) 1 5 fun v2=>Yw 3 3 [] [(31,.sl (UT [Sg.mk x1.1 x1.result]) none)]<|Z9 16 (dp 16 4 [] [] (UT<|(n.2.take (k+1)).map UN) (UT<|(n.2.take k).map UN) (UT [Sg.mk x1.1 x1.result]) v none 5 (Rg _) (Rg _) (Zag _) (by simp<;>omega) (by rw [WO Z3];simp [UT,UN]) fun v3=>Zi 1 2 [17]<|Z9 18<|YO 18 2 [] [] b3 [ZQ n.1,.sl (UT<|(n.2.take (k+1)).map UN)<|some v3]<|de<|az<|Z1 1<|ZI k<|Z0 ?_));have hdr:=Yc Z3;exact ZK ⟨k+1,v3,ob,U,U,U⟩<|wk [0,2,2,0]<|ZM k fl
 exact ax 0<|Zt 1 [0]<|ZD 1 b2 [ZQ n.1,.sl (UT<|(n.2.take k).map UN)<|some v]<|ie<|ZC<|r3 [] [.agg [ZQ n.1,.sl (UT<|(n.2.take k).map UN)<|some v]] [0] [(b2,b2)] ⟨rfl,rfl⟩<|Zd.agg<|.cons (lr _)<|.cons (Zd.sl _<|Ys UT<|by rw [show k=n.2.length by omega,VP]) .nil
def Zm9 (ds:List Zh) (fs:List Sg) (hz:Ja ds:=by exact ob) (hf:∀f∈fs,f.params.length<=4194304):Zj 145 [.agg [ZQ ds,.sl (UT fs) none]] [] (Yr<|.b<|J6 ds fs):=by
 have hzl:=hz.len;refine ZF 64 Tryz.func145<|ar (iA [ZQ ds,.sl (UT fs) none] fun b1=>Z0<|Yh 2 [0]<|Zx [] (Zma ds)<|Xu [1] [(15,.b ((!Vf ds)||(!(decide (1<=(fs.length:Int)/\(fs.length:Int)<=4)))))] (fun gz=>gz) ?_ ?_)
 .refine Z1 2 (ib (b:=(!Vf ds)) 9 (fun Zb=>?_) fun Zb=>?_)
  .have ZX:¬(Vf ds=true):=((Yp Iff.rfl)).1 Zb;exact Z0<|wk [0]<|Zu true Zb fl
  have Yf:¬(¬(Vf ds=true)):=Y8 (Yp Iff.rfl) Zb;exact ZL 2 [0]<|iw (Rh fs)<|Zx [] (Q5 (fs.length:Int) 1 4)<|Z0<|wk [0]<|Zu (!(decide (1<=(fs.length:Int)/\(fs.length:Int)<=4))) Zb fl
 refine ac ((!Vf ds)||(!(decide (1<=(fs.length:Int)/\(fs.length:Int)<=4)))) (p:=(¬(Vf ds=true))∨(¬(1<=(fs.length:Int)/\(fs.length:Int)<=4))) (Yi (Yp Iff.rfl)<|Yp dq) (fun Za=>?_) fun Za=>?_
 .exact ar<|Zp<|ZW (.b false)<|lb<|by first|rfl|omega|grind [J6]
 refine ak<|Yj<|ab 0<|Y2 (fun fz gz m F h=>∃(k:Nat),(k<=fs.length)/\(A1 ds.length (fs.drop k)=A1 ds.length fs)/\F=sF [1] fz [(3,.i k)]/\h=gz/\m=fs.length-k) _ _ _ ⟨0,ob,ob,U,U,U⟩ (wk [0]<|Y7 fl) ?_;rintro m F h ⟨k,Ye,Zk,rfl,rfl,rfl⟩;refine Yh 3 [0]<|iw (Rh fs) (Y4 ((k:Int)<(fs.length:Int)) (fun Zf=>?_) fun Zf=>?_)
 .refine ak<|aq<|ab 1<|Zt 3 [0] ?_;obtain ⟨x1,Z3⟩:=Zs fs k om;refine Zo (Zl none (k:Int) 5<|LJ Z3)<|Z1 1 (iA [nl,.i 0,.i 0,.i 0,nl] fun b2=>ZD 0 b2 [Z5 x1.1,.i x1.result,.i 0,.i 0,.sl [] none]<|ie<|Zt 2 [0]<|iw (Yg x1.1) (XD 12 [1,3,4] [(39,.b ((decide ((x1.1.length:Int)>3))||(!WB ds.length x1.1)))] (fun gz=>gz) ?_ fun hj1=>?_))
  .refine Xu [1,3] [(48,.b (((decide ((x1.1.length:Int)>3))||(!WB ds.length x1.1))||(!(decide (0<=x1.result/\x1.result<=(ds.length:Int))))))] (fun gz=>gz) ?_ ?_
   .refine Z1 1 (ib (b:=((decide ((x1.1.length:Int)>3))||(!WB ds.length x1.1))) 40 (fun ZE=>?_) fun ZE=>?_)
    .have YK:((x1.1.length:Int)>3)∨(¬(WB ds.length x1.1=true)):=((Yi dq<|Yp Iff.rfl)).1 ZE;exact Z0<|wk [0,0]<|Zu true ZE fl
    have YW:¬(((x1.1.length:Int)>3)∨(¬(WB ds.length x1.1=true))):=Y8 (Yi dq<|Yp Iff.rfl) ZE;exact ZL 4 [0,1]<|iw (Uy ds)<|Zx [] (Q5 x1.result 0 (ds.length:Int))<|Z0<|wk [0,0]<|Zu (!(decide (0<=x1.result/\x1.result<=(ds.length:Int)))) ZE fl
   refine ac (((decide ((x1.1.length:Int)>3))||(!WB ds.length x1.1))||(!(decide (0<=x1.result/\x1.result<=(ds.length:Int))))) (p:=(((x1.1.length:Int)>3)∨(¬(WB ds.length x1.1=true)))∨(¬(0<=x1.result/\x1.result<=(ds.length:Int)))) (Yi (Yi dq<|Yp Iff.rfl)<|Yp dq) (fun ZA=>?_) fun ZA=>?_
   .refine ZB ?_;rw [Yc Z3] at Zk;exact ZC<|ZW (.b false)<|lb (by clear Z3;first|rfl|omega|grind [A1,A0,J6])
   refine ak<|az<|Z1 1<|ZI k<|Z0 ?_;have hdr:=Yc Z3;exact ZK ⟨k+1,ob,(by rw [hdr] at Zk;clear hdr Z3;grind [A1,A0]),rfl,rfl,rfl⟩<|wk [1]<|ZM k fl
  refine Z1 2 (ib (b:=(decide ((x1.1.length:Int)>3))) 32 (fun Yx=>?_) fun Yx=>?_)
  .have Xl:(x1.1.length:Int)>3:=(dq).1 Yx;exact Z1 7<|Yt (wk [0,0]<|Zu true Yx fl) hj1
  have XS:¬((x1.1.length:Int)>3):=Y8 dq Yx;exact ZL 4 [1,0]<|Zx [] (Z44 ds x1.1)<|Z1 2<|Yt (wk [0,0]<|Zu (!WB ds.length x1.1) Yx fl) hj1
 refine ax 0<|Zt 2 [0] ?_;obtain ⟨x2,Zr⟩:=Zs fs 0 om;have hfo:=Zb0 Zr;refine Zo (Zl none 0 5<|LJ Zr)<|Z1 2<|iw (Yg x2.1) (XD 15 [] [(63,.b (((x2.1.length:Int)==0)&&(x2.result==0)))] (fun gz=>gz) ?_ fun hj2=>?_)
 .refine Z0 ?_
  try rw [Xk (xs:=fs) (k:=k) om] at Zk
  exact ZC<|ZW (.b (((x2.1.length:Int)==0)&&(x2.result==0)))<|lb (by clear Zr;first|rfl|omega|grind [A1,A0,J6])
 refine Z1 2 (ib (b:=((x2.1.length:Int)==0)) 56 (fun Xa=>?_) fun Xa=>?_)
 .have Wv:(x2.1.length:Int)=0:=(Zq).1 Xa;exact ZL 2 [0]<|Zo (Zl none 0 5<|LJ Zr)<|Z1 4<|Yt (wk [0]<|Zu (x2.result==0) Xa fl) hj2
 have WS:¬((x2.1.length:Int)=0):=Y8 Zq Xa;exact Z1 7<|Yt (wk [0]<|Zu false Xa fl) hj2
def Zm7 (ps ls:LI) (hl_ps:ps.length<=4294967296:=by exact ob) (hl_ls:ls.length<=4294967296:=by exact ob):Zj 147 [Z5 ps,Z5 ls] [] (Yr<|.b<|Ab ps ls):=by
 refine ZF 47 Tryz.func147<|ZB<|Yj<|ab 0<|Y2 (fun fz gz m F h=>∃(k:Nat),(k<=ls.length)/\(Kl ps (ls.drop k) (if k=0 then none else ls[k-1]?)=Ab ps ls)/\F=sF [0,1] fz [(5,.i k)]/\h=gz/\m=ls.length-k) _ _ _ ⟨0,ob,ob,U,U,U⟩ (wk []<|Y7 fl) ?_;rintro m F h ⟨k,Ye,Zk,rfl,rfl,rfl⟩;refine YE 2<|iw (Yg ls) (Y4 ((k:Int)<(ls.length:Int)) (fun Za=>?_) fun Za=>?_)
 .refine ak<|aq<|ab 1<|aD 35<|Zi 33 35 [0,1] ?_;obtain ⟨x1,Z3⟩:=Zs ls k om;refine dx 2 (Zl none (k:Int) 1<|Y3 Z3)<|Zi 30 32 [3,4]<|dw 5 (Yg ps)<|da 6 (((ps.length:Int)-1)) (((ps.length:Int))-(1))<|Z9 7<|Yu 7 [] [] [] (Q5 x1 0 ((ps.length:Int)-1))<|Zi 25 27 [8,9] (db (b:=(!(decide (0<=x1/\x1<=((ps.length:Int)-1))))) 21 (fun Zb=>?_) fun Zb=>?_)
  .have ZX:¬(0<=x1/\x1<=((ps.length:Int)-1)):=((Yp dq)).1 Zb;refine Zi 0 25 [10,11,12,13,14,15,16,17,18,19,20,21,22,23,24,25,26,27,28,29,30,31,32,33,34]<|de<|Wc<|ZB ?_;rw [Yc Z3] at Zk;exact ZC<|ZW (.b false)<|lb (by have hq:=HD (ps:=ps) (v:=x1) (r:=ls.drop (k+1)) (prev:=if k=0 then none else ls[k-1]?);rw [<-Zk,hq];rintro ⟨q1,q2,q3⟩;first|omega|(rw [hps] at q2;exact q2<|Ys some om)|(have:=q3 _ (by rw [Z8 om,hls]);omega))
  have Yf:¬(¬(0<=x1/\x1<=((ps.length:Int)-1))):=Y8 (Yp dq) Zb;refine Zi 22 25 [10,11,12]<|dx 13 (Zl none (k:Int) 1<|Y3 Z3)<|Zi 20 21 [14] ?_;obtain ⟨x2,Zr⟩:=Zs ps x1.toNat om;have hps:=Zr;refine dx 15 (Zl none x1 1<|Y3 Zr)<|Zi 15 19 [16,17,18,19] (db (b:=(x2==0)) 31 (fun ZE=>?_) fun ZE=>?_)
  .have YK:x2=0:=(Zq).1 ZE;refine Zi 0 15 [20,21,22,23,24,25,26,27,28,29,30,31,32,33,34]<|de<|Wc<|ZB ?_;rw [Yc Z3] at Zk;exact ZC<|ZW (.b false)<|lb (by have hq:=HD (ps:=ps) (v:=x1) (r:=ls.drop (k+1)) (prev:=if k=0 then none else ls[k-1]?);rw [<-Zk,hq];rintro ⟨q1,q2,q3⟩;first|omega|(rw [hps] at q2;exact q2<|Ys some om)|(have:=q3 _ (by rw [Z8 om,hls]);omega))
  have YW:¬(x2=0):=Y8 Zq ZE;refine Zi 12 15 [20,21,22] (db (b:=(decide ((k:Int)>0))) 34 (fun Yx=>?_) fun Yx=>?_)
  .have Xl:(k:Int)>0:=(dq).1 Yx;refine Zi 10 12 [23,24]<|dx 25 (Zl none (k:Int) 1<|Y3 Z3)<|Zi 6 9 [26,27,28]<|da 29 (((k-1:Nat):Int)) (((k:Int))-(1)) ?_;obtain ⟨x3,YG⟩:=Zs ls (k-1) om;have hls:=YG;refine dx 30 (Zl none ((k-1:Nat):Int) 1<|Y3 YG)<|Zi 0 4 [31,32,33,34]<|de (XK (x1<=x3) (fun Zf=>?_) fun Zf=>?_)
   .refine ZB ?_;rw [Yc Z3] at Zk;exact ZC<|ZW (.b false)<|lb (by have hq:=HD (ps:=ps) (v:=x1) (r:=ls.drop (k+1)) (prev:=if k=0 then none else ls[k-1]?);rw [<-Zk,hq];rintro ⟨q1,q2,q3⟩;first|omega|(rw [hps] at q2;exact q2<|Ys some om)|(have:=q3 _ (by rw [Z8 om,hls]);omega))
   refine ak<|az<|Z1 1<|ZI k<|Z0 ?_;have hl1:ls[k+1-1]? = some x1:=Z3;have hlc:(0<=x1/\x1<=(ps.length:Int)-1)/\ps[x1.toNat]?≠some 0/\(∀p,(if k=0 then none else ls[k-1]?)=some p->p<x1):=⟨by omega,by rw [hps];intro q;cases q;omega,fun p hp=>by first|(rw [Z8 om,hls] at hp;cases hp;omega)|(rw [Zg om] at hp;cases hp)⟩;have hdr:=Yc Z3;exact ZK ⟨k+1,ob,(by have hq:=MR (r:=ls.drop (k+1)) hlc;rw [hdr,hq] at Zk;rw [Z8 om,hl1];exact Zk),rfl,rfl,rfl⟩<|wk []<|ZM k fl
  have XS:¬((k:Int)>0):=Y8 dq Yx;refine Zi 0 12 [23,24,25,26,27,28,29,30,31,32,33,34]<|de<|Ww<|ak<|az<|Z1 1<|ZI k<|Z0 ?_;have hl1:ls[k+1-1]? = some x1:=Z3;have hlc:(0<=x1/\x1<=(ps.length:Int)-1)/\ps[x1.toNat]?≠some 0/\(∀p,(if k=0 then none else ls[k-1]?)=some p->p<x1):=⟨by omega,by rw [hps];intro q;cases q;omega,fun p hp=>by first|(rw [Z8 om,hls] at hp;cases hp;omega)|(rw [Zg om] at hp;cases hp)⟩;have hdr:=Yc Z3;exact ZK ⟨k+1,ob,(by have hq:=MR (r:=ls.drop (k+1)) hlc;rw [hdr,hq] at Zk;rw [Z8 om,hl1];exact Zk),rfl,rfl,rfl⟩<|wk []<|ZM k fl
 refine ax 0 (ZB ?_)
 try rw [Xk (xs:=ls) (k:=k) om] at Zk
 exact ZC<|ZW (.b true)<|lb<|by first|rfl|omega|grind [Kl]
def Zm8 (n:Zm) (hz:Ja n.decls:=by exact ob) (hr:∀r∈n.2,r.1.length<=4194304/\r.2.length<=4194304):Zj 106 [Yq n] [] (Yr<|.b<|VV n):=by
 have hzl:=hz.len;refine ZF 35 Tryz.func106<|ar (iA (YI n) fun b1=>Z0<|Yh 2 [0]<|iw (U1 n.2)<|Xu [1] [(13,.b ((decide ((n.2.length:Int)>4))||(!J6 n.1 (n.2.map UN))))] (fun gz=>gz) ?_ ?_)
 .refine Z1 2 (ib (b:=(decide ((n.2.length:Int)>4))) 8 (fun Zb=>?_) fun Zb=>?_)
  .have ZX:(n.2.length:Int)>4:=(dq).1 Zb;exact Z0<|wk [0]<|Zu true Zb fl
  have Yf:¬((n.2.length:Int)>4):=Y8 dq Zb;exact ZL 1 [0]<|Zx [] (Zlx n)<|Zx [] (Zm9 n.1 (n.2.map UN) (hf:=(by intro f hf;obtain ⟨r,h1,rfl⟩:=XG.1 hf;exact (hr r h1).1)))<|Z0<|wk [0]<|Zu (!J6 n.1 (n.2.map UN)) Zb fl
 refine ac ((decide ((n.2.length:Int)>4))||(!J6 n.1 (n.2.map UN))) (p:=((n.2.length:Int)>4)∨(¬(J6 n.1 (n.2.map UN)=true))) (Yi dq<|Yp Iff.rfl) (fun Za=>?_) fun Za=>?_
 .exact ar<|Zp<|ZW (.b false)<|lb<|by first|rfl|omega|grind [VV]
 refine ak<|Yj<|ab 0<|Y2 (fun fz gz m F h=>∃(k:Nat),(k<=n.2.length)/\(Kb (n.2.drop k)=Kb n.2)/\F=sF [1] fz [(3,.i k)]/\h=gz/\m=n.2.length-k) _ _ _ ⟨0,ob,ob,U,U,U⟩ (wk [0]<|Y7 fl) ?_;rintro m F h ⟨k,Ye,Zk,rfl,rfl,rfl⟩;refine Yh 3 [0]<|iw (U1 n.2) (Y4 ((k:Int)<(n.2.length:Int)) (fun Zf=>?_) fun Zf=>?_)
 .refine ak<|aq<|ab 1<|aD 14<|ZJ 11 14 [0,1,2] [0] ?_;obtain ⟨x1,Z3⟩:=Zs n.2 k om;refine dx 3 (Zl none (k:Int) 5<|WG Z3)<|ZJ 5 10 [4,5,6,7,8] [0]<|dx 9 (Zl none (k:Int) 5<|WG Z3)<|Zi 2 4 [10,11]<|Z9 12<|Yu 12 [] [] [] (Zm7 x1.1 x1.2 (hl_ps:=(by have:=hr _ (Y0 Z3);omega)) (hl_ls:=(by have:=hr _ (Y0 Z3);omega)))<|Zi 0 1 [13]<|de (ac (!Ab x1.1 x1.2) (p:=¬(Ab x1.1 x1.2=true)) (Yp Iff.rfl) (fun ZA=>?_) fun ZA=>?_)
  .refine ZB ?_;rw [Yc Z3] at Zk;exact ZC<|ZW (.b false)<|lb (by clear Z3;first|rfl|omega|grind [Kb,VV])
  refine ak<|az<|Z1 1<|ZI k<|Z0 ?_;have hdr:=Yc Z3;exact ZK ⟨k+1,ob,(by rw [hdr] at Zk;clear hdr Z3;grind [Kb]),rfl,rfl,rfl⟩<|wk [0]<|ZM k fl
 refine ax 0 (ZB ?_)
 try rw [Xk (xs:=n.2) (k:=k) om] at Zk
 exact ZC<|ZW (.b true)<|lb<|by first|rfl|omega|grind [Kb,VV]
def A3 (op:Int) :Zj 77 [.i op] [] (Yr<|.b<|XV op):=by
 exact ZF 5 Tryz.func77<|ZB<|Y5 1<|Zx [] (Q5 op 0 11)<|Zp<|ZW (.b<|decide (0<=op/\op<=11))<|lb<|by first|rfl|omega|grind [XV]
def Zln (op:Int) :Zj 177 [.i op] [] (Yr<|.b<|VT op):=by
 refine ZF 21 Tryz.func177<|ZB<|ar (XD 6 [0] [(8,.b ((op==0)||(op==6)))] (fun gz=>gz) ?_ fun hj1=>?_)
 .refine XD 10 [0] [(12,.b (((op==0)||(op==6))||(op==8)))] (fun gz=>gz) ?_ fun hj2=>?_
  .refine XD 14 [0] [(16,.b ((((op==0)||(op==6))||(op==8))||(op==9)))] (fun gz=>gz) ?_ fun hj3=>?_
   .refine XD 18 [] [(20,.b (((((op==0)||(op==6))||(op==8))||(op==9))||(op==10)))] (fun gz=>gz) ?_ fun hj4=>?_
    .exact Zp<|ZW (.b (((((op==0)||(op==6))||(op==8))||(op==9))||(op==10)))<|lb (by rw [VT];simp only [Bool.or_assoc])
    refine Z1 1 (ib (b:=((((op==0)||(op==6))||(op==8))||(op==9))) 17 (fun Zb=>?_) fun Zb=>?_)
    .exact Z1 3<|Yt (wk []<|Zu true Zb fl) hj4
    exact Z1 3<|Yt (wk []<|Zu (op==10) Zb fl) hj4
   refine Z1 1 (ib (b:=(((op==0)||(op==6))||(op==8))) 13 (fun ZE=>?_) fun ZE=>?_)
   .exact Z1 3<|Yt (wk []<|Zu true ZE fl) hj3
   exact Z1 3<|Yt (wk []<|Zu (op==9) ZE fl) hj3
  refine Z1 1 (ib (b:=((op==0)||(op==6))) 9 (fun Yx=>?_) fun Yx=>?_)
  .exact Z1 3<|Yt (wk []<|Zu true Yx fl) hj2
  exact Z1 3<|Yt (wk []<|Zu (op==8) Yx fl) hj2
 refine Z1 3 (ib (b:=(op==0)) 5 (fun Xa=>?_) fun Xa=>?_)
 .exact Z1 3<|Yt (wk []<|Zu true Xa fl) hj1
 exact Z1 3<|Yt (wk []<|Zu (op==6) Xa fl) hj1
def Cz (us args tys:LI) (hl_us:us.length<=4294967296:=by exact ob) (hl_args:args.length<=4294967296:=by exact ob) (hl_tys:tys.length<=4294967296:=by exact ob):Zj 179 [Z5 us,Z5 args,Z5 tys] [] (Yr<|.b<|Wh us args tys):=by
 refine ZF 42 Tryz.func179<|ZB<|YE 1<|iw (Yg args)<|Z1 1<|iw (Yg tys) (YH ((args.length:Int) != (tys.length:Int)) Yb (fun Za=>?_) fun Za=>?_)
 .exact ar<|Zp<|ZW (.b false)<|lb (Oa om).symm
 refine ak<|Yj<|ab 0<|Y2 (fun fz gz m F h=>∃(k:Nat),(k<=args.length)/\(TJ us (args.drop k) (tys.drop k)=Wh us args tys)/\F=sF [0,1,2] fz [(7,.i k)]/\h=gz/\m=args.length-k) _ _ _ ⟨0,ob,ob,U,U,U⟩ (wk []<|Y7 fl) ?_;rintro m F h ⟨k,Ye,Zk,rfl,rfl,rfl⟩;refine YE 2<|iw (Yg args) (Y4 ((k:Int)<(args.length:Int)) (fun Zf=>?_) fun Zf=>?_)
 .refine ak<|aq<|ab 1<|aD 23<|Zi 21 23 [0,1] ?_;obtain ⟨x1,Z3⟩:=Zs args k om;refine dx 2 (Zl none (k:Int) 1<|Y3 Z3)<|Zi 18 20 [3,4]<|dw 5 (Yg us)<|da 6 (((us.length:Int)-1)) (((us.length:Int))-(1))<|Z9 7<|Yu 7 [] [] [] (Q5 x1 0 ((us.length:Int)-1))<|Zi 13 15 [8,9] (db (b:=(!(decide (0<=x1/\x1<=((us.length:Int)-1))))) 28 (fun Zb=>?_) fun Zb=>?_)
  .have ZX:¬(0<=x1/\x1<=((us.length:Int)-1)):=((Yp dq)).1 Zb;refine Zi 0 13 [10,11,12,13,14,15,16,17,18,19,20,21,22]<|de<|Wc<|ZB ?_;obtain ⟨y,hy⟩:=Zs tys k om;exact ZC<|ZW (.b false)<|lb (by rw [<-Zk];exact (Z5d Z3 hy<|by rw [Je ZX];simp).symm)
  have Yf:¬(¬(0<=x1/\x1<=((us.length:Int)-1))):=Y8 (Yp dq) Zb;refine Zi 10 13 [10,11,12]<|dx 13 (Zl none (k:Int) 1<|Y3 Z3)<|Zi 8 9 [14] ?_;obtain ⟨x2,Zr⟩:=Zs us x1.toNat om;refine dx 15 (Zl none x1 1<|Y3 Zr)<|Zi 4 7 [16,17,18] ?_;obtain ⟨x3,YG⟩:=Zs tys k om;refine dx 19 (Zl none (k:Int) 1<|Y3 YG)<|Zi 0 3 [20,21,22]<|de (ac (x2 != x3) Yb (fun ZA=>?_) fun ZA=>?_)
  .exact ar<|Zp<|ZW (.b false)<|lb (by rw [<-Zk];exact (Z5d Z3 YG<|by rw [Qx om Zr];simpa using ZA).symm)
  refine ak<|az<|Z1 1<|ZI k<|Z0 ?_;have hdr:=Yc Z3;exact ZK ⟨k+1,ob,(by rw [<-Zk];exact (Znl Z3 YG<|by rw [Qx om Zr];congr 1;omega).symm),rfl,rfl,rfl⟩<|wk []<|ZM k fl
 exact ax 0<|ar<|Zp<|ZW (.b true)<|lb (by rw [<-Zk];exact (Znj om om).symm)
def Zm6 (us:LI) (s:Z4) (hl_us:us.length<=4294967296:=by exact ob):Zj 178 [Z5 us,YL s] [] (Yr<|.b<|U9 us s.op s.into):=by
 refine ZF 27 Tryz.func178<|ar (iA (Xp s) fun b1=>Z0<|X6<|U6 [0] (ac (s.into==0) Zq (fun Za=>?_) fun Za=>?_))
 .exact ar<|Zp<|ZW (.b true)<|lb<|by rw [U9,Zg Za]
 refine ak<|ar (XD 10 [0,3] [(17,.b ((s.op==6)&&(decide (1<=s.into/\s.into<=(us.length:Int)))))] (fun gz=>gz) ?_ fun hj1=>?_)
 .refine Z1 1 (ib (b:=((s.op==6)&&(decide (1<=s.into/\s.into<=(us.length:Int))))) 18 (fun Zb=>?_) fun Zb=>?_)
  .have ZX:(s.op=6)/\(1<=s.into/\s.into<=(us.length:Int)):=((YN Zq dq)).1 Zb;refine ZL 3 [0]<|ia ((s.into-1)) ((s.into)-(1)) ?_;obtain ⟨x1,Z3⟩:=Zs us ((s.into-1).toNat) om;exact Zo (Zl none (s.into-1) 1<|Y3 Z3)<|Zp<|ZW (.b<|decide (x1>0))<|lb (by rw [U9,Z8 Za];first|(rw [Zg om,Qx om Z3];rfl)|(rw [Zg om,Je om];rfl)|(rw [Z8 om])|(by_cases q:s.op=6;rw [Zg q,Je om];rfl;rw [Z8 q]))
  have Yf:¬((s.op=6)/\(1<=s.into/\s.into<=(us.length:Int))):=Y8 (YN Zq dq) Zb;exact Zp<|ZW (.b false)<|lb (by rw [U9,Z8 Za];first|(rw [Zg om,Qx om Z3];rfl)|(rw [Zg om,Je om];rfl)|(rw [Z8 om])|(by_cases q:s.op=6;rw [Zg q,Je om];rfl;rw [Z8 q]))
 refine ZL 4 [0] (ib (b:=(s.op==6)) 11 (fun ZE=>?_) fun ZE=>?_)
 .have YK:s.op=6:=(Zq).1 ZE;exact ZL 3 [0]<|iw (Yg us)<|Zx [] (Q5 s.into 1 (us.length:Int))<|Z1 1<|Yt (wk [0]<|Zu (decide (1<=s.into/\s.into<=(us.length:Int))) ZE fl) hj1
 have YW:¬(s.op=6):=Y8 Zq ZE;exact Z1 6<|Yt (wk [0]<|Zu false ZE fl) hj1
def Zlv (n:Zm) (us:LI) (s:Z4) (hn:YZ n:=by exact ob) (hl_us:us.length<=4294967296:=by exact ob) (ha:s.args.length<=1000000000:=by exact ob):Zj 181 [Yq n,Z5 us,YL s] [] (Yr<|.i<|UM n us s.op s.num s.args):=by
 have hrl:=hn.len;have hdl:=hn.decls.len;refine ZF 69 Tryz.func181<|ar (iA (YI n) fun b1=>iA (Xp s) fun b2=>Z0<|Yh 4 [0,1]<|iw (U1 n.2)<|ia (((n.2.length:Int)-1)) (((n.2.length:Int))-(1))<|Zx [] (Q5 s.num 0 ((n.2.length:Int)-1)) (YH (!(decide (0<=s.num/\s.num<=((n.2.length:Int)-1)))) (p:=¬(0<=s.num/\s.num<=((n.2.length:Int)-1))) (Yp dq) (fun Za=>?_) fun Za=>?_))
 .exact ar<|Zp<|ZW (.i (-1))<|li (Zji om).symm
 refine ak<|Zt 4 [1,0] ?_;obtain ⟨x1,Z3⟩:=Zs n.2 s.num.toNat om;have hrp:=hn.params_at Z3;have hrt:=hn.lent_at Z3;have hre:UM n us s.op s.num s.args=Jw n.1 us s.op s.args x1:=Zjg om Z3;refine Zo (Zl none s.num 5<|WG Z3)<|Z1 1 (iA [nl,nl,.i 0,nl,.i 0] fun b3=>ZD 0 b3 (Qg x1)<|ie<|Zt 2 [0]<|iw (Yg x1.1)<|Z0<|X6<|U6 [1] (ac (s.op==9) Zq (fun Zf=>?_) fun Zf=>?_))
 .refine Yh 5 [1,0]<|Zx [] (Cz us s.args x1.1) (YH (!Wh us s.args x1.1) (p:=¬(Wh us s.args x1.1=true)) (Yp Iff.rfl) (fun ZA=>?_) fun ZA=>?_)
  .exact ar<|Zp<|ZW (.i (-1))<|li (by clear Z3;first|rfl|omega|grind [Jw,JM])
  exact ak<|Bn [0]<|ZC<|ZW (.i x1.result)<|li (by clear Z3;first|rfl|omega|grind [Jw,JM])
 refine ak<|aq<|aD 20<|AH [3,7,8] [(57,.b (((x1.1.length:Int)==0)||((decide ((x1.2.length:Int)>0))||(!Wh us s.args (x1.1.take (x1.1.length-1))))))] (fun gz=>gz) ?_ ?_
 .refine Zi 17 20 [0,1,2] (db (b:=((x1.1.length:Int)==0)) 40 (fun Zb=>?_) fun Zb=>?_)
  .have ZX:(x1.1.length:Int)=0:=(Zq).1 Zb;exact Zi 0 17 [3,4,5,6,7,8,9,10,11,12,13,14,15,16,17,18,19]<|de<|ZH 3<|Zu true Zb fl
  have Yf:¬((x1.1.length:Int)=0):=Y8 Zq Zb;refine ZJ 15 17 [3,4] [0]<|dw 5 (Yg x1.2)<|Zi 11 14 [6,7,8] (db (b:=(decide ((x1.2.length:Int)>0))) 46 (fun ZE=>?_) fun ZE=>?_)
  .have YK:(x1.2.length:Int)>0:=(dq).1 ZE;exact Zi 0 11 [9,10,11,12,13,14,15,16,17,18,19]<|de<|ZH 3<|Zu true (And.intro Zb ZE) fl
  have YW:¬((x1.2.length:Int)>0):=Y8 dq ZE;exact ZJ 5 11 [9,10,11,12,13,14] [1,0]<|da 15 (((x1.1.length-1:Nat):Int)) (((x1.1.length:Int))-(1))<|dx 16 (JC (es:=Z7 x1.1) (hv:=none) (l:=0) (m:=((x1.1.length-1:Nat):Int)) (sz:=1) (es':=Z7 (x1.1.take (x1.1.length-1))) kr om (by simp<;>omega) (by simp<;>omega) (YJ _)<|by first|(simp only [Ua,VP,An,Bi];done)|(simp only [Ua,VP,An,Bi];rfl)|(simp [An,Bi];done))<|Z9 17<|Yu 17 [] [] [] (Cz us s.args<|x1.1.take (x1.1.length-1))<|Zi 0 2 [18,19]<|de<|ZH 3<|Zu (!Wh us s.args (x1.1.take (x1.1.length-1))) (And.intro Zb ZE) fl
 refine ac (((x1.1.length:Int)==0)||((decide ((x1.2.length:Int)>0))||(!Wh us s.args (x1.1.take (x1.1.length-1))))) (p:=((x1.1.length:Int)=0)∨(((x1.2.length:Int)>0)∨(¬(Wh us s.args (x1.1.take (x1.1.length-1))=true)))) (Yi Zq<|Yi dq<|Yp Iff.rfl) (fun Ym=>?_) fun Ym=>?_
 .exact ar<|Zp<|ZW (.i (-1))<|li (by clear Z3;first|rfl|omega|grind [Jw,JM])
 refine ak<|aD 12<|ZJ 7 12 [0,1,2,3,4] [2,0]<|da 5 (((x1.1.length-1:Nat):Int)) (((x1.1.length:Int))-(1)) ?_;obtain ⟨x2,Zr⟩:=Zs x1.1 (x1.1.length-1) om;have hgl:=S7 Zr;exact dx 6 (Zl none ((x1.1.length-1:Nat):Int) 1<|Y3 Zr)<|ZJ 2 5 [7,8,9] [0]<|Z9 10<|Yu 10 [] [] [] (Z46 n.1 x2 x1.result)<|Zi 0 1 [11]<|de<|ZC<|ZW (.i<|UP n.1 x2 x1.result)<|li (by clear Z3 Zr;first|rfl|omega|grind [Jw,JM])
def Zli (n:Zm) (us:LI) (s:Z4) (hn:YZ n:=by exact ob) (hl_us:us.length<=4294967296:=by exact ob) (ha:s.args.length<=1000000000:=by exact ob):Zj 183 [Yq n,Z5 us,YL s] [] (Yr<|.i<|QU n.1 us s.op s.args):=by
 have Xz:=hn.decls;refine ZF 52 Tryz.func183<|ar (iA (YI n) fun b1=>iA (Xp s) fun b2=>Z0<|Yh 2 [0]<|iw (Yg s.args)<|Z1 2 (ib (b:=((s.args.length:Int) != 1)) 11 (fun Zb=>?_) fun Zb=>?_))
 .have ZX:(s.args.length:Int)≠1:=(Yb).1 Zb;exact Z0<|Wc<|ar<|Zp<|ZW (.i (-1))<|li (by first|assumption|omega|rfl|(rw [DK om])|(rw [DL (JL om Z3) om])|(rw [DJ (JL om Z3) om Zr];clear Z3 Zr;grind))
 have Yf:¬((s.args.length:Int)≠1):=Y8 Yb Zb;refine ZL 2 [0] ?_;obtain ⟨x1,Z3⟩:=Zs s.args 0 om;refine Zo (Zl none 0 1<|Y3 Z3)<|Z1 2<|iw (Yg us)<|ia (((us.length:Int)-1)) (((us.length:Int))-(1))<|Zx [] (Q5 x1 0 ((us.length:Int)-1))<|Z1 3 (ib (b:=(!(decide (0<=x1/\x1<=((us.length:Int)-1))))) 22 (fun ZE=>?_) fun ZE=>?_)
 .have YK:¬(0<=x1/\x1<=((us.length:Int)-1)):=((Yp dq)).1 ZE;exact Z0<|Wc<|ar<|Zp<|ZW (.i (-1))<|li (by first|assumption|omega|rfl|(rw [DK om])|(rw [DL (JL om Z3) om])|(rw [DJ (JL om Z3) om Zr];clear Z3 Zr;grind))
 have YW:¬(¬(0<=x1/\x1<=((us.length:Int)-1))):=Y8 (Yp dq) ZE;refine ZL 3 [0]<|Zo (Zl none 0 1<|Y3 Z3)<|Z1 1 ?_;obtain ⟨x2,Zr⟩:=Zs us x1.toNat om;refine Zo (Zl none x1 1<|Y3 Zr) (YH (x2==0) Zq (fun Za=>?_) fun Za=>?_)
 .exact ar<|Zp<|ZW (.i (-1))<|li (by first|assumption|omega|rfl|(rw [DK om])|(rw [DL (JL om Z3) om])|(rw [DJ (JL om Z3) om Zr];clear Z3 Zr;grind))
 refine ak<|aq<|aD 20<|AH [] [(51,.b ((s.op != 14)&&((s.op != 15)&&Wd n.1 x2)))] (fun gz=>gz) ?_ ?_
 .refine ZJ 16 20 [0,1,2,3] [0] (db (b:=(s.op != 14)) 35 (fun Yx=>?_) fun Yx=>?_)
  .have Xl:s.op≠14:=(Yb).1 Yx;refine ZJ 11 16 [4,5,6,7,8] [0] (db (b:=(s.op != 15)) 40 (fun Xa=>?_) fun Xa=>?_)
   .have XS:s.op≠15:=(Yb).1 Xa;exact ZJ 6 11 [9,10,11,12,13] [1,0]<|dx 14 (Zl none 0 1<|Y3 Z3)<|Zi 4 5 [15]<|dx 16 (Zl none x1 1<|Y3 Zr)<|Zi 2 3 [17]<|Z9 18<|Yu 18 [] [] [] (G3 n.1 x2 (hd:=(by first|assumption|omega|rfl|(rw [DK om])|(rw [DL (JL om Z3) om])|(rw [DJ (JL om Z3) om Zr];clear Z3 Zr;grind))))<|Zi 0 1 [19]<|de<|wk [0,0]<|Zu (Wd n.1 x2) (And.intro Yx Xa) fl
   have Wv:¬(s.op≠15):=Y8 Yb Xa;exact Zi 0 11 [9,10,11,12,13,14,15,16,17,18,19]<|de<|wk [0,0]<|Zu false (And.intro Yx Xa) fl
  have WS:¬(s.op≠14):=Y8 Yb Yx;exact Zi 0 16 [4,5,6,7,8,9,10,11,12,13,14,15,16,17,18,19]<|de<|wk [0,0]<|Zu false Yx fl
 refine ac ((s.op != 14)&&((s.op != 15)&&Wd n.1 x2)) (p:=(s.op≠14)/\((s.op≠15)/\(Wd n.1 x2=true))) (YN Yb<|YN Yb Iff.rfl) (fun Zf=>?_) fun Zf=>?_
 .exact ar<|Zp<|ZW (.i (-1))<|li (by first|assumption|omega|rfl|(rw [DK om])|(rw [DL (JL om Z3) om])|(rw [DJ (JL om Z3) om Zr];clear Z3 Zr;grind))
 exact ak<|ar<|Zp<|ZW (.i 0)<|li (by first|assumption|omega|rfl|(rw [DK om])|(rw [DL (JL om Z3) om])|(rw [DJ (JL om Z3) om Zr];clear Z3 Zr;grind))
def Z4c (n:Zm) (us:LI) (s:Z4) (hn:YZ n:=by exact ob) (hop:s.op=7∨s.op=8:=by exact ob) (hb:us.length+4*s.sz<=1000000000:=by exact ob) (ih:∀(b:Z6) (us:LI),(b.sz<s.sz)->(us.length+4*b.sz<=1000000000)->Zj 108 [Yq n,Z5 us,ZV b] [] (Yr<|.i<|YY n us b)):Zj 180 [Yq n,Z5 us,YL s] [] (Yr<|.i<|Qe n us s.op s.num s.kids):=by
 have Xz:=hn.decls;have hkz:=T6 s;refine ZF 71 Tryz.func180<|ar (iA (YI n) fun b1=>iA (Xp s) fun b2=>Z0<|Zt 4 [1,0]<|ic [] (AW n.1 s.num) ?_);rintro _ _ ⟨v1,rfl,rfl⟩;refine Z0<|Y5 1<|io (.i (((Y1 n.1 s.num).length:Nat):Int)) (.i (((Z7<|Y1 n.1 s.num).length:Nat):Int)) (li<|by rw [Yg])<|Z0<|X6<|U6 [1]<|XY (fun fz gz F h=>F=sF [1,3,5] fz [(7,Z5<|Y1 n.1 s.num),(8,.i (((Xi n.1 s.op s.num).length:Nat):Int))]/\h=[Ze gz 1,Ze gz 2]) ?_ ?_
 .refine ac (s.op==7) Zq (fun Za=>?_) fun Za=>?_
  .exact TD<|ZU ⟨rfl,rfl⟩<|wk [1,1]<|fc (x:=ZT (Y1 n.1 s.num) v1) (Zd.forget _ _)<|fc (x:=.i 2) (li<|by rw [Xi,Zg Za];rfl) fl
  exact ak<|ZU ⟨rfl,rfl⟩<|wk [1,1]<|fc (x:=ZT (Y1 n.1 s.num) v1) (Zd.forget _ _)<|fc (x:=.i (((Y1 n.1 s.num).length:Nat):Int)) (li<|by rw [Xi,Z8 Za,Qq]) fl
 rintro F h ⟨rfl,rfl⟩;refine X6 (Xu [1,3,5,7,8] [(31,.b (((((Xi n.1 s.op s.num).length:Nat):Int)==0)||((s.kids.length:Int) != (((Xi n.1 s.op s.num).length:Nat):Int))))] (fun gz=>gz) ?_ ?_)
 .refine Z1 3 (ib (b:=((((Xi n.1 s.op s.num).length:Nat):Int)==0)) 25 (fun Zb=>?_) fun Zb=>?_)
  .exact Z0<|wk [0,0]<|Zu true Zb fl
  exact ZL 2 [0]<|iw (U0 s.kids)<|Z0<|wk [0,0]<|Zu ((s.kids.length:Int) != (((Xi n.1 s.op s.num).length:Nat):Int)) Zb fl
 refine ac (((((Xi n.1 s.op s.num).length:Nat):Int)==0)||((s.kids.length:Int) != (((Xi n.1 s.op s.num).length:Nat):Int))) (p:=((((Xi n.1 s.op s.num).length:Nat):Int)=0)∨((s.kids.length:Int)≠(((Xi n.1 s.op s.num).length:Nat):Int))) (Yi Zq Yb) (fun Zf=>?_) fun Zf=>?_
 .exact ar<|Zp<|ZW (.i (-1))<|li<|by rw [Qe,Zg om]
 refine ak<|ZB<|Yj<|ab 0<|Y2 (fun fz gz m F h=>∃(k:Nat) (t:Int),(k<=s.kids.length)/\(W6 n us (s.kids.drop k) ((Xi n.1 s.op s.num).drop k) (decide (k=0)) t=W6 n us s.kids (Xi n.1 s.op s.num) true 0)/\F=sF [1,3,5,7,8] fz [(9,.i t),(10,.i k)]/\h=gz/\m=s.kids.length-k) _ _ _ ⟨0,0,ob,(by rfl),rfl,rfl,rfl⟩ (wk [0,0]<|fr<|Y7 fl) ?_;rintro m F h ⟨k,t,Ye,Zk,rfl,rfl,rfl⟩;refine X6 (Y4 ((k:Int)<(((Xi n.1 s.op s.num).length:Nat):Int)) (fun ZA=>?_) fun ZA=>?_)
 .refine ak<|aq<|ab 1<|ZB<|X6<|U6 [0]<|XY (fun fz gz F h=>∃(m:LI),((Xi n.1 s.op s.num)[k]? = some m)/\F=sF [1,3,5,7,8,9,10] fz [(11,Z5 (us++m))]/\h=gz) ?_ ?_
  .refine ac (s.op==8) Zq (fun Ym=>?_) fun Ym=>?_
   .refine aE 10<|ZJ 5 10 [0,1,2,3,4] [1] ?_;obtain ⟨x1,Z3⟩:=Zs (Y1 n.1 s.num) k (by rw [Xi,Z8 om,Qq] at ZA;omega);refine dx 5 (Zl none (k:Int) 1<|Y3 Z3)<|Zi 3 4 [6]<|Z9 7<|Yu 7 [] [] [] (Jz n.1 x1)<|Z9 8<|dc 8 [] [] [] (J2 us (ZZ n.1 x1) (hl:=(by have:=Uw Xz x1;omega))) ?_;rintro _ _ ⟨v2,rfl,rfl⟩;exact Zi 0 1 [9]<|de<|ZU ⟨(ZZ n.1 x1),(by rw [show s.op=8 from Ym];exact Z72 Z3),rfl,rfl⟩<|wk [1,1] fl
   exact ak<|ZU ⟨[],(by rw [Xi,Zg om];have:k=0∨k=1:=(by rw [Xi,Zg om] at ZA;simp at ZA;omega);rcases this with rfl|rfl<;>rfl),rfl,rfl⟩<|wk [0,0]<|fc (x:=Z5 us) (Zd.sl _<|Ys Z7<|by simp) fl
  rintro F h ⟨m,KS,rfl,rfl⟩;refine aD 9 (ZJ 4 9 [0,1,2,3,4] [1,0] ?_);obtain ⟨x2,Zr⟩:=Zs s.kids k om;have hks:=T5 Zr;have hm3:=EQ Xz KS;refine dx 5 (Zl none (k:Int) 2 (Ux Zr)) (Zi 2 3 [6] (Z9 7 (Yu 7 [] [] [] (ih x2 (us++m) ob (by simp only [Yy];omega)) (Zi 0 1 [8] (de (X6 (Xu [1,3,5,7,8,10,12] [(68,.b ((decide ((YY n (us++m) x2)<0))||((decide ((k:Int)>0))&&((YY n (us++m) x2) != t))))] (fun gz=>gz) ?_ ?_)))))))
  .refine Z1 3 (ib (b:=(decide ((YY n (us++m) x2)<0))) 60 (fun ZE=>?_) fun ZE=>?_)
   .exact Z0<|wk [0,0]<|Zu true ZE fl
   refine Z1 3 (ib (b:=(decide ((k:Int)>0))) 63 (fun Yx=>?_) fun Yx=>?_)
   .exact Z0<|wk [0,0]<|Zu ((YY n (us++m) x2) != t) (And.intro ZE Yx) fl
   exact Z0<|wk [0,0]<|Zu false (And.intro ZE Yx) fl
  refine ac ((decide ((YY n (us++m) x2)<0))||((decide ((k:Int)>0))&&((YY n (us++m) x2) != t))) (p:=((YY n (us++m) x2)<0)∨(((k:Int)>0)/\((YY n (us++m) x2)≠t))) (Yi dq<|YN dq Yb) (fun Xm=>?_) fun Xm=>?_
  .exact ar<|Zp<|ZW (.i (-1))<|li (by rw [Qe,Z8 om,<-Zk];exact (Z04 Zr KS Xm).symm)
  exact ak<|TD<|az<|Z1 1<|ZI k<|Z0<|ZK ⟨k+1,YY n (us++m) x2,ob,(by rw [<-Zk];exact (Z06 Zr KS Xm).symm),rfl,rfl,rfl⟩<|wk [0,0]<|fr<|ZM k fl
 exact ax 0<|ar<|Zp<|ZW (.i t)<|li (by rw [Qe,Z8 om,<-Zk];exact (Z05 om).symm)
def Z4h (n:Zm) (us:LI) (s:Z4) (hn:YZ n:=by exact ob) (hb:us.length+4*s.sz<=1000000000:=by exact ob) (ih:∀(b:Z6) (us:LI),(b.sz<s.sz)->(us.length+4*b.sz<=1000000000)->Zj 108 [Yq n,Z5 us,ZV b] [] (Yr<|.i<|YY n us b)):Zj 130 [Yq n,Z5 us,YL s] [] (Yr<|.i<|Y6 n us s):=by
 have Xz:=hn.decls;have hkz:=T6 s;have haz:=Qw s;have hdl:=Xz.len;have hst:=Av n us s;refine ZF 183 Tryz.func130<|ar (iA (YI n) fun b1=>iA (Xp s) fun b2=>Z0<|X6 (XD 9 [1,3,5] [(16,.b ((s.num != 0)&&(!VT s.op)))] (fun gz=>gz) ?_ fun hj1=>?_))
 .refine XD 15 [1,3,5] [(22,.b (((s.num != 0)&&(!VT s.op))||(!U9 us s.op s.into)))] (fun gz=>gz) ?_ fun hj2=>?_
  .refine Xu [1,3,5] [(38,.b ((((s.num != 0)&&(!VT s.op))||(!U9 us s.op s.into))||((decide ((s.kids.length:Int)>0))&&((s.op != 7)&&(s.op != 8)))))] (fun gz=>gz) ?_ ?_
   .refine Z1 1 (ib (b:=(((s.num != 0)&&(!VT s.op))||(!U9 us s.op s.into))) 23 (fun Zb=>?_) fun Zb=>?_)
    .have ZX:((s.num≠0)/\(¬(VT s.op=true)))∨(¬(U9 us s.op s.into=true)):=((Yi (YN Yb<|Yp Iff.rfl)<|Yp Iff.rfl)).1 Zb;exact Z0<|wk [0,0]<|Zu true Zb fl
    have Yf:¬(((s.num≠0)/\(¬(VT s.op=true)))∨(¬(U9 us s.op s.into=true))):=Y8 (Yi (YN Yb<|Yp Iff.rfl)<|Yp Iff.rfl) Zb;refine ZL 2 [0]<|iw (U0 s.kids)<|Z1 2 (ib (b:=(decide ((s.kids.length:Int)>0))) 28 (fun ZE=>?_) fun ZE=>?_)
    .have YK:(s.kids.length:Int)>0:=(dq).1 ZE;refine ZL 5 [0] (ib (b:=(s.op != 7)) 33 (fun Yx=>?_) fun Yx=>?_)
     .have YW:s.op≠7:=(Yb).1 Yx;exact U6 [0]<|wk [0,0]<|Zu (s.op != 8) (And.intro Zb<|And.intro ZE Yx) fl
     have Xl:¬(s.op≠7):=Y8 Yb Yx;exact Z0<|wk [0,0]<|Zu false (And.intro Zb<|And.intro ZE Yx) fl
    have XS:¬((s.kids.length:Int)>0):=Y8 dq ZE;exact Z0<|wk [0,0]<|Zu false (And.intro Zb ZE) fl
   refine ac ((((s.num != 0)&&(!VT s.op))||(!U9 us s.op s.into))||((decide ((s.kids.length:Int)>0))&&((s.op != 7)&&(s.op != 8)))) (p:=(((s.num≠0)/\(¬(VT s.op=true)))∨(¬(U9 us s.op s.into=true)))∨(((s.kids.length:Int)>0)/\((s.op≠7)/\(s.op≠8)))) (Yi (Yi (YN Yb<|Yp Iff.rfl)<|Yp Iff.rfl)<|YN dq<|YN Yb Yb) (fun Za=>?_) fun Za=>?_
   .exact ar<|Zp<|ZW (.i (-1))<|li (by first|rfl|( grind)|(have q:=Tz (ds:=n.1) (us:=us) (args:=s.args) om; grind)|(have q:=TA (ds:=n.1) (us:=us) (args:=s.args) om ‹s.args[0]? = some _› om; grind)|(have q:=Tg (ds:=n.1) (us:=us) (args:=s.args) om ‹s.args[0]? = some _› om ‹us[_]? = some _›; grind))
   refine ak<|X6<|U6 [0]<|ab 0<|ar (YH (s.op==0) Zq (fun Zf=>?_) fun Zf=>?_)
   .refine Zt 2 [0]<|iw (Yg s.args)<|Xu [] [(51,.b (((s.args.length:Int)==0)&&(decide ((-999)<=s.num/\s.num<=999))))] (fun gz=>gz) ?_ ?_
    .refine Z1 2 (ib (b:=((s.args.length:Int)==0)) 47 (fun Xa=>?_) fun Xa=>?_)
     .have Wv:(s.args.length:Int)=0:=(Zq).1 Xa;exact ZL 2 [0]<|Zx [] (Q5 s.num (-999) 999)<|Z0<|wk [0,0]<|Zu (decide ((-999)<=s.num/\s.num<=999)) Xa fl
     have WS:¬((s.args.length:Int)=0):=Y8 Zq Xa;exact Z0<|wk [0,0]<|Zu false Xa fl
    refine ac (((s.args.length:Int)==0)&&(decide ((-999)<=s.num/\s.num<=999))) (p:=((s.args.length:Int)=0)/\((-999)<=s.num/\s.num<=999)) (YN Zq dq) (fun ZA=>?_) fun ZA=>?_
    .exact ar<|Zp<|ZW (.i 0)<|li (by first|rfl|( grind)|(have q:=Tz (ds:=n.1) (us:=us) (args:=s.args) om; grind)|(have q:=TA (ds:=n.1) (us:=us) (args:=s.args) om ‹s.args[0]? = some _› om; grind)|(have q:=Tg (ds:=n.1) (us:=us) (args:=s.args) om ‹s.args[0]? = some _› om ‹us[_]? = some _›; grind))
    exact ak<|ar<|Zp<|ZW (.i (-1))<|li (by first|rfl|( grind)|(have q:=Tz (ds:=n.1) (us:=us) (args:=s.args) om; grind)|(have q:=TA (ds:=n.1) (us:=us) (args:=s.args) om ‹s.args[0]? = some _› om; grind)|(have q:=Tg (ds:=n.1) (us:=us) (args:=s.args) om ‹s.args[0]? = some _› om ‹us[_]? = some _›; grind))
   refine Yj<|XY (fun fz gz F h=>F=sF [1,3,5,40] fz [(52,.b ((s.op==1)||((s.op==2)||((s.op==3)||(s.op==4)))))]/\h=gz) ?_ ?_
   .refine ac (s.op==1) Zq (fun Ym=>?_) fun Ym=>?_
    .exact ak<|ZU ⟨rfl,rfl⟩<|wk [0,0]<|fc (x:=.b (s.op==1)) (lb<|by first|rfl|(rw [Zg Ym])|(rw [Z8 Ym])|(simp [Ym];done)|(rw [XE];simp [Ym];done)|omega) fl
    refine ar (YH (s.op==2) Zq (fun Xm=>?_) fun Xm=>?_)
    .exact ak<|ZU ⟨rfl,rfl⟩<|wk [0,0]<|fc (x:=.b (s.op==2)) (lb<|by first|rfl|(rw [Zg Ym])|(rw [Z8 Ym])|(simp [Ym,Xm];done)|(rw [XE];simp [Ym,Xm];done)|omega) fl
    refine ar (YH (s.op==3) Zq (fun Xs=>?_) fun Xs=>?_)
    .exact ak<|ZU ⟨rfl,rfl⟩<|wk [0,0]<|fc (x:=.b (s.op==3)) (lb<|by first|rfl|(rw [Zg Ym])|(rw [Z8 Ym])|(simp [Ym,Xm,Xs];done)|(rw [XE];simp [Ym,Xm,Xs];done)|omega) fl
    exact TD<|ZU ⟨rfl,rfl⟩<|wk [0,0]<|fc (x:=.b (s.op==4)) (lb<|by first|rfl|(rw [Zg Ym])|(rw [Z8 Ym])|(simp [Ym,Xm,Xs];done)|(rw [XE];simp [Ym,Xm,Xs];done)|omega) fl
   rintro F h ⟨rfl,rfl⟩;refine ac ((s.op==1)||((s.op==2)||((s.op==3)||(s.op==4)))) (p:=(s.op=1)∨((s.op=2)∨((s.op=3)∨(s.op=4)))) (Yi Zq (Yi Zq (Yi Zq Zq))) (fun Ul=>?_) fun Ul=>?_
   .refine Zt 3 [0] (iL (Z7 [0,0]) 2 1 fun v1=>ZY 0 [(60,Z5 [0,0])]<|Zx [] (Cz us s.args [0,0] (hl_tys:=(by first|(simp;done)|(have:=Uw Xz s.num;omega))))<|ie (ac (Wh us s.args [0,0]) Iff.rfl (fun Uc=>?_) fun Uc=>?_))
    .exact ar<|Zp<|ZW (.i 0)<|li (by first|rfl|( grind)|(have q:=Tz (ds:=n.1) (us:=us) (args:=s.args) om; grind)|(have q:=TA (ds:=n.1) (us:=us) (args:=s.args) om ‹s.args[0]? = some _› om; grind)|(have q:=Tg (ds:=n.1) (us:=us) (args:=s.args) om ‹s.args[0]? = some _› om ‹us[_]? = some _›; grind))
    exact ak<|ar<|Zp<|ZW (.i (-1))<|li (by first|rfl|( grind)|(have q:=Tz (ds:=n.1) (us:=us) (args:=s.args) om; grind)|(have q:=TA (ds:=n.1) (us:=us) (args:=s.args) om ‹s.args[0]? = some _› om; grind)|(have q:=Tg (ds:=n.1) (us:=us) (args:=s.args) om ‹s.args[0]? = some _› om ‹us[_]? = some _›; grind))
   refine ar (YH (s.op==5) Zq (fun Ud=>?_) fun Ud=>?_)
   .refine Zt 3 [0] (iL (Z7 [0]) 1 1 fun v2=>ZY 0 [(67,Z5 [0])]<|Zx [] (Cz us s.args [0] (hl_tys:=(by first|(simp;done)|(have:=Uw Xz s.num;omega))))<|ie (ac (Wh us s.args [0]) Iff.rfl (fun Qc=>?_) fun Qc=>?_))
    .exact ar<|Zp<|ZW (.i 0)<|li (by first|rfl|( grind)|(have q:=Tz (ds:=n.1) (us:=us) (args:=s.args) om; grind)|(have q:=TA (ds:=n.1) (us:=us) (args:=s.args) om ‹s.args[0]? = some _› om; grind)|(have q:=Tg (ds:=n.1) (us:=us) (args:=s.args) om ‹s.args[0]? = some _› om ‹us[_]? = some _›; grind))
    exact ak<|ar<|Zp<|ZW (.i (-1))<|li (by first|rfl|( grind)|(have q:=Tz (ds:=n.1) (us:=us) (args:=s.args) om; grind)|(have q:=TA (ds:=n.1) (us:=us) (args:=s.args) om ‹s.args[0]? = some _› om; grind)|(have q:=Tg (ds:=n.1) (us:=us) (args:=s.args) om ‹s.args[0]? = some _› om ‹us[_]? = some _›; grind))
   refine ar (YH (s.op==6) Zq (fun Ao=>?_) fun Ao=>?_)
   .refine aD 17<|ZJ 13 17 [0,1,2,3] [1,0]<|Z9 4<|Yu 4 [] [] [] (NT n.1 s.num)<|AH [3,5] [(87,.b ((decide ((Wx n.1 s.num)>0))&&Wh us s.args (ZZ n.1 s.num)))] (fun gz=>gz) ?_ ?_
    .refine Zi 10 12 [5,6] (db (b:=(decide ((Wx n.1 s.num)>0))) 77 (fun WI=>?_) fun WI=>?_)
     .have Vu:(Wx n.1 s.num)>0:=(dq).1 WI;exact ZJ 3 10 [7,8,9,10,11,12,13] [0,1,0]<|Z9 14<|Yu 14 [] [0] [b2] (Jz n.1 s.num (hd:=Xz))<|Z9 15<|Yu 15 [] [] [] (Cz us s.args (ZZ n.1 s.num) (hl_tys:=(by first|(simp;done)|(have:=Uw Xz s.num;omega))))<|Zi 0 1 [16]<|de<|wk [0,0]<|Zu (Wh us s.args<|ZZ n.1 s.num) WI fl
     have T4:¬((Wx n.1 s.num)>0):=Y8 dq WI;exact Zi 0 10 [7,8,9,10,11,12,13,14,15,16]<|de<|wk [0,0]<|Zu false WI fl
    refine ac ((decide ((Wx n.1 s.num)>0))&&Wh us s.args (ZZ n.1 s.num)) (p:=((Wx n.1 s.num)>0)/\(Wh us s.args (ZZ n.1 s.num)=true)) (YN dq Iff.rfl) (fun QB=>?_) fun QB=>?_
    .exact Zt 4 [1,0]<|Zx [] (NT n.1 s.num)<|Zp<|ZW (.i<|Wx n.1 s.num)<|li (by first|rfl|( grind)|(have q:=Tz (ds:=n.1) (us:=us) (args:=s.args) om; grind)|(have q:=TA (ds:=n.1) (us:=us) (args:=s.args) om ‹s.args[0]? = some _› om; grind)|(have q:=Tg (ds:=n.1) (us:=us) (args:=s.args) om ‹s.args[0]? = some _› om ‹us[_]? = some _›; grind))
    exact ak<|ar<|Zp<|ZW (.i (-1))<|li (by first|rfl|( grind)|(have q:=Tz (ds:=n.1) (us:=us) (args:=s.args) om; grind)|(have q:=TA (ds:=n.1) (us:=us) (args:=s.args) om ‹s.args[0]? = some _› om; grind)|(have q:=Tg (ds:=n.1) (us:=us) (args:=s.args) om ‹s.args[0]? = some _› om ‹us[_]? = some _›; grind))
   refine ar (YH (s.op==7) Zq (fun JX=>?_) fun JX=>?_)
   .refine Zt 3 [0] (iL (Z7 [0]) 1 1 fun v3=>ZY 0 [(98,Z5 [0])]<|Zx [] (Cz us s.args [0] (hl_tys:=(by first|(simp;done)|(have:=Uw Xz s.num;omega))))<|ie (ac (Wh us s.args [0]) Iff.rfl (fun D8=>?_) fun D8=>?_))
    .exact Zt 3 [2,1]<|Zx [] (Z4c n us s (ih:=ob))<|Zp<|ZW (.i<|Qe n us s.op s.num s.kids)<|li (by first|rfl|( grind)|(have q:=Tz (ds:=n.1) (us:=us) (args:=s.args) om; grind)|(have q:=TA (ds:=n.1) (us:=us) (args:=s.args) om ‹s.args[0]? = some _› om; grind)|(have q:=Tg (ds:=n.1) (us:=us) (args:=s.args) om ‹s.args[0]? = some _› om ‹us[_]? = some _›; grind))
    exact ak<|ar<|Zp<|ZW (.i (-1))<|li (by first|rfl|( grind)|(have q:=Tz (ds:=n.1) (us:=us) (args:=s.args) om; grind)|(have q:=TA (ds:=n.1) (us:=us) (args:=s.args) om ‹s.args[0]? = some _› om; grind)|(have q:=Tg (ds:=n.1) (us:=us) (args:=s.args) om ‹s.args[0]? = some _› om ‹us[_]? = some _›; grind))
   refine ar (YH (s.op==8) Zq (fun Mj=>?_) fun Mj=>?_)
   .refine Zt 5 [0,0] (iL (Z7 [s.num]) 1 1 fun v4=>ZY 0 [(111,Z5 [s.num])]<|Zx [] (Cz us s.args [s.num] (hl_tys:=(by first|(simp;done)|(have:=Uw Xz s.num;omega))))<|ie (ac (Wh us s.args [s.num]) Iff.rfl (fun Mk=>?_) fun Mk=>?_))
    .exact Zt 3 [2,1]<|Zx [] (Z4c n us s (ih:=ob))<|Zp<|ZW (.i<|Qe n us s.op s.num s.kids)<|li (by first|rfl|( grind)|(have q:=Tz (ds:=n.1) (us:=us) (args:=s.args) om; grind)|(have q:=TA (ds:=n.1) (us:=us) (args:=s.args) om ‹s.args[0]? = some _› om; grind)|(have q:=Tg (ds:=n.1) (us:=us) (args:=s.args) om ‹s.args[0]? = some _› om ‹us[_]? = some _›; grind))
    exact ak<|ar<|Zp<|ZW (.i (-1))<|li (by first|rfl|( grind)|(have q:=Tz (ds:=n.1) (us:=us) (args:=s.args) om; grind)|(have q:=TA (ds:=n.1) (us:=us) (args:=s.args) om ‹s.args[0]? = some _› om; grind)|(have q:=Tg (ds:=n.1) (us:=us) (args:=s.args) om ‹s.args[0]? = some _› om ‹us[_]? = some _›; grind))
   refine Yj<|XY (fun fz gz F h=>F=sF [1,3,5,40] fz [(117,.b ((s.op==9)||(s.op==10)))]/\h=gz) ?_ ?_
   .refine ac (s.op==9) Zq (fun Ap=>?_) fun Ap=>?_
    .exact ak<|ZU ⟨rfl,rfl⟩<|wk [0,0]<|fc (x:=.b (s.op==9)) (lb<|by first|rfl|(rw [Zg Ap])|(rw [Z8 Ap])|(simp [Ap];done)|(rw [XE];simp [Ap];done)|omega) fl
    exact TD<|ZU ⟨rfl,rfl⟩<|wk [0,0]<|fc (x:=.b (s.op==10)) (lb<|by first|rfl|(rw [Zg Ap])|(rw [Z8 Ap])|(simp [Ap];done)|(rw [XE];simp [Ap];done)|omega) fl
   rintro F h ⟨rfl,rfl⟩;refine ac ((s.op==9)||(s.op==10)) (p:=(s.op=9)∨(s.op=10)) (Yi Zq Zq) (fun Zdi=>?_) fun Zdi=>?_
   .exact Zt 3 [1,0]<|Zx [] (Zlv n us s)<|Zp<|ZW (.i<|UM n us s.op s.num s.args)<|li (by first|rfl|( grind)|(have q:=Tz (ds:=n.1) (us:=us) (args:=s.args) om; grind)|(have q:=TA (ds:=n.1) (us:=us) (args:=s.args) om ‹s.args[0]? = some _› om; grind)|(have q:=Tg (ds:=n.1) (us:=us) (args:=s.args) om ‹s.args[0]? = some _› om ‹us[_]? = some _›; grind))
   refine ar (YH (s.op==11) Zq (fun Zdj=>?_) fun Zdj=>?_)
   .refine aD 26<|ZJ 24 26 [0,1] [0]<|dw 2 (Yg s.args)<|Zi 21 23 [3,4] (db (b:=((s.args.length:Int)==2)) 130 (fun V2=>?_) fun V2=>?_)
    .have Tn:(s.args.length:Int)=2:=(Zq).1 V2;refine ZJ 19 21 [5,6] [0] ?_;obtain ⟨x1,Z3⟩:=Zs s.args 0 om;refine dx 7 (Zl none 0 1<|Y3 Z3)<|Zi 16 18 [8,9]<|dw 10 (Yg us)<|da 11 (((us.length:Int)-1)) (((us.length:Int))-(1))<|Z9 12<|Yu 12 [] [] [] (Q5 x1 0 ((us.length:Int)-1))<|Zi 11 13 [13,14] (db (b:=(decide (0<=x1/\x1<=((us.length:Int)-1)))) 140 (fun Vi=>?_) fun Vi=>?_)
     .have To:0<=x1/\x1<=((us.length:Int)-1):=(dq).1 Vi;refine ZJ 6 11 [15,16,17,18,19] [1,0]<|dx 20 (Zl none 0 1<|Y3 Z3)<|Zi 4 5 [21] ?_;obtain ⟨x2,Zr⟩:=Zs us x1.toNat om;refine dx 22 (Zl none x1 1<|Y3 Zr)<|Zi 2 3 [23]<|Z9 24<|Yu 24 [] [] [] (G3 n.1 x2)<|Zi 0 1 [25]<|de (ac (Wd n.1 x2) Iff.rfl (fun Zdk=>?_) fun Zdk=>?_)
      .refine aD 14<|ZJ 9 14 [0,1,2,3,4] [1,0]<|dx 5 (Zl none 0 1<|Y3 Z3)<|Zi 7 8 [6]<|dx 7 (Zl none x1 1<|Y3 Zr)<|Zi 5 6 [8]<|da 9 ((x2-1)) ((x2)-(1)) (hb:=(by have:=Mx ‹Wd n.1 _=true›;omega)) ?_;obtain ⟨x3,YG⟩:=Zs n.1 ((x2-1).toNat) (by have:=Mx ‹Wd n.1 _=true›;omega);have had:=Z6t (us:=us) (args:=s.args) om ‹s.args[0]? = some _› om ‹us[_]? = some _› ‹Wd n.1 _=true› YG;refine dx 10 (BP (es:=YF n.1) (hv:=none) (j:=(x2-1)) (sz:=3) (y:=Ba x3) kr (by have:=Mx ‹Wd n.1 _=true›;omega) (V6 YG) rfl)<|Zi 2 3 [11]<|Z9 12 (dA 12 [0,1] [b2,b1] [.i 0,.i 0,nl] fun b3=>Z9 13<|YO 13 0 [] [] b3 (Qf x3)<|de<|aD 8<|ZJ 5 8 [0,1,2] [1]<|dx 3 (JC (es:=Z7 s.args) (hv:=none) (l:=1) (m:=(((Z7 s.args).length:Nat):Int)) (sz:=1) (es':=Z7 (s.args.drop 1)) kr om (by simp<;>omega) (by simp<;>omega) (YJ _)<|by first|(simp only [Ua,VP,An,Bi];done)|(simp only [Ua,VP,An,Bi];rfl)|(simp [An,Bi];done))<|ZJ 2 4 [4,5] [0]<|Z9 6 (dL 6 [1] [b2] (Z7 [x3.frm]) 1 1 fun v5=>Yw 1 1 [] [(170,Z5 [x3.frm])]<|Z9 7<|Yu 7 [] [] [] (Cz us (s.args.drop 1) [x3.frm] (hl_tys:=(by first|(simp;done)|(have:=Uw Xz s.num;omega))))<|de (ac (Wh us (s.args.drop 1) [x3.frm]) Iff.rfl (fun Sa=>?_) fun Sa=>?_)))
       .exact Bn [1]<|ZC<|ZW (.i x3.to_)<|li (by first|rfl|(clear Z3 Zr YG;grind)|(have q:=Tz (ds:=n.1) (us:=us) (args:=s.args) om;clear Z3 Zr YG;grind)|(have q:=TA (ds:=n.1) (us:=us) (args:=s.args) om ‹s.args[0]? = some _› om;clear Z3 Zr YG;grind)|(have q:=Tg (ds:=n.1) (us:=us) (args:=s.args) om ‹s.args[0]? = some _› om ‹us[_]? = some _›;clear Z3 Zr YG;grind))
       exact ak<|ar<|Zp<|ZW (.i (-1))<|li (by first|rfl|(clear Z3 Zr YG;grind)|(have q:=Tz (ds:=n.1) (us:=us) (args:=s.args) om;clear Z3 Zr YG;grind)|(have q:=TA (ds:=n.1) (us:=us) (args:=s.args) om ‹s.args[0]? = some _› om;clear Z3 Zr YG;grind)|(have q:=Tg (ds:=n.1) (us:=us) (args:=s.args) om ‹s.args[0]? = some _› om ‹us[_]? = some _›;clear Z3 Zr YG;grind))
      exact ak<|ar<|Zp<|ZW (.i (-1))<|li (by first|rfl|(clear Z3 Zr;grind)|(have q:=Tz (ds:=n.1) (us:=us) (args:=s.args) om;clear Z3 Zr;grind)|(have q:=TA (ds:=n.1) (us:=us) (args:=s.args) om ‹s.args[0]? = some _› om;clear Z3 Zr;grind)|(have q:=Tg (ds:=n.1) (us:=us) (args:=s.args) om ‹s.args[0]? = some _› om ‹us[_]? = some _›;clear Z3 Zr;grind))
     have K7:¬(0<=x1/\x1<=((us.length:Int)-1)):=Y8 dq Vi;exact Zi 0 11 [15,16,17,18,19,20,21,22,23,24,25]<|de<|Ww<|ak<|ar<|Zp<|ZW (.i (-1))<|li (by first|rfl|(clear Z3;grind)|(have q:=Tz (ds:=n.1) (us:=us) (args:=s.args) om;clear Z3;grind)|(have q:=TA (ds:=n.1) (us:=us) (args:=s.args) om ‹s.args[0]? = some _› om;clear Z3;grind)|(have q:=Tg (ds:=n.1) (us:=us) (args:=s.args) om ‹s.args[0]? = some _› om ‹us[_]? = some _›;clear Z3;grind))
    have QJ:¬((s.args.length:Int)=2):=Y8 Zq V2;exact Zi 0 21 [5,6,7,8,9,10,11,12,13,14,15,16,17,18,19,20,21,22,23,24,25]<|de<|Ww<|ak<|ar<|Zp<|ZW (.i (-1))<|li (by first|rfl|( grind)|(have q:=Tz (ds:=n.1) (us:=us) (args:=s.args) om; grind)|(have q:=TA (ds:=n.1) (us:=us) (args:=s.args) om ‹s.args[0]? = some _› om; grind)|(have q:=Tg (ds:=n.1) (us:=us) (args:=s.args) om ‹s.args[0]? = some _› om ‹us[_]? = some _›; grind))
   refine Yj<|XY (fun fz gz F h=>F=sF [1,3,5] fz [(174,.b ((s.op==14)||((s.op==15)||((s.op==16)||(s.op==17)))))]/\h=gz) ?_ ?_
   .refine ac (s.op==14) Zq (fun Qo=>?_) fun Qo=>?_
    .exact ak<|ZU ⟨rfl,rfl⟩<|wk [0,0]<|fc (x:=.b (s.op==14)) (lb<|by first|rfl|(rw [Zg Qo])|(rw [Z8 Qo])|(simp [Qo];done)|(rw [XE];simp [Qo];done)|omega) fl
    refine ar (YH (s.op==15) Zq (fun Bu=>?_) fun Bu=>?_)
    .exact ak<|ZU ⟨rfl,rfl⟩<|wk [0,0]<|fc (x:=.b (s.op==15)) (lb<|by first|rfl|(rw [Zg Qo])|(rw [Z8 Qo])|(simp [Qo,Bu];done)|(rw [XE];simp [Qo,Bu];done)|omega) fl
    refine ar (YH (s.op==16) Zq (fun Fq=>?_) fun Fq=>?_)
    .exact ak<|ZU ⟨rfl,rfl⟩<|wk [0,0]<|fc (x:=.b (s.op==16)) (lb<|by first|rfl|(rw [Zg Qo])|(rw [Z8 Qo])|(simp [Qo,Bu,Fq];done)|(rw [XE];simp [Qo,Bu,Fq];done)|omega) fl
    exact TD<|ZU ⟨rfl,rfl⟩<|wk [0,0]<|fc (x:=.b (s.op==17)) (lb<|by first|rfl|(rw [Zg Qo])|(rw [Z8 Qo])|(simp [Qo,Bu,Fq];done)|(rw [XE];simp [Qo,Bu,Fq];done)|omega) fl
   rintro F h ⟨rfl,rfl⟩;refine ac ((s.op==14)||((s.op==15)||((s.op==16)||(s.op==17)))) (p:=(s.op=14)∨((s.op=15)∨((s.op=16)∨(s.op=17)))) (Yi Zq (Yi Zq (Yi Zq Zq))) (fun Zdl=>?_) fun Zdl=>?_
   .exact Zt 3 [1,0]<|Zx [] (Zli n us s)<|Zp<|ZW (.i<|QU n.1 us s.op s.args)<|li (by first|rfl|( grind)|(have q:=Tz (ds:=n.1) (us:=us) (args:=s.args) om; grind)|(have q:=TA (ds:=n.1) (us:=us) (args:=s.args) om ‹s.args[0]? = some _› om; grind)|(have q:=Tg (ds:=n.1) (us:=us) (args:=s.args) om ‹s.args[0]? = some _› om ‹us[_]? = some _›; grind))
   exact ak<|ar<|Zp<|ZW (.i (-1))<|li (by first|rfl|( grind)|(have q:=Tz (ds:=n.1) (us:=us) (args:=s.args) om; grind)|(have q:=TA (ds:=n.1) (us:=us) (args:=s.args) om ‹s.args[0]? = some _› om; grind)|(have q:=Tg (ds:=n.1) (us:=us) (args:=s.args) om ‹s.args[0]? = some _› om ‹us[_]? = some _›; grind))
  refine Z1 1 (ib (b:=((s.num != 0)&&(!VT s.op))) 17 (fun WX=>?_) fun WX=>?_)
  .have Jp:(s.num≠0)/\(¬(VT s.op=true)):=((YN Yb<|Yp Iff.rfl)).1 WX;exact Z1 5<|Yt (wk [0,0]<|Zu true WX fl) hj2
  have KQ:¬((s.num≠0)/\(¬(VT s.op=true))):=Y8 (YN Yb<|Yp Iff.rfl) WX;exact ZL 2 [0]<|Zx [] (Zm6 us s)<|Z1 2<|Yt (wk [0,0]<|Zu (!U9 us s.op s.into) WX fl) hj2
 refine ZL 4 [0] (ib (b:=(s.num != 0)) 11 (fun VF=>?_) fun VF=>?_)
 .have Bw:s.num≠0:=(Yb).1 VF;exact ZL 2 [0]<|Zx [] (Zln s.op)<|Z1 2<|Yt (wk [0,0]<|Zu (!VT s.op) VF fl) hj1
 have Aq:¬(s.num≠0):=Y8 Yb VF;exact Z1 5<|Yt (wk [0,0]<|Zu false VF fl) hj1
def Zle (n:Zm) (us:LI) (b:Z6) (hn:YZ n:=by exact ob) (hb:us.length+4*b.sz<=1000000000:=by exact ob) (ih:∀(s:Z4) (us:LI),(s.sz<b.sz)->(us.length+4*s.sz<=1000000000)->Zj 130 [Yq n,Z5 us,YL s] [] (Yr<|.i<|Y6 n us s)):Zj 108 [Yq n,Z5 us,ZV b] [] (Yr<|.i<|YY n us b):=by
 have hbz:=U7 b;have hbe:=DD n us b;refine ZF 52 Tryz.func108<|ar (iA (YI n) fun b1=>iA (Xb b) fun b2=>Z0<|Y5 1<|ic [] (UX us) ?_);rintro _ _ ⟨v1,rfl,rfl⟩;refine Z0<|Yj<|ab 0<|Y2 (fun fz gz m F h=>∃(k:Nat) (vs:LI) (v:Value),(k<=b.steps.length)/\(vs.length<=us.length+k)/\(XJ n (b.steps.drop k) vs=XJ n b.steps us)/\F=sF [3,5] fz [(7,ZT vs v),(8,.i k)]/\h=[Ze gz 1,Ze gz 2,.tail v 1]/\m=b.steps.length-k) _ _ _ ⟨0,us,v1,ob,ob,ob,U,U,U⟩ (wk [1,1,0]<|fr<|Y7 fl) ?_;rintro m F h ⟨k,vs,v,Ye,Zk,Zw,rfl,rfl,rfl⟩;refine Yh 3 [0]<|iw (V8 b.steps) (Y4 ((k:Int)<(b.steps.length:Int)) (fun Za=>?_) fun Za=>?_)
 .refine ak<|aq<|ab 1<|aD 9<|ZJ 4 9 [0,1,2,3,4] [1,0] ?_;obtain ⟨x1,Z3⟩:=Zs b.steps k om;have hss:=BQ Z3;refine dx 5 (Zl none (k:Int) 5<|Wi Z3)<|Yw 2 3 [6] [(20,Z5 vs)]<|Z9 7<|Yu 7 [] [] [] (ih x1 vs ob ob)<|Zi 0 1 [8]<|de<|X6 (Y4 ((Y6 n vs x1)<0) (fun Zf=>?_) fun Zf=>?_)
  .refine ZB ?_;rw [Yc Z3] at Zw;exact ZC<|ZW (.i (-1))<|li (by clear Z3;first|rfl|omega|grind [XJ])
  refine ak<|Zt 3 [0]<|Zo (Zl none (k:Int) 5<|Wi Z3)<|Z1 2<|Zx [] (A3 x1.op)<|ie<|Ak (fun fz gz F h=>∃(w:Value),F=sF [3,5,8] fz [(7,ZT (if XV x1.op=true then vs++[Y6 n vs x1] else vs) w)]/\h=[Ze gz 0,Ze gz 1,.tail w 1]) (fun _ _=>rfl) ?_ ?_
  .refine ac (XV x1.op) Iff.rfl (fun ZA=>?_) fun ZA=>?_
   .exact az<|Z1 2 (iL (Z7 [Y6 n vs x1]) 1 1 fun v2=>ZY 0 [(38,Z5 [Y6 n vs x1])] (ip 3 (Z7 (vs++[Y6 n vs x1])) (Z7 vs) (Z7 [Y6 n vs x1]) v none 1 (YJ _) (YJ _) (Wk _) (by simp<;>omega) (by simp [Wj,Z7]) fun v3=>Z0<|ZU ⟨v3,rfl,rfl⟩<|wk [2,2,0]<|fc (x:=ZT (vs++[Y6 n vs x1]) v3) (Zd.slh _<|Ys Z7<|by first|rfl|(rw [Zg ZA])|(rw [Z8 ZA])|(simp [ZA];done)|(rw [XE];simp [ZA];done)|omega) fl))
   exact ak<|ZU ⟨v,rfl,rfl⟩<|ZH 3<|fc (x:=ZT vs v) (Zd.slh _<|Ys Z7<|by first|rfl|(rw [Zg ZA])|(rw [Z8 ZA])|(simp [ZA];done)|(rw [XE];simp [ZA];done)|omega) fl
  rintro F h ⟨w,rfl,rfl⟩;refine az (Z1 1 (ZI k (Z0 ?_)));have hdr:=Yc Z3;exact ZK ⟨k+1,(if XV x1.op=true then vs++[Y6 n vs x1] else vs),w,ob,(by split<;>(try simp)<;>omega),(by rw [hdr] at Zw;clear hdr Z3;grind [XJ]),rfl,rfl,rfl⟩ (ZH 3 (fr (ZM k fl)))
 refine ax 0<|Yh 3 [0]<|iw (Yg vs)<|ia (((vs.length:Int)-1)) (((vs.length:Int))-(1))<|Zx [] (Q5 b.result 0 ((vs.length:Int)-1)) (YH (!(decide (0<=b.result/\b.result<=((vs.length:Int)-1)))) (p:=¬(0<=b.result/\b.result<=((vs.length:Int)-1))) (Yp dq) (fun Ym=>?_) fun Ym=>?_)
 .refine ZB ?_
  try rw [Xk (xs:=b.steps) (k:=k) om] at Zw
  exact ZC<|ZW (.i (-1))<|li (by rw [hbe,<-Zw];show _=(Xq vs b.result).getD (-1);rw [Je Ym];rfl)
 refine ak<|Zt 3 [0] ?_;obtain ⟨x2,Zr⟩:=Zs vs b.result.toNat om;refine Zo (Zl (some v) b.result 1<|Y3 Zr) (Z0 ?_)
 try rw [Xk (xs:=b.steps) (k:=k) om] at Zw
 exact ZC<|ZW (.i x2)<|li (by rw [hbe,<-Zw];show _=(Xq vs b.result).getD (-1);rw [Qx om Zr];rfl)
def Zm2 (b:Z6) (l:Int) (hb:b.sz<=1000000000) (hl:0<=l/\l<=600) (ih:∀(b2:Z6) (l:Int),(b2.sz<b.sz)->(0<=l/\l<=600)->Zj 148 [ZV b2,.i l] [] (Yr<|.i<|Wy b2 l)):Zj 148 [ZV b,.i l] [] (Yr<|.i<|Wy b l):=by
 have hbz:=U7 b;have hbe:=Z0j b l;refine ZF 43 Tryz.func148<|ar (iA (Xb b) fun b1=>?_);refine Z0<|Yj<|ab 0<|Y2 (fun fz gz m F h=>∃(k:Nat) (q:Int),(k<=b.steps.length)/\(0<=q/\q<=600)/\(Uf (b.steps.drop k) q=Uf b.steps l)/\F=sF [2] fz [(1,.i q),(5,.i k)]/\h=gz/\m=b.steps.length-k) _ _ _ ⟨0,l,ob,ob,ob,U,U,U⟩ (wk [0]<|fr<|Y7 fl) ?_;rintro m F h ⟨k,q,Ye,Zk,Zw,rfl,rfl,rfl⟩;refine Yh 3 [0]<|iw (V8 b.steps) (Y4 ((k:Int)<(b.steps.length:Int)) (fun Za=>?_) fun Za=>?_)
 .refine ak<|aq<|ab 1<|X6 (Y4 (q<1) (fun Zf=>?_) fun Zf=>?_)
  .refine ZB ?_
   try rw [Xk (xs:=b.steps) (k:=k) om] at Zw
   obtain ⟨x1,Z3⟩:=Zs b.steps k om;rw [Yc Z3] at Zw;clear Z3;exact ZC (ZW (.i (-1)) (li (by first|rfl|omega|grind [Uf])))
  obtain ⟨s1,hxs1⟩:=Zs b.steps k om;have hss:=A7 hxs1;have hkz:=T6 s1;refine ak (Y5 1 (ia ((q-1)) ((q)-(1)) (Z0 (ZB (ab 2 (Y2 (fun fz gz m F h=>∃(j:Nat) (j2:Int),(j<=s1.kids.length)/\(0<=j2/\j2<=600)/\(Q1 (s1.kids.drop j) j2=Q1 s1.kids (q-1))/\F=sF [2,5] fz [(1,.i j2),(6,.i j)]/\h=gz/\m=s1.kids.length-j) _ _ _ ⟨0,(q-1),ob,ob,ob,U,U,U⟩ (wk [0] (fr (Y7 fl))) ?_))))));rintro m F h ⟨j,j2,VZ,XB,Xw,rfl,rfl,rfl⟩;refine Yh 4 [0] (Zo (Zl none (k:Int) 5 (Wi hxs1)) (Z1 2 (iw (U0 s1.kids) (Y4 ((j:Int)<(s1.kids.length:Int)) (fun ZA=>?_) fun ZA=>?_))))
  .refine ak<|aq<|ab 3<|Zt 3 [0]<|Zo (Zl none (k:Int) 5<|Wi hxs1)<|Z1 3 ?_;obtain ⟨x1,Z3⟩:=Zs s1.kids j om;have hks:=T5 Z3;have hle:=HB.2 x1 j2 om;refine Zo (Zl none (j:Int) 2<|Ux Z3)<|Z1 2<|Zx [] (ih x1 j2 ob ob)<|Z0<|ar (Y4 ((Wy x1 j2)<0) (fun Ym=>?_) fun Ym=>?_)
   .refine ZB ?_;rw [Yc hxs1] at Zw;rw [Yc Z3] at Xw;have hls:=HC s1 (q-1);exact ZC<|ZW (.i (-1))<|li (by clear Z3 hxs1;first|rfl|omega|grind [Uf,Q1])
   refine ak<|az<|Z1 1<|ZI j<|Z0 ?_;have hdr:=Yc Z3;exact ZK ⟨j+1,(Wy x1 j2),ob,ob,(by rw [hdr] at Xw;clear hdr Z3 hxs1;grind [Q1]),rfl,rfl,rfl⟩<|wk [0]<|fr<|ZM j fl
  refine ax 2<|az<|Z1 1<|ZI k<|Z0 ?_;rw [Xk om] at Xw;have hls:=HC s1 (q-1);rw [Q1] at Xw;have hdr:=Yc hxs1;exact ZK ⟨k+1,j2,ob,ob,(by rw [hdr] at Zw;clear hdr hxs1;grind [Uf]),rfl,rfl,rfl⟩<|wk [0]<|fr<|ZM k fl
 refine ax 0 (ZB ?_)
 try rw [Xk (xs:=b.steps) (k:=k) om] at Zw
 exact ZC<|ZW (.i q)<|li<|by first|rfl|omega|grind [Uf]
def Zm1 (b:Z6) (l:Int) (hb:b.sz<=1000000000) (hl:0<=l/\l<=600):Zj 148 [.agg [.sl (Zv b.steps) none,.i b.result],.i l] [] (Yr<|.i<|Wy b l):=by
 have key:∀m:Nat,∀(b:Z6) (l:Int),b.sz<=m->b.sz<=1000000000->(0<=l/\l<=600)->Zj 148 [.agg [.sl (Zv b.steps) none,.i b.result],.i l] [] (Yr<|.i<|Wy b l):=by
  intro m
  induction m with
  | zero=>intro b l h;have:=b.sz_pos;omega
  | succ m ih=>intro b l h1 h2 h3;exact Zm2 b l h2 h3 fun b2 l2 k1 k2=>ih b2 l2 om om k2
 exact key b.sz b l (X8 _) hb hl
def Zld (n:Zm) (hn:YZ n) (m:Nat):∀(b:Z6) (us:LI),(b.sz<=m)->(us.length+4*b.sz<=1000000000)->Zj 108 [Yq n,Z5 us,ZV b] [] (Yr<|.i<|YY n us b):=by
 induction m with
 | zero=>intro b us h;have:=b.sz_pos;omega
 | succ m ih=>intro b us h1 h2;exact Zle n us b hn h2 fun s us2 k1 k2=>Z4h n us2 s hn k2 fun b2 us3 q1 q2=>ih b2 us3 om q2
def Z47 (n:Zm) (us:LI) (b:Z6) (hn:YZ n) (hb:us.length+4*b.sz<=1000000000):Zj 108 [Yq n,Z5 us,ZV b] [] (Yr<|.i<|YY n us b):=
 Zld n hn b.sz b us (X8 _) hb
def NX (n:Zm) (us:LI) (s:Z4) (hn:YZ n) (hb:us.length+4*s.sz<=1000000000):Zj 130 [Yq n,Z5 us,YL s] [] (Yr<|.i<|Y6 n us s):=
 Z4h n us s hn hb fun b2 us3 _ q2=>Z47 n us3 b2 hn q2
def Zm3 (b:Z6) (hb:b.sz<=1000000000:=by exact ob):Zj 107 [ZV b] [] (Yr<|.i<|VG b):=by
 have hle:=HB.2 b 600 om;refine ZF 10 Tryz.func107<|ar (iA (Xb b) fun b1=>Z0<|Zt 1 [0]<|Zx [] (Zm1 b 600 ob ob)<|Z0<|X6 (Y4 ((Wy b 600)<0) (fun Za=>?_) fun Za=>?_))
 .exact ar<|Zp<|ZW (.i (-1))<|li<|by first|rfl|omega|grind [VG]
 exact ak<|Y5 1<|ia ((600-(Wy b 600))) ((600)-(Wy b 600))<|Zp<|ZW (.i (600-(Wy b 600)))<|li<|by first|rfl|omega|grind [VG]
def Bo (z:Int) :Zj 160 [.i z] [] (Yr<|Yd<|Z2.mk 0 z []):=by
 exact ZF 6 Tryz.func160<|ar (iA [.i 0,.i 0,nl] fun b1=>ie<|Y5 1 (iL (YB []) 0 3 fun v1=>Z1 1<|ZD 1 b1 [.i 0,.i z,Km [] v1]<|ie<|ZC<|r3 [] [.agg [.i 0,.i z,Km [] v1]] [0] [(b1,b1)] ⟨U,U⟩<|Zd.agg<|.cons li<|.cons li<|.cons (Zd.sl _<|Ys YB rfl) .nil))
def QZ (z:Int) :Zj 206 [.i z] [] (Yr<|Yd<|Z2.mk 12 z []):=by
 exact ZF 6 Tryz.func206<|ar (iA [.i 0,.i 0,nl] fun b1=>ie<|Y5 1 (iL (YB []) 0 3 fun v1=>Z1 1<|ZD 1 b1 [.i 12,.i z,Km [] v1]<|ie<|ZC<|r3 [] [.agg [.i 12,.i z,Km [] v1]] [0] [(b1,b1)] ⟨U,U⟩<|Zd.agg<|.cons li<|.cons li<|.cons (Zd.sl _<|Ys YB rfl) .nil))
def W5 (op nm:Int) (ks:List Z2) :Zj 204 [.i op,.i nm,XM ks] [] (Yr<|Yd<|Z2.mk op nm ks):=by
 exact ZF 11 Tryz.func204<|ar (iA [.i 0,.i 0,nl] fun b1=>ie<|Y5 4<|ZD 0 b1 [.i op,.i nm,XM ks]<|ie<|ZC<|r3 [] [.agg [.i op,.i nm,XM ks]] [0] [(b1,b1)] ⟨U,U⟩<|Zd.agg<|.cons li<|.cons li<|.cons (Zd.sl _<|Ys YB rfl) .nil)
def S2 (rd:Nat) (bs:LI) (p:Nat) (ZO:∀z∈bs,0<=z/\z<=255) (hp:p+4<=1000000000:=by exact ob):Zj 229 [.p rd 0] [YD rd bs p] (fun r h=>∃(z:Int),r=.i z/\h=[.obj rd [UD bs,.i (p+4:Nat)]]/\-2000<=z/\z<=2000):=by
 refine ZF 12 Tryz.func229<|ZB<|Y5 2<|ic [0] (Wm rd bs p 6 (ZO:=ob)) ?_;rintro _ _ ⟨k1,rfl,rfl,ZX⟩;have qhp1:=ZX.lt om;refine Z1 1<|ic [0] (Wm rd bs (p+1) 6 (ZO:=ob)) ?_;rintro _ _ ⟨k2,rfl,rfl,Yf⟩;have qhp2:=Yf.lt om;refine Z1 1<|ic [0] (Wm rd bs ((p+1)+1) 40 (ZO:=ob)) ?_;rintro _ _ ⟨k3,rfl,rfl,YK⟩;have qhp3:=YK.lt om;refine iL (Z7 [k1,k2,0,1,2,-1,3,k3,999,-998]) 10 1 fun v1=>ZY 0 [(10,Z5 [k1,k2,0,1,2,-1,3,k3,999,-998])]<|ic [1] (UB rd bs (((p+1)+1)+1) [k1,k2,0,1,2,-1,3,k3,999,-998] (ZO:=ob)) ?_
 rintro _ _ ⟨z1,rfl,rfl,YW⟩;exact Zp (r1 [0] ⟨z1,rfl,rfl,(by simp at YW;omega)⟩)
def RQ (g:Wr) (gb:Nat) (rs:List Func) (t:Int) (hg:GP g:=by exact ob) (WL:g.funcs <+: rs:=by exact ob):Zj 237 [.agg (WR g gb),.i t] [W2 gb rs] (fun r h=>∃(xs:LI),r=Z5 xs/\h=[W2 gb rs]/\xs.length<=4/\∀i∈xs,B5 g t i):=by
 have hgl:=hg.len;have hdl:=hg.decls.len;refine ZF 53 Tryz.func237<|ar (iA (WR g gb) fun b1=>Z0<|ar (iL (Z7 []) 0 1 fun v1=>?_));refine Z0<|Yj<|ab 0<|Y2 (fun fz gz m F h=>∃(k:Nat) (ys:LI) (u:Value),(k<=g.funcs.length)/\(ys.length<=k)/\(∀i∈ys,B5 g t i)/\F=sF [1,2] fz [(5,ZT ys u),(6,.i k)]/\h=[Ze gz 1,Ze gz 2,.tail u 1]/\m=g.funcs.length-k) _ _ _ ⟨0,[],v1,ob,ob,(fun i hi=>by cases hi),rfl,rfl,rfl⟩ (wk [1,1,0]<|fr<|Y7 fl) ?_;rintro m F h ⟨k,ys,u,Ye,Zk,Zw,rfl,rfl,rfl⟩;refine Yh 3 [0]<|io (.i g.funcs.length) (.i g.funcs.length) (lr _) (Y4 ((k:Int)<(g.funcs.length:Int)) (fun Za=>?_) fun Za=>?_)
 .refine ak<|aq<|ab 1<|Zt 3 [0] ?_;obtain ⟨x1,Z3⟩:=Zs g.funcs k om;have hso:=(hg.sigs _<|Y0 Z3).bd;refine Zo (W9 gb g.funcs.length 4 k 5 (k:Int))<|Z1 1<|WW (Vj 1 gb 4 4 5 (k*5+0) (Zc<|XC rs) [Z5 x1.params] 31 (Z5 x1.params)<|Tl WL Z3 0 rfl<|Vx rfl)<|iw (Yg x1.params)<|Z0<|aD 25<|Zi 22 25 [0,1,2] (db (b:=(decide ((x1.params.length:Int)>0))) 25 (fun Zb=>?_) fun Zb=>?_)
  .have ZX:(x1.params.length:Int)>0:=(dq).1 Zb;refine ZJ 17 22 [3,4,5,6,7] [0,0]<|dx 8 (W9 gb g.funcs.length 4 k 5 (k:Int))<|Zi 15 16 [9]<|Us 10 (Vj 1 gb 4 4 5 (k*5+0) (Zc<|XC rs) [Z5 x1.params] 31 (Z5 x1.params)<|Tl WL Z3 0 rfl<|Vx rfl)<|Zi 13 14 [11]<|da 12 ((((x1.params.length-1):Nat):Int)) (((x1.params.length:Int))-(1)) ?_;obtain ⟨x2,Zr⟩:=Zs x1.params (x1.params.length-1) om;refine dx 13 (Zl none (((x1.params.length-1):Nat):Int) 1<|Y3 Zr)<|ZJ 7 11 [14,15,16,17] [0]<|dx 18 (W9 gb g.funcs.length 4 k 5 (k:Int))<|Zi 5 6 [19]<|Us 20 (Vj 1 gb 4 4 5 (k*5+1) (Zc<|XC rs) [.i x1.result] 3 (.i x1.result)<|Tl WL Z3 1 rfl<|Vx rfl)<|Zi 3 4 [22]<|Z9 21<|Yu 21 [] [] [] (Z46 g.decls x2 x1.result)<|Zi 0 2 [23,24]<|de (ac ((UP g.decls x2 x1.result)==t) Zq (fun Zf=>?_) fun Zf=>?_)
   .exact az<|Z1 2 (iL (Z7 [(k:Int)]) 1 1 fun v2=>ZY 0 [(50,Z5 [(k:Int)])] (ip 3 (Z7 (ys++[(k:Int)])) (Z7 ys) (Z7 [(k:Int)]) u none 1 (YJ _) (YJ _) (Wk _) (by simp<;>omega) (by simp [Wj,Z7]) fun v3=>Z0<|az<|Z1 1<|ZI k<|Z0<|ZK ⟨k+1,(ys++[(k:Int)]),v3,ob,ob,(XN Zw<|B5.mk Z3 om Zr Zf),rfl,rfl,rfl⟩<|wk [2,2,0]<|fr<|ZM k fl))
   exact ak<|az<|Z1 1<|ZI k<|Z0<|ZK ⟨k+1,ys,u,ob,ob,ob,U,U,U⟩<|ZH 3<|fr<|ZM k fl
  have Yf:¬((x1.params.length:Int)>0):=Y8 dq Zb;exact Zi 0 22 [3,4,5,6,7,8,9,10,11,12,13,14,15,16,17,18,19,20,21,22,23,24]<|de<|Ww<|ak<|az<|Z1 1<|ZI k<|Z0<|ZK ⟨k+1,ys,u,ob,ob,ob,U,U,U⟩<|ZH 3<|fr<|ZM k fl
 exact ax 0<|ar<|Zp<|r2 [1] [ZT ys u] ⟨ys,rfl,rfl,⟨by omega,Zw⟩⟩<|Zd.forget _ _
def Zde (vs:LI) (t:Int) (hv:vs.length<=2000:=by exact ob):Zj 230 [Z5 vs,.i t] [] (fun r h=>∃(xs:LI),r=Z5 xs/\h=[]/\xs.length<=vs.length/\∀i∈xs,0<=i/\i<vs.length):=by
 refine ZF 25 Tryz.func230<|ZB<|ar (iL (Z7 []) 0 1 fun v1=>?_);refine Z0<|Yj<|ab 0<|Y2 (fun fz gz m F h=>∃(k:Nat) (ys:LI) (u:Value),(k<=vs.length)/\(ys.length<=k)/\(∀i∈ys,0<=i/\i<vs.length)/\F=sF [0,1] fz [(5,ZT ys u),(6,.i k)]/\h=[.tail u 1]/\m=vs.length-k) _ _ _ ⟨0,[],v1,ob,ob,(fun i hi=>by cases hi),rfl,rfl,rfl⟩ (wk [0]<|fr<|Y7 fl) ?_;rintro m F h ⟨k,ys,u,Ye,Zk,Zw,rfl,rfl,rfl⟩;refine YE 2<|iw (Yg vs) (Y4 ((k:Int)<(vs.length:Int)) (fun Za=>?_) fun Za=>?_)
 .refine ak<|aq<|ab 1<|Y5 2 ?_;obtain ⟨x1,Z3⟩:=Zs vs k om;refine Zo (Zl none (k:Int) 1<|Y3 Z3) (YH (x1==t) Zq (fun Zf=>?_) fun Zf=>?_)
  .exact az<|Z1 2 (iL (Z7 [(k:Int)]) 1 1 fun v2=>ZY 0 [(22,Z5 [(k:Int)])] (ip 1 (Z7 (ys++[(k:Int)])) (Z7 ys) (Z7 [(k:Int)]) u none 1 (YJ _) (YJ _) (Wk _) (by simp<;>omega) (by simp [Wj,Z7]) fun v3=>Z0<|az<|Z1 1<|ZI k<|Z0<|ZK ⟨k+1,(ys++[(k:Int)]),v3,ob,ob,(XN Zw om),rfl,rfl,rfl⟩<|wk [0]<|fr<|ZM k fl))
  exact ak<|az<|Z1 1<|ZI k<|Z0<|ZK ⟨k+1,ys,u,ob,ob,ob,U,U,U⟩<|wk [0]<|fr<|ZM k fl
 exact ax 0<|ar<|Zp<|r2 [] [ZT ys u] ⟨ys,rfl,rfl,⟨by omega,Zw⟩⟩<|Zd.forget _ _
def H8 (g:Wr) (gb:Nat) (rs:List Func) (vs:LI) (t:Int) (hg:GP g:=by exact ob) (WL:g.funcs <+: rs:=by exact ob) (hv:vs.length<=2000:=by exact ob):Zj 231 [.agg (WR g gb),Z5 vs,.i t] [W2 gb rs] (fun r h=>∃(w:Bool),r=.b w/\h=[W2 gb rs]):=by
 have Xz:=hg.decls.ok;refine ZF 24 Tryz.func231<|ar (iA (WR g gb) fun b1=>Z0<|Zt 3 [0]<|Zx [] (G3 g.decls t)<|Z1 2 (ib (b:=(!Wd g.decls t)) 12 (fun Zb=>?_) fun Zb=>?_))
 .exact Zp<|r1 [1] ⟨true,U,U⟩
 refine ZL 2 [0]<|ic [1] (RQ g gb rs t) ?_;rintro _ _ ⟨xs1,rfl,rfl,YK⟩;have qhp3:=YK.1;refine iw (Yg xs1)<|Z1 3 (ib (b:=(decide ((xs1.length:Int)>0))) 19 (fun ZE=>?_) fun ZE=>?_)
 .exact Zp<|r1 [0] ⟨true,U,U⟩
 exact Z1 2<|Zx [] (Tt vs t)<|Zp<|r1 [0] ⟨(decide (t∈vs)),U,U⟩
def Zd7 (rd:Nat) (bs:LI) (p:Nat) (g:Wr) (gb:Nat) (rs:List Func) (t:Int) (ZO:∀z∈bs,0<=z/\z<=255) (hp:p+5+15*rk t<=1000000000) (hg:GP g) (WL:g.funcs <+: rs) (ih:∀(rd:Nat) (bs:LI) (p:Nat) (t2:Int),(∀z∈bs,0<=z/\z<=255)->(p+5+15*rk t2<=1000000000)->(rk t2<rk t)->Zj 232 [.p rd 0,.agg<|WR g gb,.i t2] [YD rd bs p,W2 gb rs] fun r h=>∃(e:Z2) (p2:Nat),r=Yd e/\h=[YD rd bs p2,W2 gb rs]/\SE g (1+3*rk t2) e/\p<=p2/\p2<=p+5+15*rk t2):Zj 232 [.p rd 0,.agg<|WR g gb,.i t] [YD rd bs p,W2 gb rs] (fun r h=>∃(e:Z2) (p2:Nat),r=Yd e/\h=[YD rd bs p2,W2 gb rs]/\SE g (1+3*rk t) e/\p<=p2/\p2<=p+5+15*rk t):=by
 have Xz:=hg.decls.ok;have hgl:=hg.len;have hrk:=Nu t;refine ZF 118 Tryz.func232<|ar (iA (WR g gb) fun b1=>iA [.i 0,.i 0,nl] fun b2=>ie<|Zt 3 [1]<|ic [] (AW g.decls t) ?_);rintro _ _ ⟨v1,rfl,rfl⟩;refine Z0<|YE 1<|io (.i (((Y1 g.decls t).length:Nat):Int)) (.i (((Z7<|Y1 g.decls t).length:Nat):Int)) (li<|by rw [Yg]) (Y4 ((((Y1 g.decls t).length:Nat):Int)>0) (fun Za=>?_) fun Za=>?_)
 .refine Y5 1 ?_;obtain ⟨x1,Z3⟩:=Zs (Y1 g.decls t) 0 om;refine Zo (Zl (some v1) 0 1<|Y3 Z3)<|Z0<|aq<|aq<|XY (fun fz gz F h=>∃(w1:Bool) (p5:Nat),(w1=true->1<(Y1 g.decls t).length)/\(p<=p5/\p5<=p+1)/\F=sF [0,2,4,6,8] fz [(7,Z5<|Y1 g.decls t),(34,.b w1)]/\h=[Ze gz 1,Ze gz 2,YD rd bs p5,Ze gz 4]) ?_ ?_
  .refine az<|Z1 1<|io (.i (((Y1 g.decls t).length:Nat):Int)) (.i (((Z7<|Y1 g.decls t).length:Nat):Int)) (li<|by rw [Yg])<|Z1 2 (ib (b:=(decide ((((Y1 g.decls t).length:Nat):Int)>1))) 30 (fun Zb=>?_) fun Zb=>?_)
   .have ZX:(((Y1 g.decls t).length:Nat):Int)>1:=(dq).1 Zb;refine Z1 1<|ic [3] (Wm rd bs p 4 (ZO:=ob)) ?_;rintro _ _ ⟨k1,rfl,rfl,Yf⟩;have qhp2:=Yf.lt om;exact Z0<|ZU ⟨(k1==0),p+1,(by first|exact (fun h=>by cases h)|exact fun _=>by omega),ob,rfl,rfl⟩<|wk [2,2,0,1] fl
   have YK:¬((((Y1 g.decls t).length:Nat):Int)>1):=Y8 dq Zb;exact Z0<|ZU ⟨false,p,(by first|exact (fun h=>by cases h)|exact fun _=>by omega),ob,rfl,rfl⟩<|wk [1,1,1,1] fl
  rintro F h ⟨w1,p5,kR4_0,kR4_1,rfl,rfl⟩;refine XY (fun fz gz F h=>∃(c1:Int),(c1∈Y1 g.decls t)/\F=sF [0,2,4,6,7] fz [(8,.i c1)]/\h=gz) ?_ ?_
  .refine ac w1 Iff.rfl (fun Zf=>?_) fun Zf=>?_
   .refine az<|Z1 1 ?_;obtain ⟨x2,Zr⟩:=Zs (Y1 g.decls t) 1 (kR4_0<|by assumption);exact Zo (Zl none 1 1<|Y3 Zr)<|Z0<|ZU ⟨x2,(Y0 Zr),U,U⟩<|ZH 4 fl
   exact ak<|ZU ⟨x1,(Y0 Z3),U,U⟩<|ZH 4 fl
  rintro F h ⟨c1,UC,rfl,rfl⟩;have hcf:=Uw Xz c1;refine Yh 3 [1] (Zx [] (Jz g.decls c1) (Z1 1 (Zx [] (Tt (ZZ g.decls c1) t) (ie (XY (fun fz gz F h=>∃(c2:Int),(C2 g.decls t c2)/\F=sF [0,4,6] fz [(8,.i c2)]/\h=gz) ?_ ?_)))))
  .refine XK (t∈(ZZ g.decls c1)) (fun ZA=>?_) fun ZA=>?_
   .exact az<|Z1 1<|Zo (Zl none 0 1<|Y3 Z3)<|Z0<|ZU ⟨x1,(Zkl hg.decls UC (by assumption) Z3),rfl,rfl⟩<|ZH 4 fl
   exact ak<|ZU ⟨c1,(Zkk hg.decls UC<|by assumption),rfl,rfl⟩<|ZH 4 fl
  rintro F h ⟨c2,Ea,rfl,rfl⟩;obtain ⟨Sa,Qo,Bu⟩:=Ea;refine ar (iL (YB []) 0 3 fun v2=>?_);refine Z0 (Zt 3 [2] (Zx [] (Jz g.decls c2) (Z0 (Yj (ab 0 (Y2 (fun fz gz m F h=>∃(k:Nat) (ys:List Z2) (u:Value) (pq:Nat),(k<=(ZZ g.decls c2).length)/\(ys.length=k)/\(∀e∈ys,SE g 1 e)/\(p<=pq/\pq<=p+1+5*k)/\F=sF [0,4,6,8,10] fz [(9,Km ys u),(11,.i k)]/\h=[Ze gz 1,Ze gz 2,YD rd bs pq,Ze gz 4,.tail u 3]/\m=(ZZ g.decls c2).length-k) _ _ _ ⟨0,[],v2,p5,ob,ob,(fun e he=>by cases he),ob,rfl,rfl,rfl⟩ (wk [1,1,1,1,0] (fr (Y7 fl))) ?_))))));rintro m F h ⟨k,ys,u,pq,Ye,Zk,Zw,Yz,rfl,rfl,rfl⟩;refine YE 2 (io (.i (((ZZ g.decls c2).length:Nat):Int)) (.i (((Z7 (ZZ g.decls c2)).length:Nat):Int)) (li (by rw [Yg])) (Y4 ((k:Int)<(((ZZ g.decls c2).length:Nat):Int)) (fun Ym=>?_) fun Ym=>?_))
  .refine ak<|aq<|ab 1<|aE 11<|ZJ 6 11 [0,1,2,3,4] [1] ?_;obtain ⟨x3,YG⟩:=Zs (ZZ g.decls c2) k om;have hz3:=Z2n (Bu _<|Y0 YG);refine dx 5 (Zl none (k:Int) 1<|Y3 YG)<|Zi 4 5 [6]<|Z9 7<|dc 7 [2,2] [] [] (ih rd bs pq x3 ob ob om) ?_;rintro _ _ ⟨e1,p21,rfl,rfl,YW⟩;have hse:=YW.1;rw [hz3] at hse;exact Z9 8 (V1 8 [] [] [Yd e1] (YB [e1]) (XZ [e1]).symm 1 3 fun v3=>Yw 2 2 [] [(66,XM [e1])]<|Z9 9 (dp 9 5 [] [] (YB (ys++[e1])) (YB ys) (YB [e1]) u none 3 (TS _) (TS _) (AK _) (by simp<;>omega) (by simp [AJ,YB]) fun v4=>Zi 0 1 [10]<|de<|az<|Z1 1<|ZI k<|Z0<|ZK ⟨k+1,(ys++[e1]),v4,p21,ob,ob,(XN Zw hse),ob,rfl,rfl,rfl⟩<|wk [4,4,2,2,0]<|fr<|ZM k fl))
  exact ax 0<|ar<|ZY 2 [(69,XM ys)]<|Zx [] (W5 6 c2 ys)<|ZD 0 b2 (X5<|Z2.mk 6 c2 ys)<|ie<|ZC<|r3 [2,2] [Yd (Z2.mk 6 c2 ys)] [0] [(b2,b2)] ⟨(Z2.mk 6 c2 ys),pq,rfl,rfl,⟨SE.node (k:=3*rk t) (.inl rfl) om Zw om om om,by omega⟩⟩<|lr _
 refine ak<|Zt 2 [2]<|ic [4] (RQ g gb rs t) ?_;rintro _ _ ⟨xs1,rfl,rfl,Xl⟩;have hcl:=Xl.2;have hcn:=Xl.1;refine Z0<|X6<|Xu [0,4,6,12] [(80,.b ((decide (t>0))&&(decide ((xs1.length:Int)>0))))] (fun gz=>gz) ?_ ?_
 .refine Z1 3 (ib (b:=(decide (t>0))) 76 (fun ZE=>?_) fun ZE=>?_)
  .have XS:t>0:=(dq).1 ZE;exact Z1 1<|iw (Yg xs1)<|Z0<|ZH 5<|Zu (decide ((xs1.length:Int)>0)) ZE fl
  have Wv:¬(t>0):=Y8 dq ZE;exact Z0<|ZH 5<|Zu false ZE fl
 refine ac ((decide (t>0))&&(decide ((xs1.length:Int)>0))) (p:=(t>0)/\((xs1.length:Int)>0)) (YN dq dq) (fun Xm=>?_) fun Xm=>?_
 .refine Y5 3<|iw (Yg xs1)<|ic [4] (Wm rd bs p (xs1.length:Int) (ZO:=ob)) ?_;rintro _ _ ⟨k2,rfl,rfl,WS⟩;have qhp8:=WS.lt om;obtain ⟨x4,WM⟩:=Zs xs1 k2.toNat om;have hclo:=hcl _ (Y0 WM);have hcb:=hclo.lt;refine Zo (Zl none k2 1<|Y3 WM)<|Z0<|Zt 3 [4] ?_;obtain ⟨x5,VU⟩:=Zs g.funcs x4.toNat om;have hso:=(hg.sigs _<|Y0 VU).bd;have hr1:=Zja (t:=t) hg.decls om om;have hfu:=VU;refine Zo (W9 gb g.funcs.length 4 x4.toNat 5 x4)<|Z1 1<|WW (Vj 1 gb 4 4 5 (x4.toNat * 5+0) (Zc<|XC rs) [Z5 x5.params] 31 (Z5 x5.params)<|Tl WL VU 0 rfl<|Vx rfl)<|Z0<|ar (iL (YB []) 0 3 fun v5=>?_);refine Z0<|Yj<|ab 2<|Y2 (fun fz gz m F h=>∃(k:Nat) (ys:List Z2) (u:Value) (pq:Nat),(k<=x5.params.length)/\(ys.length=k)/\(∀e∈ys,SE g 1 e)/\(p<=pq/\pq<=p+1+5*k)/\F=sF [0,4,6,13,14] fz [(15,Km ys u),(16,.i k)]/\h=[YD rd bs pq,Ze gz 2,Ze gz 4,Ze gz 5,.tail u 3]/\m=x5.params.length-k) _ _ _ ⟨0,[],v5,p+1,ob,ob,(fun e he=>by cases he),ob,rfl,rfl,rfl⟩ (wk [1,1,2,2,0]<|fr<|Y7 fl) ?_;rintro m F h ⟨k,ys,u,pq,VZ,XB,Xw,Ah,rfl,rfl,rfl⟩;refine YE 1<|ZI k<|Z1 1<|iw (Yg x5.params) (Y4 (((k+1:Nat):Int)<(x5.params.length:Int)) (fun Xs=>?_) fun Xs=>?_)
  .refine ak<|aq<|ab 3<|aE 11<|ZJ 6 11 [0,1,2,3,4] [3] ?_;obtain ⟨x6,Ar⟩:=Zs x5.params k om;have hz3:=hclo.low hg om hfu om Ar;refine dx 5 (Zl none (k:Int) 1<|Y3 Ar)<|Zi 4 5 [6]<|Z9 7<|dc 7 [0,0] [] [] (ih rd bs pq x6 ob ob om) ?_;rintro _ _ ⟨e2,p22,rfl,rfl,Vu⟩;have hse:=Vu.1;rw [hz3] at hse;exact Z9 8 (V1 8 [] [] [Yd e2] (YB [e2]) (XZ [e2]).symm 1 3 fun v6=>Yw 2 2 [] [(110,XM [e2])]<|Z9 9 (dp 9 5 [] [] (YB (ys++[e2])) (YB ys) (YB [e2]) u none 3 (TS _) (TS _) (AK _) (by simp<;>omega) (by simp [AJ,YB]) fun v7=>Zi 0 1 [10]<|de<|az<|Z1 1<|ZI k<|Z0<|ZK ⟨k+1,(ys++[e2]),v7,p22,ob,ob,(XN Xw hse),ob,rfl,rfl,rfl⟩<|wk [2,2,2,2,0]<|fr<|ZM k fl))
  exact ax 2<|ar<|ZY 2 [(113,XM ys)]<|Zx [] (W5 10 x4 ys)<|ZD 2 b2 (X5<|Z2.mk 10 x4 ys)<|ie<|ZC<|r3 [1,1] [Yd (Z2.mk 10 x4 ys)] [0] [(b2,b2)] ⟨(Z2.mk 10 x4 ys),pq,rfl,rfl,⟨SE.node (k:=3) (.inr rfl) om Xw om om om,by omega⟩⟩<|lr _
 refine ak<|Y5 1<|ic [4] (S2 rd bs p (ZO:=ob)) ?_;rintro _ _ ⟨z1,rfl,rfl,T4⟩;exact Zx [] (Bo z1)<|ZD 3 b2 (X5<|Z2.mk 0 z1 [])<|ie<|ZC<|r3 [1,1] [Yd (Z2.mk 0 z1 [])] [0] [(b2,b2)] ⟨(Z2.mk 0 z1 []),p+4,rfl,rfl,⟨SE.int om om,by omega⟩⟩<|lr _
def Zd6 (rd:Nat) (bs:LI) (p:Nat) (g:Wr) (gb:Nat) (rs:List Func) (t:Int) (ZO:∀z∈bs,0<=z/\z<=255) (hp:p+5+15*rk t<=1000000000:=by exact ob) (hg:GP g:=by exact ob) (WL:g.funcs <+: rs:=by exact ob):Zj 232 [.p rd 0,.agg<|WR g gb,.i t] [YD rd bs p,W2 gb rs] (fun r h=>∃(e:Z2) (p2:Nat),r=Yd e/\h=[YD rd bs p2,W2 gb rs]/\SE g (1+3*rk t) e/\p<=p2/\p2<=p+5+15*rk t):=by
 have key:∀k:Nat,∀(rd:Nat) (bs:LI) (p:Nat) (t2:Int),(∀z∈bs,0<=z/\z<=255)->(p+5+15*rk t2<=1000000000)->(rk t2<k)->Zj 232 [.p rd 0,.agg<|WR g gb,.i t2] [YD rd bs p,W2 gb rs] (fun r h=>∃(e:Z2) (p2:Nat),r=Yd e/\h=[YD rd bs p2,W2 gb rs]/\SE g (1+3*rk t2) e/\p<=p2/\p2<=p+5+15*rk t2):=by
  intro k
  induction k with
  | zero=>intro rd bs p t2 h1 h2 h3;omega
  | succ k ih=>intro rd bs p t2 h1 h2 h3;exact Zd7 rd bs p g gb rs t2 h1 h2 hg WL fun rd bs p t3 q1 q2 q3=>ih rd bs p t3 q1 q2 om
 exact key 2 rd bs p t ZO hp (by have:=Nu t;omega)
def DY (rd:Nat) (bs:LI) (p:Nat) (g:Wr) (gb:Nat) (rs:List Func) (vs:LI) (t:Int) (ZO:∀z∈bs,0<=z/\z<=255) (hp:p+30<=1000000000:=by exact ob) (hg:GP g:=by exact ob) (WL:g.funcs <+: rs:=by exact ob) (hv:vs.length<=2000:=by exact ob):Zj 207 [.p rd 0,.agg<|WR g gb,Z5 vs,.i t] [YD rd bs p,W2 gb rs] (fun r h=>∃(e:Z2) (p2:Nat),r=Yd e/\h=[YD rd bs p2,W2 gb rs]/\GE g vs.length 4 e/\p<=p2/\p2<=p+30):=by
 have hrk:=Nu t;refine ZF 40 Tryz.func207<|ar (iA (WR g gb) fun b1=>iA [.i 0,.i 0,nl] fun b2=>ie<|Y5 2<|ic [] (Zde vs t) ?_);rintro _ _ ⟨xs1,rfl,rfl,ZX⟩;have hxs:=ZX;refine Z0<|aq<|aq<|XY (fun fz gz F h=>∃(wb:Bool) (p5:Nat),(wb=true->0<xs1.length)/\(p<=p5/\p5<=p+1)/\F=sF [0,3,5,8,9] fz [(27,.b wb)]/\h=[Ze gz 0,Ze gz 1,YD rd bs p5,Ze gz 3]) ?_ ?_
 .refine az<|Z1 1<|iw (Yg xs1)<|Z1 2 (ib (b:=(decide ((xs1.length:Int)>0))) 16 (fun Zb=>?_) fun Zb=>?_)
  .have Yf:(xs1.length:Int)>0:=(dq).1 Zb;refine Z1 1<|ic [2] (Wm rd bs p 6 (ZO:=ob)) ?_;rintro _ _ ⟨k1,rfl,rfl,YK⟩;have qhp3:=YK.lt om;refine Z1 2 (ib (b:=(decide (k1>0))) 20 (fun ZE=>?_) fun ZE=>?_)
   .have YW:k1>0:=(dq).1 ZE;exact Z0<|ZU ⟨true,p+1,(by first|exact (fun h=>Bool.noConfusion h)|exact fun _=>by omega),ob,rfl,rfl⟩<|wk [1,1,0,0] fl
   have Xl:¬(k1>0):=Y8 dq ZE;refine ZL 1 [2] (iL (Z7 []) 0 1 fun v1=>ZY 1 [(22,Z5 [])]<|ic [4] (H8 g gb rs [] t) ?_);rintro _ _ ⟨w1,rfl,rfl⟩;exact Z0<|ZU ⟨(!w1),p+1,(by first|exact (fun h=>Bool.noConfusion h)|exact fun _=>by omega),ob,rfl,rfl⟩<|wk [3,3,2,0] fl
  have XS:¬((xs1.length:Int)>0):=Y8 dq Zb;exact Z0<|ZU ⟨false,p,(by first|exact (fun h=>Bool.noConfusion h)|exact fun _=>by omega),ob,rfl,rfl⟩<|ZH 4 fl
 rintro F h ⟨wb,p5,kR2_0,kR2_1,rfl,rfl⟩;refine ac wb Iff.rfl (fun Za=>?_) fun Za=>?_
 .have hk0:=kR2_0 Za;refine Y5 3<|iw (Yg xs1)<|ic [2] (Wm rd bs p5 (xs1.length:Int) (ZO:=ob)) ?_;rintro _ _ ⟨k2,rfl,rfl,Wv⟩;have qhp7:=Wv.lt om;obtain ⟨x1,Z3⟩:=Zs xs1 k2.toNat om;have hxv:=hxs.2 _ (Y0 Z3);exact Zo (Zl none k2 1<|Y3 Z3)<|Z1 1<|Zx [] (QZ x1)<|ZD 1 b2 (X5<|Z2.mk 12 x1 [])<|ie<|ZC<|r3 [1,2] [Yd (Z2.mk 12 x1 [])] [0] [(b2,b2)] ⟨(Z2.mk 12 x1 []),p5+1,rfl,rfl,⟨GE.var hxv om om,by omega⟩⟩<|lr _
 refine ak<|Zt 3 [1]<|ic [2,2] (Zd6 rd bs p5 g gb rs t (ZO:=ob)) ?_;rintro _ _ ⟨e1,p21,rfl,rfl,WS⟩;have hse:=WS.1;exact ZD 2 b2 (X5 e1)<|ie<|ZC<|r3 [1,1] [Yd e1] [0] [(b2,b2)] ⟨e1,p21,rfl,rfl,⟨hse.ge om,by omega⟩⟩<|lr _
def Zbn (rd:Nat) (bs:LI) (p:Nat) (g:Wr) (gb:Nat) (rs:List Func) (vs:LI) (ZO:∀z∈bs,0<=z/\z<=255) (hp:p+1<=1000000000:=by exact ob) (hg:GP g:=by exact ob) (WL:g.funcs <+: rs:=by exact ob) (hv:vs.length<=2000:=by exact ob):Zj 224 [.p rd 0,.agg<|WR g gb,Z5 vs] [YD rd bs p,W2 gb rs] (fun r h=>∃(z:Int),r=.i z/\h=[.obj rd [UD bs,.i (p+1:Nat)],W2 gb rs]/\0<=z/\z<=4):=by
 have Xz:=hg.decls.ok;have hgl:=hg.len;have hdl:=hg.decls.len;refine ZF 24 Tryz.func224<|ar (iA (WR g gb) fun b1=>Z0<|Y5 1 (iL (Z7 [1,1,3,0,2,4,3]) 7 1 fun v1=>ZY 0 [(9,Z5 [1,1,3,0,2,4,3])]<|ic [2] (UB rd bs p [1,1,3,0,2,4,3] (ZO:=ob)) ?_));rintro _ _ ⟨z1,rfl,rfl,ZX⟩;have hz:=Cq (a:=0) (b:=4) ZX (by decide);refine Z0<|aq<|aq<|XY (fun fz gz F h=>∃(wb:Bool),(True)/\F=sF [7] fz [(22,.b wb)]/\h=[Ze gz 0,Ze gz 3]) ?_ ?_
 .refine az<|ZL 3 [2]<|iw (Uy g.decls)<|Z1 2 (ib (b:=(decide (z1>(g.decls.length:Int)))) 16 (fun Zb=>?_) fun Zb=>?_)
  .exact Z0<|ZU ⟨true,True.intro,rfl,rfl⟩<|wk [0,2] fl
  refine ZL 3 [2]<|ic [3] (H8 g gb rs vs z1) ?_;rintro _ _ ⟨w1,rfl,rfl⟩;exact Z0<|ZU ⟨(!w1),True.intro,rfl,rfl⟩<|wk [1,0] fl
 rintro F h ⟨wb,kR2_0,rfl,rfl⟩;refine ac wb Iff.rfl (fun Za=>?_) fun Za=>?_
 .exact ar<|Zp<|r1 [0,0] ⟨1,U,U,om⟩
 exact ak<|ar<|Zp<|r1 [0,0] ⟨z1,U,U,om⟩
def Zbr (g:Wr) (gb:Nat) (rs:List Func) (t:Int) (hg:GP g:=by exact ob) (WL:g.funcs <+: rs:=by exact ob):Zj 227 [.agg (WR g gb),.i t] [W2 gb rs] (fun r h=>∃(xs:LI),r=Z5 xs/\h=[W2 gb rs]/\xs.length<=4/\∀i∈xs,1<=i/\i<g.funcs.length):=by
 have Xz:=hg.decls.ok;have hgl:=hg.len;have hdl:=hg.decls.len;refine ZF 57 Tryz.func227<|ar (iA (WR g gb) fun b1=>Z0<|ar (iL (Z7 []) 0 1 fun v1=>?_));refine Z0<|Yj<|ab 0<|Y2 (fun fz gz m F h=>∃(k:Nat) (ys:LI) (u:Value),(1<=k/\k<=g.funcs.length)/\(ys.length<=k)/\(∀i∈ys,1<=i/\i<g.funcs.length)/\F=sF [1,2] fz [(5,ZT ys u),(6,.i k)]/\h=[Ze gz 1,Ze gz 2,.tail u 1]/\m=g.funcs.length-k) _ _ _ ⟨1,[],v1,ob,ob,(fun i hi=>by cases hi),rfl,rfl,rfl⟩ (wk [1,1,0]<|fr<|fc (x:=.i 1) li fl) ?_;rintro m F h ⟨k,ys,u,Ye,Zk,Zw,rfl,rfl,rfl⟩;refine Yh 3 [0]<|io (.i g.funcs.length) (.i g.funcs.length) (lr _) (Y4 ((k:Int)<(g.funcs.length:Int)) (fun Za=>?_) fun Za=>?_)
 .refine ak<|aq<|ab 1<|Zt 3 [0] ?_;obtain ⟨x1,Z3⟩:=Zs g.funcs k om;have hso:=(hg.sigs _<|Y0 Z3).bd;refine Zo (W9 gb g.funcs.length 4 k 5 (k:Int))<|Z1 1<|WW (Vj 1 gb 4 4 5 (k*5+1) (Zc<|XC rs) [.i x1.result] 3 (.i x1.result)<|Tl WL Z3 1 rfl<|Vx rfl)<|Z0<|Yj<|ab 2<|Y2 (fun fz gz m F h=>∃(j:Nat) (wo:Bool),(True)/\F=sF [1,2,5,6] fz [(7,.b wo),(8,.i j)]/\h=gz/\m=x1.params.length-j) _ _ _ ⟨0,(x1.result==t),True.intro,rfl,rfl,rfl⟩ (ZH 3<|fr<|Y7 fl) ?_;rintro m F h ⟨j,wo,VZ,rfl,rfl,rfl⟩;refine Yh 4 [0]<|Zo (W9 gb g.funcs.length 4 k 5 (k:Int))<|Z1 1<|WW (Vj 1 gb 4 4 5 (k*5+0) (Zc<|XC rs) [Z5 x1.params] 31 (Z5 x1.params)<|Tl WL Z3 0 rfl<|Vx rfl)<|iw (Yg x1.params) (Y4 ((j:Int)<(x1.params.length:Int)) (fun Zf=>?_) fun Zf=>?_)
  .refine ak<|aq<|ab 3<|aE 16<|Zi 14 16 [0,1] (db (b:=wo) 37 (fun Zb=>?_) fun Zb=>?_)
   .refine ZJ 10 14 [2,4,5,6] [0,0]<|dx 7 (W9 gb g.funcs.length 4 k 5 (k:Int))<|Zi 8 9 [8]<|Us 9 (Vj 1 gb 4 4 5 (k*5+0) (Zc<|XC rs) [Z5 x1.params] 31 (Z5 x1.params)<|Tl WL Z3 0 rfl<|Vx rfl)<|Zi 6 7 [10] ?_;obtain ⟨x2,Zr⟩:=Zs x1.params j om;refine dx 11 (Zl none (j:Int) 1<|Y3 Zr)<|Zi 4 5 [12]<|Z9 3 (dL 3 [1,0,0] [gb,b1,b1] (Z7 []) 0 1 fun v2=>Yw 3 3 [] [(39,Z5 [])]<|Z9 13<|dc 13 [2] [] [] (H8 g gb rs [] x2) ?_);rintro _ _ ⟨w1,rfl,rfl⟩;exact Zi 0 2 [14,15]<|de<|az<|Z1 1<|ZI j<|Z0<|ZK ⟨j+1,w1,True.intro,rfl,rfl,rfl⟩<|wk [2,0,1]<|fr<|ZM j fl
   exact Zi 0 14 [2,3,4,5,6,7,8,9,10,11,12,13,14,15]<|de<|az<|Z1 1<|ZI j<|Z0<|ZK ⟨j+1,false,ob,U,U,U⟩<|ZH 3<|fr<|ZM j fl
  refine ax 2<|ar (YH wo Iff.rfl (fun ZA=>?_) fun ZA=>?_)
  .exact az<|Z1 2 (iL (Z7 [(k:Int)]) 1 1 fun v3=>ZY 0 [(54,Z5 [(k:Int)])] (ip 3 (Z7 (ys++[(k:Int)])) (Z7 ys) (Z7 [(k:Int)]) u none 1 (YJ _) (YJ _) (Wk _) (by simp<;>omega) (by simp [Wj,Z7]) fun v4=>Z0<|az<|Z1 1<|ZI k<|Z0<|ZK ⟨k+1,(ys++[(k:Int)]),v4,ob,ob,(XN Zw om),rfl,rfl,rfl⟩<|wk [2,2,0]<|fr<|ZM k fl))
  exact ak<|az<|Z1 1<|ZI k<|Z0<|ZK ⟨k+1,ys,u,ob,ob,ob,U,U,U⟩<|ZH 3<|fr<|ZM k fl
 exact ax 0<|ar<|Zp<|r2 [1] [ZT ys u] ⟨ys,rfl,rfl,⟨by omega,Zw⟩⟩<|Zd.forget _ _
def Zcv (e:Z2) (left:Int) (hz:e.sz<=1000000:=by exact ob) (hl:0<=left/\left<=1000:=by exact ob) (ih:∀(e2:Z2) (left:Int),(e2.sz<e.sz)->(0<=left/\left<=1000)->Zj 208 [Yd e2,.i left] [] fun r h=>∃(w:Int),r=.i w/\h=[]/\NL e2.sz left w):Zj 208 [Yd e,.i left] [] (fun r h=>∃(w:Int),r=.i w/\h=[]/\NL e.sz left w):=by
 have hes:=e.sz_eq;have hel:=Rs (xs:=e.kids);refine ZF 27 Tryz.func208<|ar (iA (X5 e) fun b1=>Z0<|X6 (Y4 (left<1) (fun Za=>?_) fun Za=>?_))
 .exact ar<|Zp<|r1 [] ⟨(-1),rfl,rfl,(.inr ⟨by omega,rfl⟩)⟩
 refine ak<|Y5 1<|ia ((left-1)) ((left)-(1))<|Z0<|Yj<|ab 0<|Y2 (fun fz gz m F h=>∃(k:Nat) (q:Int),(k<=e.kids.length)/\(0<=q/\q+1+XL (e.kids.take k)=left)/\F=sF [2] fz [(1,.i q),(5,.i k)]/\h=gz/\m=e.kids.length-k) _ _ _ ⟨0,(left-1),ob,(by simp [XL];omega),rfl,rfl,rfl⟩ (wk [0]<|fr<|Y7 fl) ?_;rintro m F h ⟨k,q,Ye,Zk,rfl,rfl,rfl⟩;refine Yh 3 [0]<|iw (Lz e.kids) (Y4 ((k:Int)<(e.kids.length:Int)) (fun Zf=>?_) fun Zf=>?_)
 .refine ak<|aq<|ab 1<|Zt 3 [0] ?_;obtain ⟨x1,Z3⟩:=Zs e.kids k om;have hks:=D0 Z3;have htk:XL (e.kids.take (k+1))=XL (e.kids.take k)+(x1).sz:=by rw [WO Z3,Fc,XL,XL];rfl
  have htl:XL (e.kids.take (k+1))<=XL e.kids:=by have h:=Ys XL (Ty (k+1) e.kids);rw [Fc] at h;omega
  refine Zo (Zl none (k:Int) 3<|DQ Z3)<|Z1 2<|ic [] (ih x1 q ob ob) ?_;rintro _ _ ⟨w1,rfl,rfl,ZX⟩;have hnl:=ZX;unfold NL at hnl;refine Z0<|ar (Y4 (w1<0) (fun ZA=>?_) fun ZA=>?_)
  .exact ar<|Zp<|r1 [] ⟨(-1),rfl,rfl,(.inr ⟨by omega,rfl⟩)⟩
  exact ak<|az<|Z1 1<|ZI k<|Z0<|ZK ⟨k+1,w1,ob,ob,U,U,U⟩<|wk [0]<|fr<|ZM k fl
 refine ax 0<|ZB ?_;have htk:XL (e.kids.take k)=XL e.kids:=by rw [Vc om]
 exact ZC<|r1 [] ⟨q,rfl,rfl,(.inl ⟨by omega,by omega⟩)⟩
def Zcu (e:Z2) (left:Int) (hz:e.sz<=1000000:=by exact ob) (hl:0<=left/\left<=1000:=by exact ob):Zj 208 [Yd e,.i left] [] (fun r h=>∃(w:Int),r=.i w/\h=[]/\NL e.sz left w):=by
 have key:∀k:Nat,∀(e2:Z2) (left:Int),(e2.sz<k)->(e2.sz<=1000000)->(0<=left/\left<=1000)->Zj 208 [Yd e2,.i left] [] (fun r h=>∃(w:Int),r=.i w/\h=[]/\NL e2.sz left w):=by
  intro k
  induction k with
  | zero=>intro e2 left h;omega
  | succ k ih=>intro e2 left h1 h2 h3;exact Zcv e2 left h2 h3 fun e3 l3 q1 q2=>ih e3 l3 om om q2
 exact key (e.sz+1) e left om hz hl
def S0 (e:Z2) (hz:e.sz<=1000000:=by exact ob):Zj 166 [Yd e] [] (fun r h=>∃(w:Int),r=.i w/\h=[]/\((w=e.sz/\e.sz<=30)∨(w=-1/\30<e.sz))):=by
 refine ZF 10 Tryz.func166<|ar (iA (X5 e) fun b1=>Z0<|Zt 1 [0]<|ic [] (Zcu e 30) ?_);rintro _ _ ⟨w1,rfl,rfl,ZX⟩;have hnl:=ZX;unfold NL at hnl;refine Z0<|X6 (Y4 (w1<0) (fun Za=>?_) fun Za=>?_)
 .exact ar<|Zp<|r1 [] ⟨(-1),U,U,ob⟩
 exact ak<|Y5 1<|ia ((30-w1)) ((30)-(w1))<|Zp<|r1 [] ⟨(30-w1),U,U,ob⟩
def D5 (rd:Nat) (bs:LI) (p:Nat) (g:Wr) (gb:Nat) (rs:List Func) (vs ts:LI) (b bb:Nat) (ZO:∀z∈bs,0<=z/\z<=255) (hp:p+ts.length*bC (b / ts.length)<=1000000000:=by exact ob) (hg:GP g:=by exact ob) (WL:g.funcs <+: rs:=by exact ob) (hv:vs.length+3*bb<=900:=by exact ob) (ht:ts.length<=3:=by exact ob) (hb:b<bb/\bb<=1000:=by exact ob) (ih:∀(rd:Nat) (bs:LI) (p:Nat) (vs2:LI) (t2:Int) (b2:Nat),(∀z∈bs,0<=z/\z<=255)->(p+bC b2<=1000000000)->(vs2.length+3*b2<=900)->(b2<bb)->Zj 203 [.p rd 0,.agg<|WR g gb,Z5 vs2,.i t2,.i b2] [YD rd bs p,W2 gb rs] fun r h=>∃(e:Z2) (p2:Nat),r=Yd e/\h=[YD rd bs p2,W2 gb rs]/\GE g vs2.length (bS b2) e/\p<=p2/\p2<=p+bC b2):Zj 225 [.p rd 0,.agg<|WR g gb,Z5 vs,Z5 ts,.i b] [YD rd bs p,W2 gb rs] (fun r h=>∃(ys:List Z2) (p2:Nat),r=XM ys/\h=[YD rd bs p2,W2 gb rs]/\ys.length=ts.length/\(∀e∈ys,GE g vs.length (bS (b / ts.length)) e)/\p<=p2/\p2<=p+ts.length*bC (b / ts.length)):=by
 have hqb:=Nat.div_le_self b ts.length;refine ZF 36 Tryz.func225<|ar (iA (WR g gb) fun b1=>Z0<|ar (iL (YB []) 0 3 fun v1=>?_));refine Z0<|Yj<|ab 0<|Y2 (fun fz gz m F h=>∃(k:Nat) (ys:List Z2) (u:Value) (pq:Nat),(k<=ts.length)/\(ys.length=k)/\(∀e∈ys,GE g vs.length (bS (b / ts.length)) e)/\(p<=pq/\pq<=p+k*bC (b / ts.length))/\F=sF [0,2,3,4,6] fz [(11,Km ys u),(12,.i k)]/\h=[Ze gz 1,YD rd bs pq,Ze gz 3,.tail u 3]/\m=ts.length-k) _ _ _ ⟨0,[],v1,p,ob,ob,(fun e he=>by cases he),(by simp),rfl,rfl,rfl⟩ (wk [1,1,1,0]<|fr<|Y7 fl) ?_;rintro m F h ⟨k,ys,u,pq,Ye,Zk,Zw,Yz,rfl,rfl,rfl⟩;refine YE 2<|iw (Yg ts) (Y4 ((k:Int)<(ts.length:Int)) (fun Za=>?_) fun Za=>?_)
 .obtain ⟨hm1,hm2⟩:=Z0x (k:=k) (L:=ts.length) (C:=bC (b / ts.length)) om;refine ak (aq (ab 1 (aE 16 (ZJ 10 16 [0,1,2,3,4,5] [0] ?_))));obtain ⟨x1,Z3⟩:=Zs ts k om;refine dx 6 (Zl none (k:Int) 1 (Y3 Z3)) (Zi 6 9 [7,8,9] (dw 10 (Yg ts) (dx 11 (Dc b ts.length om om) (Z9 12 (dc 12 [1,1] [] [] (ih rd bs pq vs x1 (b / ts.length) ob ob ob ob) ?_)))));rintro _ _ ⟨e1,p21,rfl,rfl,ZX⟩;have Xt:=ZX.1;exact Z9 13 (V1 13 [] [] [Yd e1] (YB [e1]) (XZ [e1]).symm 1 3 fun v2=>Yw 2 2 [] [(33,XM [e1])] (Z9 14 (dp 14 4 [] [] (YB (ys++[e1])) (YB ys) (YB [e1]) u none 3 (TS _) (TS _) (AK _) (by simp<;>omega) (by simp [AJ,YB]) fun v3=>Zi 0 1 [15] (de (az (Z1 1 (ZI k (Z0 (ZK ⟨k+1,(ys++[e1]),v3,p21,ob,ob,(XN Zw (by assumption)),om,rfl,rfl,rfl⟩ (wk [4,2,2,0] (fr (ZM k fl))))))))))))
 have hke:k=ts.length:=by omega
 subst hke;exact ax 0<|ar<|Zp<|r2 [1,1] [Km ys u] ⟨ys,pq,rfl,rfl,⟨by omega,Zw,by omega⟩⟩<|Zd.forget _ _
def Zc8 (rd:Nat) (bs:LI) (p:Nat) (g:Wr) (gb:Nat) (rs:List Func) (vs:LI) (t:Int) (b:Nat) (ZO:∀z∈bs,0<=z/\z<=255) (hp:p+(bC b-1)<=1000000000:=by exact ob) (hg:GP g:=by exact ob) (WL:g.funcs <+: rs:=by exact ob) (hv:vs.length+3*b<=900:=by exact ob) (hb:3<=b:=by exact ob) (ih:∀(rd:Nat) (bs:LI) (p:Nat) (vs2:LI) (t2:Int) (b2:Nat),(∀z∈bs,0<=z/\z<=255)->(p+bC b2<=1000000000)->(vs2.length+3*b2<=900)->(b2<b)->Zj 203 [.p rd 0,.agg<|WR g gb,Z5 vs2,.i t2,.i b2] [YD rd bs p,W2 gb rs] fun r h=>∃(e:Z2) (p2:Nat),r=Yd e/\h=[YD rd bs p2,W2 gb rs]/\GE g vs2.length (bS b2) e/\p<=p2/\p2<=p+bC b2):Zj 226 [.p rd 0,.agg<|WR g gb,Z5 vs,.i t,.i b] [YD rd bs p,W2 gb rs] (fun r h=>∃(e:Z2) (p2:Nat),r=Yd e/\h=[YD rd bs p2,W2 gb rs]/\GE g vs.length (bS b) e/\p<=p2/\p2<=p+(bC b-1)):=by
 have Xz:=hg.decls.ok;have hgl:=hg.len;have hdl:=hg.decls.len;have hcm:=P1 b;refine ZF 69 Tryz.func226<|ar (iA (WR g gb) fun b1=>iA [.i 0,.i 0,nl] fun b2=>ie<|Y5 1 (iL (Z7 [1,1,3,4]) 4 1 fun v1=>ZY 0 [(16,Z5 [1,1,3,4])]<|ic [3] (UB rd bs p [1,1,3,4] (ZO:=ob)) ?_));rintro _ _ ⟨z1,rfl,rfl,ZX⟩;have hz:=Cq (a:=1) (b:=4) ZX (by decide);refine Z0<|Yh 3 [3]<|iw (Uy g.decls)<|Xu [0,2,3,4,6,10,11] [(28,.b ((decide (z1>(g.decls.length:Int)))||Wd g.decls z1))] (fun gz=>gz) ?_ ?_
 .refine Z1 2 (ib (b:=(decide (z1>(g.decls.length:Int)))) 23 (fun Zb=>?_) fun Zb=>?_)
  .exact Z0<|ZH 5<|Zu true Zb fl
  exact ZL 3 [3]<|Zx [] (G3 g.decls z1)<|Z0<|ZH 5<|Zu (Wd g.decls z1) Zb fl
 refine XY (fun fz gz F h=>∃(d:Int),(1<=d/\d<=4)/\F=sF [0,2,3,4,6,10] fz [(11,.i d)]/\h=[Ze gz 0,Ze gz 2,Ze gz 3,Ze gz 4]) ?_ ?_
 .refine ac ((decide (z1>(g.decls.length:Int)))||Wd g.decls z1) (p:=(z1>(g.decls.length:Int))∨(Wd g.decls z1=true)) (Yi dq Iff.rfl) (fun Za=>?_) fun Za=>?_
  .exact TD<|ZU ⟨1,om,U,U⟩<|wk [0,1,1,1] fl
  exact ak<|ZU ⟨z1,om,U,U⟩<|wk [0,1,1,1] fl
 rintro F h ⟨d,JY,rfl,rfl⟩;have hcl:=N4 Xz d;have hmc:=Zh9 (L:=(Y1 g.decls d).length) (q:=((b-2) / (Y1 g.decls d).length)) (b:=b) om hb (QV _ _);have hqb:=Nat.div_le_self (b-2) (Y1 g.decls d).length;refine Zt 3 [2] (ic [] (AW g.decls d) ?_);rintro _ _ ⟨v2,rfl,rfl⟩;refine Z0 (Zt 4 [3] (ic [1,3] (DY rd bs (p+1) g gb rs vs d (ZO:=ob)) ?_));rintro _ _ ⟨e1,p21,rfl,rfl,YW⟩;have hle:=YW.1;refine Tp [Yd e1] (YB [e1]) (XZ [e1]).symm 1 3 fun v3=>?_
 refine Z0<|Yj<|ab 0<|Y2 (fun fz gz m F h=>∃(k:Nat) (ys:List Z2) (u:Value) (pq:Nat),(k<=(Y1 g.decls d).length)/\(ys.length=k)/\(KM g.decls g.funcs.length (QO g.decls 8 d vs.length) 1 ys)/\(∀e∈ys,e.sz<=bS ((b-2) / (Y1 g.decls d).length))/\(p<=pq/\pq<=p+31+k*bC ((b-2) / (Y1 g.decls d).length))/\F=sF [0,2,3,4,6,10,11] fz [(12,Z5<|Y1 g.decls d),(13,Km (e1::ys) u),(14,.i k)]/\h=[YD rd bs pq,Ze gz 2,Ze gz 4,Ze gz 5,.tail u 3]/\m=(Y1 g.decls d).length-k) _ _ _ ⟨0,[],v3,p21,ob,rfl,True.intro,(fun e he=>by cases he),(by simp only [Nat.zero_mul];omega),rfl,rfl,rfl⟩ (wk [1,1,2,2,0]<|fc (x:=ZT (Y1 g.decls d) v2) (Zd.forget _ _)<|fc (x:=Km [e1] v3) (Zd.slh _<|Ys YB rfl)<|Y7 fl) ?_;rintro m F h ⟨k,ys,u,pq,Ye,Zk,Zw,Yz,W7,rfl,rfl,rfl⟩;refine YE 2<|io (.i (((Y1 g.decls d).length:Nat):Int)) (.i (((Z7<|Y1 g.decls d).length:Nat):Int)) (li<|by rw [Yg]) (Y4 ((k:Int)<(((Y1 g.decls d).length:Nat):Int)) (fun Zf=>?_) fun Zf=>?_)
 .refine ak<|aq<|ab 1<|aE 22<|ZJ 14 22 [0,1,2,3,4,5,6,7] [3,3] ?_;obtain ⟨x1,Z3⟩:=Zs (Y1 g.decls d) k om;have hcf:=Uw Xz x1;have harm:=Ev (m:=vs.length) Z3;obtain ⟨hm1,hm2⟩:=Z0x (k:=k) (L:=(Y1 g.decls d).length) (C:=bC ((b-2) / (Y1 g.decls d).length)) om;refine dx 8 (Zl none (k:Int) 1<|Y3 Z3)<|Zi 10 13 [9,12,13]<|da 14 (((b-2:Nat):Int)) (((b:Int))-(2))<|Zi 8 9 [15]<|dn 16 (.i (((Y1 g.decls d).length:Nat):Int)) (.i (((Z7<|Y1 g.decls d).length:Nat):Int)) (li<|by rw [Yg])<|dx 17 (Dc (b-2) ((Y1 g.decls d).length) om om)<|Z9 10<|Yu 10 [] [3] [b1] (Jz g.decls x1)<|Z9 11<|dc 11 [] [3] [b1] (J2 vs<|ZZ g.decls x1) ?_;rintro _ _ ⟨v4,rfl,rfl⟩;refine Yw 4 4 [] [(56,Z5 (vs++(ZZ g.decls x1)))]<|Z9 18<|dc 18 [1,1] [] [] (ih rd bs pq (vs++(ZZ g.decls x1)) t ((b-2) / ((Y1 g.decls d).length)) ob ob (by simp only [Yy];omega) ob) ?_;rintro _ _ ⟨e2,p22,rfl,rfl,Xl⟩;have Xt:=Xl.1;exact Z9 19 (V1 19 [] [] [Yd e2] (YB [e2]) (XZ [e2]).symm 1 3 fun v5=>Yw 2 2 [] [(64,XM [e2])]<|Z9 20 (dp 20 6 [] [] (YB ((e1::ys)++[e2])) (YB (e1::ys)) (YB [e2]) u none 3 (TS _) (TS _) (AK _) (by simp<;>omega) (by simp [AJ,YB]) fun v6=>Zi 0 1 [21]<|de<|az<|Z1 1<|ZI k<|Z0<|ZK ⟨k+1,(ys++[e2]),v6,p22,ob,ob,(Rl.2 ⟨Zw,by rw [Zk,harm,<-Yy];exact Xt.1,True.intro⟩),(XN Yz Xt.2),om,rfl,rfl,rfl⟩<|wk [2,2,3,3,0]<|fr<|fc (x:=Km ((e1::ys)++[e2]) v6) (Zd.slh _<|Ys YB rfl)<|ZM k fl))
 refine ax 0<|ar<|ZY 2 [(67,XM (e1::ys))]<|Zx [] (W5 8 d (e1::ys))<|ZD 2 b2 (X5<|Z2.mk 8 d (e1::ys))<|ie ?_;have hke:k=(Y1 g.decls d).length:=by omega
 subst hke;exact ZC<|r3 [1,1] [Yd (Z2.mk 8 d (e1::ys))] [0] [(b2,b2)] ⟨(Z2.mk 8 d (e1::ys)),pq,rfl,rfl,⟨GE.match_ om hle Zw Yz Zk rfl om<|Zha om hb<|QV _ _,by omega⟩⟩<|lr _
def RU (rd:Nat) (bs:LI) (p:Nat) (g:Wr) (gb:Nat) (rs:List Func) (vs:LI) (t:Int) (b:Nat) (ZO:∀z∈bs,0<=z/\z<=255) (hp:p+(bC b-1)<=1000000000:=by exact ob) (hg:GP g:=by exact ob) (WL:g.funcs <+: rs:=by exact ob) (hv:vs.length+3*b<=900:=by exact ob) (hb:3<=b:=by exact ob) (ih:∀(rd:Nat) (bs:LI) (p:Nat) (vs2:LI) (t2:Int) (b2:Nat),(∀z∈bs,0<=z/\z<=255)->(p+bC b2<=1000000000)->(vs2.length+3*b2<=900)->(b2<b)->Zj 203 [.p rd 0,.agg<|WR g gb,Z5 vs2,.i t2,.i b2] [YD rd bs p,W2 gb rs] fun r h=>∃(e:Z2) (p2:Nat),r=Yd e/\h=[YD rd bs p2,W2 gb rs]/\GE g vs2.length (bS b2) e/\p<=p2/\p2<=p+bC b2):Zj 228 [.p rd 0,.agg<|WR g gb,Z5 vs,.i t,.i b] [YD rd bs p,W2 gb rs] (fun r h=>∃(e:Z2) (p2:Nat),r=Yd e/\h=[YD rd bs p2,W2 gb rs]/\GE g vs.length (bS b) e/\p<=p2/\p2<=p+(bC b-1)):=by
 have Xz:=hg.decls.ok;have hgl:=hg.len;have hdl:=hg.decls.len;have hac:=Z6o hb;have has:=Z6p hb;refine ZF 120 Tryz.func228<|ar (iA (WR g gb) fun b1=>iA [.i 0,.i 0,nl] fun b2=>ie<|YE 1<|ic [2] (Wm rd bs p 4 (ZO:=ob)) ?_);rintro _ _ ⟨k1,rfl,rfl,ZX⟩;have qhp1:=ZX.lt om;refine Z0<|XY (fun fz gz F h=>∃(p5:Nat),(p<=p5/\p5<=p+1)/\F=sF [0,2,3,4,6,10] fz []/\h=[YD rd bs p5,Ze gz 1,Ze gz 2,Ze gz 3]) ?_ ?_
 .refine ac (k1==0) Zq (fun Za=>?_) fun Za=>?_
  .refine ZB<|ab 0<|Y2 (fun fz gz m F h=>∃(a:Nat),(1<=a/\a<=g.decls.length+1)/\F=sF [0,2,3,4,6,10] fz [(11,.i a)]/\h=gz/\m=g.decls.length+1-a) _ _ _ ⟨1,ob,U,U,U⟩ (ZH 4<|fc (x:=.i 1) li fl) ?_;rintro m F h ⟨a,Ye,rfl,rfl,rfl⟩;refine Yh 3 [2]<|iw (Uy g.decls) (Y4 ((a:Int)<=(g.decls.length:Int)) (fun Zf=>?_) fun Zf=>?_)
   .refine ak<|aq<|ab 1<|aq<|XY (fun fz gz F h=>∃(wb:Bool),(True)/\F=sF [0,2,3,4,6,10,11] fz [(44,.b wb)]/\h=gz) ?_ ?_
    .refine az<|ZL 3 [2]<|Zx [] (G3 g.decls (a:Int))<|Z1 1 (ib (b:=Wd g.decls (a:Int)) 28 (fun Zb=>?_) fun Zb=>?_)
     .refine ZL 3 [2]<|ia (((a-1:Nat):Int)) (((a:Int))-(1)) ?_;obtain ⟨x1,Z3⟩:=Zs g.decls (a-1) om;refine Zo (Zl none ((a-1:Nat):Int) 3<|V6 Z3)<|Z1 6 (ib (b:=(x1.to_==t)) 39 (fun ZE=>?_) fun ZE=>?_)
      .refine ZL 3 [2]<|ic [3] (H8 g gb rs vs (a:Int)) ?_;rintro _ _ ⟨w1,rfl,rfl⟩;exact Z0<|ZU ⟨w1,True.intro,rfl,rfl⟩<|wk [1,1,1,0] fl
      exact Z0<|ZU ⟨false,True.intro,rfl,rfl⟩<|ZH 4 fl
     exact Z0<|ZU ⟨false,True.intro,rfl,rfl⟩<|ZH 4 fl
    rintro F h ⟨wb,kR5_0,rfl,rfl⟩;refine ac wb Iff.rfl (fun ZA=>?_) fun ZA=>?_
    .refine aD 21<|ZJ 11 21 [0,1,2,3,5,6,7,8,9,10] [2,2,2]<|da 11 (((a-1:Nat):Int)) (((a:Int))-(1)) ?_;obtain ⟨x2,Zr⟩:=Zs g.decls (a-1) om;refine dx 12 (Zl none ((a-1:Nat):Int) 3<|V6 Zr)<|Zi 6 9 [13,14,15]<|da 16 (((b-2:Nat):Int)) (((b:Int))-(2))<|Z9 4<|dc 4 [0,2] [1,1] [b1,b1] (DY rd bs (p+1) g gb rs vs (a:Int) (ZO:=ob)) ?_;rintro _ _ ⟨e1,p21,rfl,rfl,XS⟩;have hle:=XS.1;refine Z9 17<|dc 17 [0,0] [] [] (ih rd bs p21 vs x2.frm (b-2) ob ob ob ob) ?_;rintro _ _ ⟨e2,p22,rfl,rfl,Wv⟩;have Xt:=Wv.1;exact Z9 18 (V1 18 [] [] [Yd e1,Yd e2] (YB [e1,e2]) (XZ [e1,e2]).symm 2 3 fun v1=>Yw 2 2 [] [(63,XM [e1,e2])]<|Z9 19<|Yu 19 [] [] [] (W5 11 0 [e1,e2])<|Z9 20<|YO 20 3 [] [] b2 (X5<|Z2.mk 11 0 [e1,e2])<|de<|ZC<|r3 [2,2] [Yd (Z2.mk 11 0 [e1,e2])] [0] [(b2,b2)] ⟨(Z2.mk 11 0 [e1,e2]),p22,rfl,rfl,⟨GE.two om om hle Xt om,by omega⟩⟩<|lr _)
    exact ak<|az<|Z1 1<|ZI a<|Z0<|ZK ⟨a+1,ob,U,U,U⟩<|ZH 4<|ZM a fl
   exact ax 0<|ZU ⟨p+1,ob,U,U⟩<|ZH 4 fl
  exact ak<|ZU ⟨p+1,ob,U,U⟩<|ZH 4 fl
 rintro F h ⟨p5,JY,rfl,rfl⟩;refine Zt 3 [2] (ic [] (AW g.decls t) ?_);rintro _ _ ⟨v2,rfl,rfl⟩;refine Z0 (YE 1 (io (.i (((Y1 g.decls t).length:Nat):Int)) (.i (((Z7 (Y1 g.decls t)).length:Nat):Int)) (li (by rw [Yg])) (Y4 ((((Y1 g.decls t).length:Nat):Int)>0) (fun Ym=>?_) fun Ym=>?_)))
 .refine Y5 3<|io (.i (((Y1 g.decls t).length:Nat):Int)) (.i (((Z7<|Y1 g.decls t).length:Nat):Int)) (li<|by rw [Yg])<|ic [1] (Wm rd bs p5 (((Y1 g.decls t).length:Nat):Int) (ZO:=ob)) ?_;rintro _ _ ⟨k2,rfl,rfl,WS⟩;have qhp8:=WS.lt om;obtain ⟨x3,YG⟩:=Zs (Y1 g.decls t) k2.toNat om;have hcc:=hg.decls.cons_cases (Y0 YG);refine Zo (Zl (some v2) k2 1<|Y3 YG)<|Z0<|aD 13<|ZJ 5 13 [0,1,2,3,4,5,6,8] [3,3]<|da 9 (((b-1:Nat):Int)) (((b:Int))-(1))<|Z9 7<|Yu 7 [] [2] [b1] (Jz g.decls x3)<|Z9 10<|dc 10 [0,3] [] [] (D5 rd bs (p5+1) g gb rs vs (ZZ g.decls x3) (b-1) b (ZO:=ob) (hp:=(Dd (p:=p) (by first|omega|simp) hb om om)) (ht:=(by first|omega|simp)) (hb:=om) (ih:=ih)) ?_;rintro _ _ ⟨ys1,p23,rfl,rfl,Vu⟩;have hga1:=Vu.1;have hga2:=Vu.2.1;have hga3:=Vu.2.2;have hnc:=BF (b:=b) (show (ys1).length<=3 by rw [hga1];first|omega|simp) hb (QV _ (b-1));rw [hga1] at hnc;exact Z9 11<|Yu 11 [] [] [] (W5 6 x3 ys1)<|Z9 12<|YO 12 3 [] [] b2 (X5<|Z2.mk 6 x3 ys1)<|de<|ZC<|r3 [1,1] [Yd (Z2.mk 6 x3 ys1)] [0] [(b2,b2)] ⟨(Z2.mk 6 x3 ys1),p23,rfl,rfl,⟨GE.node om (fun h=>by omega) om hga2 hga1 (by first|omega|simp)<|FA (by first|omega|simp) hb<|QV _ _,by omega⟩⟩<|lr _
 refine ak<|X6 (Y4 (t>0) (fun Xm=>?_) fun Xm=>?_)
 .refine Zt 4 [3]<|ic [1,3] (DY rd bs p5 g gb rs vs t (ZO:=ob)) ?_;rintro _ _ ⟨e3,p24,rfl,rfl,T4⟩;have hle:=T4.1;exact ZD 3 b2 (X5 e3)<|ie<|ZC<|r3 [1,1] [Yd e3] [0] [(b2,b2)] ⟨e3,p24,rfl,rfl,⟨hle.le<|P2 b,by omega⟩⟩<|lr _
 refine ak<|YE 1<|ic [1] (Wm rd bs p5 3 (ZO:=ob)) ?_;rintro _ _ ⟨k3,rfl,rfl,Tn⟩;have qhp11:=Tn.lt om;refine YH (k3==0) Zq (fun Xs=>?_) fun Xs=>?_
 .refine Zt 3 [3] (iL (Z7 [0]) 1 1 fun v3=>Z1 1<|ia (((b-1:Nat):Int)) (((b:Int))-(1))<|ZY 0 [(104,Z5 [0])]<|ic [1,4] (D5 rd bs (p5+1) g gb rs vs [0] (b-1) b (ZO:=ob) (hp:=(Dd (p:=p) (by first|omega|simp) hb om om)) (ht:=(by first|omega|simp)) (hb:=om) (ih:=ih)) ?_);rintro _ _ ⟨ys2,p25,rfl,rfl,To⟩;have hga1:=To.1;have hga2:=To.2.1;have hga3:=To.2.2;have hnc:=BF (b:=b) (show (ys2).length<=3 by rw [hga1];first|omega|simp) hb (QV _ (b-1));rw [hga1] at hnc;exact Zx [] (W5 5 0 ys2)<|ZD 4 b2 (X5<|Z2.mk 5 0 ys2)<|ie<|ZC<|r3 [1,1] [Yd (Z2.mk 5 0 ys2)] [0] [(b2,b2)] ⟨(Z2.mk 5 0 ys2),p25,rfl,rfl,⟨GE.node om (fun h=>by omega) om hga2 hga1 (by first|omega|simp)<|FA (by first|omega|simp) hb<|QV _ _,by omega⟩⟩<|lr _
 refine ak<|aD 12<|ZJ 7 12 [0,3,4,5,7] [3]<|da 8 (((b-1:Nat):Int)) (((b:Int))-(1))<|Ji (fun fz gz F h=>∃(z1:Int) (ys3:List Z2) (p26:Nat),(z1∈[1,2,3,4])/\(ys3.length=[0,0].length/\(∀e∈ys3,GE g vs.length (bS ((b-1) / [0,0].length)) e)/\((p5+1)+1)<=p26/\p26<=((p5+1)+1)+[0,0].length*bC ((b-1) / [0,0].length))/\F=sF [10] fz []/\h=[.obj b2 (X5<|Z2.mk z1 0 ys3),YD rd bs p26,Ze gz 4,Ze gz 1,Ze gz 3]) ?_ ?_
 .refine VR 1 6 ?_ ?_
  .refine dL 1 [2] [b1] (Z7 [1,2,3,4]) 4 1 fun v4=>Yw 5 5 [] [(110,Z5 [1,2,3,4])]<|VR 2 6 ?_ ?_
   .refine dc 2 [1] [1] [b1] (UB rd bs (p5+1) [1,2,3,4] (ZO:=ob)) ?_;rintro _ _ ⟨z1,rfl,rfl,K7⟩;have hz:=Cq (a:=1) (b:=4) K7 (by decide);refine Z9 6 (dL 6 [2] [b1] (Z7 [0,0]) 2 1 fun v5=>Yw 3 3 [] [(115,Z5 [0,0])]<|Z9 9<|dc 9 [1,5] [] [] (D5 rd bs ((p5+1)+1) g gb rs vs [0,0] (b-1) b (ZO:=ob) (hp:=(Dd (p:=p) (by first|omega|simp) hb om om)) (ht:=(by first|omega|simp)) (hb:=om) (ih:=ih)) ?_);rintro _ _ ⟨ys3,p26,rfl,rfl,QJ⟩;have hga1:=QJ.1;have hga2:=QJ.2.1;have hga3:=QJ.2.2;have hnc:=BF (b:=b) (show (ys3).length<=3 by rw [hga1];first|omega|simp) hb (QV _ (b-1));rw [hga1] at hnc;exact Z9 10<|Yu 10 [] [] [] (W5 z1 0 ys3)<|Z9 11<|YO 11 5 [] [] b2 (X5<|Z2.mk z1 0 ys3)<|de<|ZU ⟨z1,ys3,p26,(by assumption),(by assumption),rfl,rfl⟩<|wk [0,0,0,2,2] fl
   refine dL 6 [2] [b1] (Z7 [0,0]) 2 1 fun v6=>Z9 2<|dc 2 [2] [1] [b1] (UB rd bs (p5+1) [1,2,3,4] (ZO:=ob)) ?_
   rintro _ _ ⟨z2,rfl,rfl,Jp⟩;have hz:=Cq (a:=1) (b:=4) Jp (by decide);refine Yw 3 3 [] [(115,Z5 [0,0])] (Z9 9 (dc 9 [0,5] [] [] (D5 rd bs ((p5+1)+1) g gb rs vs [0,0] (b-1) b (ZO:=ob) (hp:=(Dd (p:=p) (by first|omega|simp) hb om om)) (ht:=(by first|omega|simp)) (hb:=om) (ih:=ih)) ?_));rintro _ _ ⟨ys4,p27,rfl,rfl,KQ⟩;have hga1:=KQ.1;have hga2:=KQ.2.1;have hga3:=KQ.2.2;have hnc:=BF (b:=b) (show (ys4).length<=3 by rw [hga1];first|omega|simp) hb (QV _ (b-1));rw [hga1] at hnc;exact Z9 10 (Yu 10 [] [] [] (W5 z2 0 ys4) (Z9 11 (YO 11 5 [] [] b2 (X5 (Z2.mk z2 0 ys4)) (de (ZU ⟨z2,ys4,p27,(by assumption),(by assumption),rfl,rfl⟩ (wk [0,0,0,2,2] fl))))))
  refine dL 6 [2] [b1] (Z7 [0,0]) 2 1 fun v7=>Z9 1 (dL 1 [2] [b1] (Z7 [1,2,3,4]) 4 1 fun v8=>Yw 4 4 [] [(110,Z5 [1,2,3,4])]<|Z9 2<|dc 2 [2] [1] [b1] (UB rd bs (p5+1) [1,2,3,4] (ZO:=ob)) ?_)
  rintro _ _ ⟨z3,rfl,rfl,Bw⟩;have hz:=Cq (a:=1) (b:=4) Bw (by decide);refine Yw 3 3 [] [(115,Z5 [0,0])] (Z9 9 (dc 9 [0,5] [] [] (D5 rd bs ((p5+1)+1) g gb rs vs [0,0] (b-1) b (ZO:=ob) (hp:=(Dd (p:=p) (by first|omega|simp) hb om om)) (ht:=(by first|omega|simp)) (hb:=om) (ih:=ih)) ?_));rintro _ _ ⟨ys5,p28,rfl,rfl,Aq⟩;have hga1:=Aq.1;have hga2:=Aq.2.1;have hga3:=Aq.2.2;have hnc:=BF (b:=b) (show (ys5).length<=3 by rw [hga1];first|omega|simp) hb (QV _ (b-1));rw [hga1] at hnc;exact Z9 10 (Yu 10 [] [] [] (W5 z3 0 ys5) (Z9 11 (YO 11 5 [] [] b2 (X5 (Z2.mk z3 0 ys5)) (de (ZU ⟨z3,ys5,p28,(by assumption),(by assumption),rfl,rfl⟩ (wk [0,0,0,2,2] fl))))))
 rintro F h ⟨z1,ys3,p26,K7,QJ,rfl,rfl⟩;have hz:=Cq (a:=1) (b:=4) K7 (by decide);have hga1:=QJ.1;have hga2:=QJ.2.1;have hga3:=QJ.2.2;have hnc:=BF (b:=b) (show (ys3).length<=3 by rw [hga1];first|omega|simp) hb (QV _ (b-1));rw [hga1] at hnc;exact ZC (r3 [1,1] [Yd (Z2.mk z1 0 ys3)] [0] [(b2,b2)] ⟨(Z2.mk z1 0 ys3),p26,rfl,rfl,⟨GE.node om (fun h=>by omega) om hga2 hga1 (by first|omega|simp) (FA (by first|omega|simp) hb (QV _ _)),by omega⟩⟩ (lr _))
def Zc9 (rd:Nat) (bs:LI) (p:Nat) (g:Wr) (gb:Nat) (rs:List Func) (vs:LI) (t:Int) (b:Nat) (ZO:∀z∈bs,0<=z/\z<=255) (hp:p+bC b<=1000000000) (hg:GP g) (WL:g.funcs <+: rs) (hv:vs.length+3*b<=900) (ih:∀(rd:Nat) (bs:LI) (p:Nat) (vs2:LI) (t2:Int) (b2:Nat),(∀z∈bs,0<=z/\z<=255)->(p+bC b2<=1000000000)->(vs2.length+3*b2<=900)->(b2<b)->Zj 203 [.p rd 0,.agg<|WR g gb,Z5 vs2,.i t2,.i b2] [YD rd bs p,W2 gb rs] fun r h=>∃(e:Z2) (p2:Nat),r=Yd e/\h=[YD rd bs p2,W2 gb rs]/\GE g vs2.length (bS b2) e/\p<=p2/\p2<=p+bC b2):Zj 203 [.p rd 0,.agg<|WR g gb,Z5 vs,.i t,.i b] [YD rd bs p,W2 gb rs] (fun r h=>∃(e:Z2) (p2:Nat),r=Yd e/\h=[YD rd bs p2,W2 gb rs]/\GE g vs.length (bS b) e/\p<=p2/\p2<=p+bC b):=by
 have Xz:=hg.decls.ok;have hgl:=hg.len;have hdl:=hg.decls.len;have hbm:=P2 b;have hcm:=P1 b;refine ZF 114 Tryz.func203<|ar (iA (WR g gb) fun b1=>iA [.i 0,.i 0,nl] fun b2=>ie<|X6 (Y4 ((b:Int)<3) (fun Za=>?_) fun Za=>?_))
 .refine Zt 4 [1]<|ic [2,2] (DY rd bs p g gb rs vs t (ZO:=ob)) ?_;rintro _ _ ⟨e1,p21,rfl,rfl,ZX⟩;have hle:=ZX.1;exact ZD 2 b2 (X5 e1)<|ie<|ZC<|r3 [1,1] [Yd e1] [0] [(b2,b2)] ⟨e1,p21,rfl,rfl,⟨hle.le hbm,by omega⟩⟩<|lr _
 have hb:3<=b:=by omega
 have hlc:=Zh0 hb;have hls:=Zh1 hb;refine ak<|YE 1<|ic [2] (Wm rd bs p 12 (ZO:=ob)) ?_;rintro _ _ ⟨k1,rfl,rfl,Yf⟩;have qhp2:=Yf.lt om;refine ie<|ab 0<|ar (YH (k1==0) Zq (fun Zf=>?_) fun Zf=>?_)
 .refine Zt 4 [2]<|ic [0,2] (DY rd bs (p+1) g gb rs vs t (ZO:=ob)) ?_;rintro _ _ ⟨e2,p22,rfl,rfl,YK⟩;have hle:=YK.1;exact ZD 2 b2 (X5 e2)<|ie<|ZC<|r3 [1,1] [Yd e2] [0] [(b2,b2)] ⟨e2,p22,rfl,rfl,⟨hle.le hbm,by omega⟩⟩<|lr _
 refine Yj<|XY (fun fz gz F h=>F=sF [0,2,3,4,6,10,22] fz [(30,.b ((k1==1)||(k1==2)))]/\h=gz) ?_ ?_
 .refine ac (k1==1) Zq (fun ZA=>?_) fun ZA=>?_
  .exact ak<|ZU ⟨rfl,rfl⟩<|ZH 4<|fc (x:=.b (k1==1)) (lb<|by first|rfl|(rw [Zg ZA])|(rw [Z8 ZA])|(simp [ZA];done)|(rw [XE];simp [ZA];done)|omega) fl
  exact TD<|ZU ⟨rfl,rfl⟩<|ZH 4<|fc (x:=.b (k1==2)) (lb<|by first|rfl|(rw [Zg ZA])|(rw [Z8 ZA])|(simp [ZA];done)|(rw [XE];simp [ZA];done)|omega) fl
 rintro F h ⟨rfl,rfl⟩;refine ac ((k1==1)||(k1==2)) (p:=(k1=1)∨(k1=2)) (Yi Zq Zq) (fun Ym=>?_) fun Ym=>?_
 .refine Zt 3 [2]<|ic [0,2] (Zbn rd bs (p+1) g gb rs vs (ZO:=ob)) ?_;rintro _ _ ⟨z1,rfl,rfl,YW⟩;refine Z0<|aD 20<|ZJ 15 20 [0,1,2,3,4] [3]<|dx 5 (Dc b 2 om om)<|ZJ 8 14 [7,8,9,10,13,14] [3]<|dx 15 (Dc b 2 om om)<|Ji (fun fz gz F h=>∃(e3:Z2) (e4:Z2) (p24:Nat) (p23:Nat),(GE g vs.length (bS (b / 2)) e3/\((p+1)+1)<=p23/\p23<=((p+1)+1)+bC (b / 2))/\(GE g (vs++[z1]).length (bS (b / 2)) e4/\p23<=p24/\p24<=p23+bC (b / 2))/\F=sF [10] fz []/\h=[.obj b2 (X5<|Z2.mk 13 0 [e3,e4]),YD rd bs p24,Ze gz 1,Ze gz 3]) ?_ ?_
  .refine VR 6 11 ?_ ?_
   .refine dc 6 [0,0] [1] [b1] (ih rd bs ((p+1)+1) vs z1 (b / 2) ob ob (by first|omega|(simp only [Yy,YR,Xx];omega)) ob) ?_;rintro _ _ ⟨e3,p23,rfl,rfl,Xl⟩;have hgehp5:=Xl.1;refine Z9 11 (dL 11 [3] [b1] (Z7 [z1]) 1 1 fun v1=>Yw 5 5 [] [(48,Z5 [z1])]<|Z9 12<|dc 12 [] [3] [b1] (J2 vs [z1]) ?_);rintro _ _ ⟨v2,rfl,rfl⟩;refine Yw 4 4 [] [(49,Z5 (vs++[z1]))]<|Z9 16<|dc 16 [2,2] [] [] (ih rd bs p23 (vs++[z1]) t (b / 2) ob ob (by first|omega|(simp only [Yy,YR,Xx];omega)) ob) ?_;rintro _ _ ⟨e4,p24,rfl,rfl,XS⟩;have hgehp6:=XS.1;exact Z9 17 (V1 17 [] [] [Yd e3,Yd e4] (YB [e3,e4]) (XZ [e3,e4]).symm 2 3 fun v3=>Yw 2 2 [] [(54,XM [e3,e4])]<|Z9 18<|Yu 18 [] [] [] (W5 13 0 [e3,e4])<|Z9 19<|YO 19 5 [] [] b2 (X5<|Z2.mk 13 0 [e3,e4])<|de<|ZU ⟨e3,e4,p24,_,(by assumption),(by assumption),rfl,rfl⟩<|wk [0,1,1,3] fl)
   refine dL 11 [3,3] [b1,b1] (Z7 [z1]) 1 1 fun v4=>Z9 6<|dc 6 [1,1] [1] [b1] (ih rd bs ((p+1)+1) vs z1 (b / 2) ob ob (by first|omega|(simp only [Yy,YR,Xx];omega)) ob) ?_
   rintro _ _ ⟨e5,p25,rfl,rfl,Wv⟩;have hgehp7:=Wv.1;refine Yw 5 5 [] [(48,Z5 [z1])] (Z9 12 (dc 12 [] [3] [b1] (J2 vs [z1]) ?_));rintro _ _ ⟨v5,rfl,rfl⟩;refine Yw 4 4 [] [(49,Z5 (vs++[z1]))] (Z9 16 (dc 16 [1,1] [] [] (ih rd bs p25 (vs++[z1]) t (b / 2) ob ob (by first|omega|(simp only [Yy,YR,Xx];omega)) ob) ?_));rintro _ _ ⟨e6,p26,rfl,rfl,WS⟩;have hgehp8:=WS.1;exact Z9 17 (V1 17 [] [] [Yd e5,Yd e6] (YB [e5,e6]) (XZ [e5,e6]).symm 2 3 fun v6=>Yw 2 2 [] [(54,XM [e5,e6])] (Z9 18 (Yu 18 [] [] [] (W5 13 0 [e5,e6]) (Z9 19 (YO 19 5 [] [] b2 (X5 (Z2.mk 13 0 [e5,e6])) (de (ZU ⟨e5,e6,p26,_,(by assumption),(by assumption),rfl,rfl⟩ (wk [0,1,1,3] fl))))))))
  rintro F h ⟨e3,e4,p24,p23,Xl,XS,rfl,rfl⟩;have hgehp5:=Xl.1;have hgehp6:=XS.1;exact ZC (r3 [1,1] [Yd (Z2.mk 13 0 [e3,e4])] [0] [(b2,b2)] ⟨(Z2.mk 13 0 [e3,e4]),p24,rfl,rfl,⟨GE.let_ (by assumption) (by have h:=‹GE g (vs++[_]).length (bS (b / 2)) _›;rw [Yy] at h;exact h) hls,by omega⟩⟩ (lr _))
 refine ar (YH (k1==3) Zq (fun Xm=>?_) fun Xm=>?_)
 .refine Zt 5 [2] (iL (Z7 [0,t,t]) 3 1 fun v7=>Z1 1<|ia (((b-1:Nat):Int)) (((b:Int))-(1))<|ZY 0 [(63,Z5 [0,t,t])]<|ic [1,3] (D5 rd bs (p+1) g gb rs vs [0,t,t] (b-1) b (ZO:=ob) (hp:=(Dd (p:=p) (by first|omega|simp) hb om om)) (ht:=(by first|omega|simp)) (hb:=om) (ih:=ih)) ?_);rintro _ _ ⟨ys1,p27,rfl,rfl,Vu⟩;have hga1:=Vu.1;have hga2:=Vu.2.1;have hga3:=Vu.2.2;have hnc:=BF (b:=b) (show (ys1).length<=3 by rw [hga1];first|omega|simp) hb (QV _ (b-1));rw [hga1] at hnc;exact Zx [] (W5 7 0 ys1)<|ZD 3 b2 (X5<|Z2.mk 7 0 ys1)<|ie<|ZC<|r3 [1,1] [Yd (Z2.mk 7 0 ys1)] [0] [(b2,b2)] ⟨(Z2.mk 7 0 ys1),p27,rfl,rfl,⟨GE.if_ om hga2 hga1<|FA (by simp) hb<|QV 3 _,by omega⟩⟩<|lr _
 refine Yj<|XY (fun fz gz F h=>F=sF [0,2,3,4,6,10,22] fz [(68,.b ((k1==4)||((k1==5)||(k1==6))))]/\h=gz) ?_ ?_
 .refine ac (k1==4) Zq (fun Xs=>?_) fun Xs=>?_
  .exact ak<|ZU ⟨rfl,rfl⟩<|ZH 4<|fc (x:=.b (k1==4)) (lb<|by first|rfl|(rw [Zg Xs])|(rw [Z8 Xs])|(simp [Xs];done)|(rw [XE];simp [Xs];done)|omega) fl
  refine ar (YH (k1==5) Zq (fun Ul=>?_) fun Ul=>?_)
  .exact ak<|ZU ⟨rfl,rfl⟩<|ZH 4<|fc (x:=.b (k1==5)) (lb<|by first|rfl|(rw [Zg Xs])|(rw [Z8 Xs])|(simp [Xs,Ul];done)|(rw [XE];simp [Xs,Ul];done)|omega) fl
  exact TD<|ZU ⟨rfl,rfl⟩<|ZH 4<|fc (x:=.b (k1==6)) (lb<|by first|rfl|(rw [Zg Xs])|(rw [Z8 Xs])|(simp [Xs,Ul];done)|(rw [XE];simp [Xs,Ul];done)|omega) fl
 rintro F h ⟨rfl,rfl⟩;refine ac ((k1==4)||((k1==5)||(k1==6))) (p:=(k1=4)∨((k1=5)∨(k1=6))) (Yi Zq (Yi Zq Zq)) (fun Uc=>?_) fun Uc=>?_
 .refine Zt 5 [2]<|ic [0,2] (Zc8 rd bs (p+1) g gb rs vs t b (ZO:=ob) (ih:=ih)) ?_;rintro _ _ ⟨e7,p28,rfl,rfl,T4⟩;have hgm:=T4.1;exact ZD 2 b2 (X5 e7)<|ie<|ZC<|r3 [1,1] [Yd e7] [0] [(b2,b2)] ⟨e7,p28,rfl,rfl,⟨hgm,by omega⟩⟩<|lr _
 refine Yj<|XY (fun fz gz F h=>F=sF [0,2,3,4,6,10] fz [(78,.b ((k1==7)||(k1==8)))]/\h=gz) ?_ ?_
 .refine ac (k1==7) Zq (fun Ud=>?_) fun Ud=>?_
  .exact ak<|ZU ⟨rfl,rfl⟩<|ZH 4<|fc (x:=.b (k1==7)) (lb<|by first|rfl|(rw [Zg Ud])|(rw [Z8 Ud])|(simp [Ud];done)|(rw [XE];simp [Ud];done)|omega) fl
  exact TD<|ZU ⟨rfl,rfl⟩<|ZH 4<|fc (x:=.b (k1==8)) (lb<|by first|rfl|(rw [Zg Ud])|(rw [Z8 Ud])|(simp [Ud];done)|(rw [XE];simp [Ud];done)|omega) fl
 rintro F h ⟨rfl,rfl⟩;refine ac ((k1==7)||(k1==8)) (p:=(k1=7)∨(k1=8)) (Yi Zq Zq) (fun Qc=>?_) fun Qc=>?_
 .refine Zt 2 [2]<|ic [3] (Zbr g gb rs t) ?_;rintro _ _ ⟨xs1,rfl,rfl,Tn⟩;have hcal:=Tn;refine Z0<|Y5 1<|iw (Yg xs1) (Y4 ((xs1.length:Int)>0) (fun Ao=>?_) fun Ao=>?_)
  .refine Y5 3<|iw (Yg xs1)<|ic [1] (Wm rd bs (p+1) (xs1.length:Int) (ZO:=ob)) ?_;rintro _ _ ⟨k2,rfl,rfl,To⟩;have qhp12:=To.lt om;obtain ⟨x1,Z3⟩:=Zs xs1 k2.toNat om;have hcv:=hcal.2 _ (Y0 Z3);refine Zo (Zl none k2 1<|Y3 Z3)<|Z0<|aD 15<|ZJ 8 15 [0,1,2,3,4,5,6] [3,3] ?_;obtain ⟨x2,Zr⟩:=Zs g.funcs x1.toNat om;have hso:=(hg.sigs _<|Y0 Zr).bd;refine dx 7 (W9 gb g.funcs.length 4 x1.toNat 5 x1)<|Zi 6 7 [8]<|Us 9 (Vj 1 gb 4 4 5 (x1.toNat * 5+0) (Zc<|XC rs) [Z5 x2.params] 31 (Z5 x2.params)<|Tl WL Zr 0 rfl<|Vx rfl)<|Zi 4 5 [10]<|da 11 (((b-1:Nat):Int)) (((b:Int))-(1))<|Z9 12<|dc 12 [0,0] [] [] (D5 rd bs ((p+1)+1) g gb rs vs x2.params (b-1) b (ZO:=ob) (hp:=(Dd (p:=p) (by first|omega|simp) hb om om)) (ht:=(by first|omega|simp)) (hb:=om) (ih:=ih)) ?_;rintro _ _ ⟨ys2,p29,rfl,rfl,K7⟩;have hga1:=K7.1;have hga2:=K7.2.1;have hga3:=K7.2.2;have hnc:=BF (b:=b) (show (ys2).length<=3 by rw [hga1];first|omega|simp) hb (QV _ (b-1));rw [hga1] at hnc;exact Z9 13<|Yu 13 [] [] [] (W5 9 x1 ys2)<|Z9 14<|YO 14 2 [] [] b2 (X5<|Z2.mk 9 x1 ys2)<|de<|ZC<|r3 [1,1] [Yd (Z2.mk 9 x1 ys2)] [0] [(b2,b2)] ⟨(Z2.mk 9 x1 ys2),p29,rfl,rfl,⟨GE.node om (fun _=>by omega) om hga2 hga1 (by first|omega|simp)<|FA (by first|omega|simp) hb<|QV _ _,by omega⟩⟩<|lr _
  refine ak<|Zt 5 [3]<|ic [1,0] (RU rd bs (p+1) g gb rs vs t b (ZO:=ob) (ih:=ih)) ?_;rintro _ _ ⟨e8,p210,rfl,rfl,QJ⟩;have hgm:=QJ.1;exact ZD 2 b2 (X5 e8)<|ie<|ZC<|r3 [1,1] [Yd e8] [0] [(b2,b2)] ⟨e8,p210,rfl,rfl,⟨hgm,by omega⟩⟩<|lr _
 refine ak<|Zt 5 [2]<|ic [0,2] (RU rd bs (p+1) g gb rs vs t b (ZO:=ob) (ih:=ih)) ?_;rintro _ _ ⟨e9,p211,rfl,rfl,Jp⟩;have hgm:=Jp.1;exact ZD 2 b2 (X5 e9)<|ie<|ZC<|r3 [1,1] [Yd e9] [0] [(b2,b2)] ⟨e9,p211,rfl,rfl,⟨hgm,by omega⟩⟩<|lr _
def KO (rd:Nat) (bs:LI) (p:Nat) (g:Wr) (gb:Nat) (rs:List Func) (vs:LI) (t:Int) (b:Nat) (ZO:∀z∈bs,0<=z/\z<=255) (hp:p+bC b<=1000000000:=by exact ob) (hg:GP g:=by exact ob) (WL:g.funcs <+: rs:=by exact ob) (hv:vs.length+3*b<=900:=by exact ob):Zj 203 [.p rd 0,.agg<|WR g gb,Z5 vs,.i t,.i b] [YD rd bs p,W2 gb rs] (fun r h=>∃(e:Z2) (p2:Nat),r=Yd e/\h=[YD rd bs p2,W2 gb rs]/\GE g vs.length (bS b) e/\p<=p2/\p2<=p+bC b):=by
 have key:∀k:Nat,∀(rd:Nat) (bs:LI) (p:Nat) (vs:LI) (t:Int) (b2:Nat),(∀z∈bs,0<=z/\z<=255)->(p+bC b2<=1000000000)->(vs.length+3*b2<=900)->(b2<k)->Zj 203 [.p rd 0,.agg<|WR g gb,Z5 vs,.i t,.i b2] [YD rd bs p,W2 gb rs] (fun r h=>∃(e:Z2) (p2:Nat),r=Yd e/\h=[YD rd bs p2,W2 gb rs]/\GE g vs.length (bS b2) e/\p<=p2/\p2<=p+bC b2):=by
  intro k
  induction k with
  | zero=>intro rd bs p vs t b2 h1 h2 h3 h4;omega
  | succ k ih=>intro rd bs p vs t b2 h1 h2 h3 h4;exact Zc9 rd bs p g gb rs vs t b2 h1 h2 hg WL h3 fun rd bs p vs t b3 q1 q2 q3 q4=>ih rd bs p vs t b3 q1 q2 q3 om
 exact key (b+1) rd bs p vs t b ZO hp hv om
end Go.Abs
