/-
  A part of the proof of FnOwnedAfterStepUptoSaid (see the last file): no condition.
-/
import Derived.Test.YtjmahledcmocoaaGreatOasD
set_option linter.all false
set_option linter.unusedVariables false
set_option linter.unusedSimpArgs false
set_option linter.unusedSectionVars false
set_option maxRecDepth 10000
set_option maxHeartbeats 4000000
namespace Go.Abs
open Go.Proofs
theorem Z4n (b:Z9) (t:Int) (hz:b.sz<=1000000) (ih:∀(b2:Z9) (t:Int),(b2.sz<=1000000)->(b2.sz<b.sz)->Zl 276 [ZZ b2,.i t] [] (fun r h=>∃(wr:Bool),r=.b wr/\h=[])):Zl 276 [ZZ b,.i t] [] (fun r h=>∃(wr:Bool),r=.b wr/\h=[]):=by
 have ZH:=VS b
 have hbl:=KV b.steps
 have hbe:=b.sz_eq
 refine ZG 53 Tryz.func276 (ar (iA (Xk b) fun b1=>?_))
 refine Z0 (Yb (ab 0 (Y4 (fun fz gz m F h=>∃(k:Nat),(k<=b.steps.length)/\F=sF [1,2] fz [(5,.i k)]/\h=gz/\m=b.steps.length-k) _ _ _ ⟨0,ob,rfl,rfl,rfl⟩ (wk [0] (Yd fl)) ?_)))
 rintro m F h ⟨k,Yg,rfl,rfl,rfl⟩
 refine Yi 3 [0] (iw (VF b.steps) (Y0 ((k:Int)<(b.steps.length:Int)) (fun Za=>?_) (fun Za=>?_)))
 ·refine ak (aq (ab 1 (Yi 3 [0] ?_)))
  obtain ⟨x1,Z3⟩:=Zt b.steps k om
  have hxs:=LD (Y2 Z3)
  have hxe:=(x1).sz_eq
  have hxk:=Tv x1
  refine Zm (Zh none (k:Int) 5 (WD Z3)) (Xo [1,2,5] [(30,.b ((x1.op==10)&&(x1.num==t)))] (fun gz=>gz) ?_ ?_)
  ·refine Z2 4 (ib (b:=(x1.op==10)) 21 (fun Zb=>?_) (fun Zb=>?_))
   ·exact ZM 3 [0] (Zm (Zh none (k:Int) 5 (WD Z3)) (Z0 (wk [0] (Zu (x1.num==t) Zb fl))))
   exact Z0 (wk [0] (Zu false Zb fl))
  refine ac ((x1.op==10)&&(x1.num==t)) (p:=(x1.op=10)/\(x1.num=t)) (YH Zp Zp) (fun Zg=>?_) (fun Zg=>?_)
  ·exact ar (Zq (r1 [] ⟨true,rfl,rfl⟩))
  refine ak (ZF (ab 2 (Y4 (fun fz gz m F h=>∃(j:Nat),(j<=x1.kids.length)/\F=sF [1,2,5] fz [(6,.i j)]/\h=gz/\m=x1.kids.length-j) _ _ _ ⟨0,ob,rfl,rfl,rfl⟩ (wk [0] (Yd fl)) ?_)))
  rintro m F h ⟨j,Uo,rfl,rfl,rfl⟩
  refine Yi 4 [0] (Zm (Zh none (k:Int) 5 (WD Z3)) (Z2 2 (iw (Ue x1.kids) (Y0 ((j:Int)<(x1.kids.length:Int)) (fun ZC=>?_) (fun ZC=>?_)))))
  ·refine ak (aq (ab 3 (Zv 3 [0] (Zm (Zh none (k:Int) 5 (WD Z3)) (Z2 3 ?_)))))
   obtain ⟨x2,Zr⟩:=Zt x1.kids j om
   have hkx:=Hm (Y2 Zr)
   refine Zm (Zh none (j:Int) 2 (UR Zr)) (Z2 2 (ic [] (ih x2 t ob ob) ?_))
   rintro _ _ ⟨wr1,rfl,rfl⟩
   refine ie (ac wr1 Iff.rfl (fun Ye=>?_) (fun Ye=>?_))
   ·exact ar (Zq (r1 [] ⟨true,rfl,rfl⟩))
   exact ak (az (Z2 1 (ZK j (Z0 (ZL ⟨j+1,ob,rfl,rfl,rfl⟩ (wk [0] (ZO j fl)))))))
  exact ax 2 (az (Z2 1 (ZK k (Z0 (ZL ⟨k+1,ob,rfl,rfl,rfl⟩ (wk [0] (ZO k fl)))))))
 exact ax 0 (ar (Zq (r1 [] ⟨false,rfl,rfl⟩)))
theorem Z4m (b:Z9) (t:Int) (hz:b.sz<=1000000:=by exact ob):Zl 276 [ZZ b,.i t] [] (fun r h=>∃(wr:Bool),r=.b wr/\h=[]):=by
 have key:∀k:Nat,∀(b2:Z9) (t:Int),(b2.sz<=1000000)->(b2.sz<k)->Zl 276 [ZZ b2,.i t] [] (fun r h=>∃(wr:Bool),r=.b wr/\h=[]):=by
  intro k
  induction k with
  | zero=>intro b2 t h1 h2;omega
  | succ k ih=>intro b2 t h1 h2;exact Z4n b2 t h1 fun b3 t3 q1 q2=>ih b3 t3 q1 om
 exact key (b.sz+1) b t hz om
theorem Z55 (n:Zk) (t:Int) (qz:Nat) (hn:FN n qz:=by exact ob) (hqz:qz<=100000:=by exact ob):Zl 233 [Yn n,.i t] [] (fun r h=>∃(wr:Bool),r=.b wr/\h=[]):=by
 have hnl:=hn.len
 refine ZG 21 Tryz.func233 (ar (iA (YT n) fun b1=>?_))
 refine Z0 (Yb (ab 0 (Y4 (fun fz gz m F h=>∃(k:Nat),(k<=n.routines.length)/\F=sF [1,2] fz [(5,.i k)]/\h=gz/\m=n.routines.length-k) _ _ _ ⟨0,ob,rfl,rfl,rfl⟩ (wk [0] (Yd fl)) ?_)))
 rintro m F h ⟨k,Yg,rfl,rfl,rfl⟩
 refine Yi 3 [0] (iw (Uq n.routines) (Y0 ((k:Int)<(n.routines.length:Int)) (fun Za=>?_) (fun Za=>?_)))
 ·refine ak (aq (ab 1 (Zv 3 [0] ?_)))
  obtain ⟨x1,Z3⟩:=Zt n.routines k om
  have hbz:=(hn.body _ (Y2 Z3)).2
  refine Zm (Zh none (k:Int) 5 (Wv Z3)) (Z2 3 (ic [] (Z4m x1.body t) ?_))
  rintro _ _ ⟨wr1,rfl,rfl⟩
  refine ie (ac wr1 Iff.rfl (fun Zg=>?_) (fun Zg=>?_))
  ·exact ar (Zq (r1 [] ⟨true,rfl,rfl⟩))
  exact ak (az (Z2 1 (ZK k (Z0 (ZL ⟨k+1,ob,rfl,rfl,rfl⟩ (wk [0] (ZO k fl)))))))
 exact ax 0 (ar (Zq (r1 [] ⟨false,rfl,rfl⟩)))
theorem NF (fs:LI) (q:Nat) (hl:fs.length<=1000000:=by exact ob) (hq:q<=1000000:=by exact ob):Zl 234 [Z4 fs,.i q] [] (fun r h=>∃(xs:LI),r=Z4 xs/\h=[]/\xs.length<=fs.length/\∀i∈xs,(q:Int)<=i/\i<(q:Int)+fs.length):=by
 refine ZG 26 Tryz.func234 (ZF (ar (iL (Z6 []) 0 1 fun v1=>?_)))
 refine Z0 (Yb (ab 0 (Y4 (fun fz gz m F h=>∃(k:Nat) (ys:LI) (u:Value),(k<=fs.length)/\(ys.length<=k)/\(∀i∈ys,(q:Int)<=i/\i<(q:Int)+fs.length)/\F=sF [0,1] fz [(5,ZT ys u),(6,.i k)]/\h=[.tail u 1]/\m=fs.length-k) _ _ _ ⟨0,[],v1,ob,ob,(fun i hi=>by cases hi),rfl,rfl,rfl⟩ (wk [0] (fr (Yd fl))) ?_)))
 rintro m F h ⟨k,ys,u,Yg,Zi,Zw,rfl,rfl,rfl⟩
 refine YL 2 (iw (Y6 fs) (Y0 ((k:Int)<(fs.length:Int)) (fun Za=>?_) (fun Za=>?_)))
 ·refine ak (aq (ab 1 (Y5 2 ?_)))
  obtain ⟨x1,Z3⟩:=Zt fs k om
  refine Zm (Zh none (k:Int) 1 (ZY Z3)) (YB (x1 != 0) Yl (fun Zg=>?_) (fun Zg=>?_))
  ·exact az (Z2 3 (ia (((q+k:Nat):Int)) (((q:Int))+((k:Int))) (iL (Z6 [((q+k:Nat):Int)]) 1 1 fun v2=>ZP 0 [(23,Z4 [((q+k:Nat):Int)])] (ip 1 (Z6 (ys++[((q+k:Nat):Int)])) (Z6 ys) (Z6 [((q+k:Nat):Int)]) u none 1 (YA _) (YA _) (W6 _) (by simp<;>omega) (by simp [W5,Z6]) fun v3=>Z0 (az (Z2 1 (ZK k (Z0 (ZL ⟨k+1,(ys++[((q+k:Nat):Int)]),v3,ob,ob,(Xz Zw om),rfl,rfl,rfl⟩ (wk [0] (fr (ZO k fl))))))))))))
  exact ak (az (Z2 1 (ZK k (Z0 (ZL ⟨k+1,ys,u,ob,ob,ob,rfl,rfl,rfl⟩ (wk [0] (fr (ZO k fl))))))))
 exact ax 0 (ar (Zq (r2 [] [ZT ys u] ⟨ys,rfl,rfl,⟨by omega,Zw⟩⟩ (Zd.forget _ _))))
theorem Nz (n:Zk) (qz:Nat) (hn:FN n qz:=by exact ob) (hqz:qz<=100000:=by exact ob):Zl 178 [Yn n] [] (fun r h=>∃(xs:List LI),r=QM xs/\h=[]/\LC n n.routines.length xs):=by
 have hnl:=hn.len
 refine ZG 31 Tryz.func178 (ar (iA (YT n) fun b1=>Z0 (ar (iL (Wk []) 0 1 fun v1=>?_))))
 refine Z0 (Yb (ab 0 (Y4 (fun fz gz m F h=>∃(k:Nat) (ys:List LI) (u:Value),(k<=n.routines.length)/\(ys.length=k)/\(LC n k ys)/\F=sF [1] fz [(3,B4 ys u),(4,.i k)]/\h=[Zc gz 1,.tail u 1]/\m=n.routines.length-k) _ _ _ ⟨0,[],v1,ob,ob,LC.nil,rfl,rfl,rfl⟩ (wk [1,0] (fr (Yd fl))) ?_)))
 rintro m F h ⟨k,ys,u,Yg,Zi,Zw,rfl,rfl,rfl⟩
 refine Yi 3 [0] (iw (Uq n.routines) (Y0 ((k:Int)<(n.routines.length:Int)) (fun Za=>?_) (fun Za=>?_)))
 ·refine ak (aq (ab 1 (Zv 2 [0] (ic [] (Z55 n (k:Int) qz) ?_))))
  rintro _ _ ⟨wr1,rfl,rfl⟩
  refine ie (ac wr1 Iff.rfl (fun Zg=>?_) (fun Zg=>?_))
  ·exact az (Z2 1 (iL (Z6 []) 0 1 fun v2=>ZP 0 [(17,Z4 [])] (iL (Wk [[]]) 1 1 fun v3=>ZP 0 [(18,QM [[]])] (ip 3 (Wk (ys++[[]])) (Wk ys) (Wk [[]]) u none 1 (AM _) (AM _) (F8 _) (by simp<;>omega) (by simp [HN,Wk]) fun v4=>Z0 (az (Z2 1 (ZK k (Z0 (ZL ⟨k+1,(ys++[[]]),v4,ob,ob,(Zw.snoc (by simp) (fun r hr v hv=>by cases hv)),rfl,rfl,rfl⟩ (wk [3,0] (fr (ZO k fl))))))))))))
  refine az (ZM 4 [0] ?_)
  obtain ⟨x1,Z3⟩:=Zt n.routines k om
  have hrp:=(FN.ok hn).params_at Z3
  have hss:=(TA.bd (f:=⟨(x1).params,(x1).result,default⟩) (hn.sigs _ (Y2 Z3))).1
  refine Zm (Zh none (k:Int) 5 (Wv Z3)) (Z2 2 (ic [] (NF x1.params 0) ?_))
  rintro _ _ ⟨xs1,rfl,rfl,ZW⟩
  have hhf:=ZW
  exact iL (Wk [xs1]) 1 1 fun v5=>ZP 0 [(28,QM [xs1])] (ip 2 (Wk (ys++[xs1])) (Wk ys) (Wk [xs1]) u none 1 (AM _) (AM _) (F8 _) (by simp<;>omega) (by simp [HN,Wk]) fun v6=>Z0 (az (Z2 1 (ZK k (Z0 (ZL ⟨k+1,(ys++[xs1]),v6,ob,ob,(Zw.snoc om (fun r hr v hv=>by rw [Z3] at hr;cases hr;have:=hhf.2 v hv;omega)),rfl,rfl,rfl⟩ (wk [2,0] (fr (ZO k fl)))))))))
 exact ax 0 (ar (Zq (r2 [] [B4 ys u] ⟨ys,rfl,rfl,(by rw [show n.routines.length=k by omega];exact Zw)⟩ (Zd.forget _ _))))
theorem Z4q (n:Zk) (b:Z9) (t:Int) (mq:Nat) (hn:X4 n) (hf:fB n.decls n.routines.length mq b) (hz:b.sz<=1000000) (ih:∀(b2:Z9) (t:Int) (m2:Nat),(fB n.decls n.routines.length m2 b2)->(b2.sz<=1000000)->(b2.sz<b.sz)->Zl 235 [Yn n,ZZ b2,.i t] [] (fun r h=>∃(wr:Bool),r=.b wr/\h=[])):Zl 235 [Yn n,ZZ b,.i t] [] (fun r h=>∃(wr:Bool),r=.b wr/\h=[]):=by
 have hbl:=KV b.steps
 have hbe:=b.sz_eq
 refine ZG 68 Tryz.func235 (ar (iA (YT n) fun b1=>iA (Xk b) fun b2=>Z0 (X0 (Vo [0] (ac (b.result==t) Zp (fun Za=>?_) (fun Za=>?_))))))
 ·exact ar (Zq (r1 [] ⟨true,rfl,rfl⟩))
 refine ak (Yb (ab 0 (Y4 (fun fz gz m F h=>∃(k:Nat),(k<=b.steps.length)/\F=sF [2,3,4] fz [(7,.i k)]/\h=gz/\m=b.steps.length-k) _ _ _ ⟨0,ob,rfl,rfl,rfl⟩ (wk [0,0] (Yd fl)) ?_)))
 rintro m F h ⟨k,Yg,rfl,rfl,rfl⟩
 refine Yi 3 [0] (iw (VF b.steps) (Y0 ((k:Int)<(b.steps.length:Int)) (fun Zg=>?_) (fun Zg=>?_)))
 ·refine ak (aq (ab 1 (Zv 3 [0] ?_)))
  obtain ⟨x1,Z3⟩:=Zt b.steps k om
  have hfs:=(Fd x1).1 (DF ((DD b).1 hf).1 Z3)
  have hxs:=LD (Y2 Z3)
  have hxe:=(x1).sz_eq
  have hxk:=Tv x1
  refine Zm (Zh none (k:Int) 5 (WD Z3)) (Z2 1 (iA [.i 0,.i 0,.i 0,nl,nl] fun b3=>?_))
  refine ZI 0 b3 (Xv x1) (ie (Yb (ab 2 (Y4 (fun fz gz m F h=>∃(j:Nat),(j<=x1.args.length)/\F=sF [2,3,4,7,8] fz [(9,.i j)]/\h=gz/\m=x1.args.length-j) _ _ _ ⟨0,ob,rfl,rfl,rfl⟩ (ZE 3 (Yd fl)) ?_))))
  rintro m F h ⟨j,Uo,rfl,rfl,rfl⟩
  refine Yi 3 [0] (iw (Y6 x1.args) (Y0 ((j:Int)<(x1.args.length:Int)) (fun ZC=>?_) (fun ZC=>?_)))
  ·refine ak (aq (ab 3 (Zv 3 [0] ?_)))
   obtain ⟨x2,Zr⟩:=Zt x1.args j om
   refine Zm (Zh none (j:Int) 1 (ZY Zr)) (XK 12 [2,3,4,7,8,9] [(45,.b ((x2==t)&&T9 x1.op))] (fun gz=>gz) ?_ (fun hj1=>?_))
   ·refine Xo [2,3,4,7,8,9] [(52,.b (((x2==t)&&T9 x1.op)&&(!WO n x1.op x1.num j)))] (fun gz=>gz) ?_ ?_
    ·refine Z2 1 (ib (b:=((x2==t)&&T9 x1.op)) 46 (fun Zb=>?_) (fun Zb=>?_))
     ·exact ZM 3 [2,0] (Zz [] (Eh n x1 j (hnum:=hfs.call)) (Z0 (ZE 3 (Zu (!WO n x1.op x1.num j) Zb fl))))
     exact Z0 (ZE 3 (Zu false Zb fl))
    refine ac (((x2==t)&&T9 x1.op)&&(!WO n x1.op x1.num j)) (p:=((x2=t)/\(T9 x1.op=true))/\(¬(WO n x1.op x1.num j=true))) (YH (YH Zp Iff.rfl) (Yo Iff.rfl)) (fun Ye=>?_) (fun Ye=>?_)
    ·exact ar (Zq (r1 [] ⟨true,rfl,rfl⟩))
    exact ak (az (Z2 1 (ZK j (Z0 (ZL ⟨j+1,ob,rfl,rfl,rfl⟩ (ZE 3 (ZO j fl)))))))
   refine Z2 4 (ib (b:=(x2==t)) 41 (fun ZA=>?_) (fun ZA=>?_))
   ·exact ZM 2 [0] (Zz [] (Rq x1.op) (Z2 1 (Yu (ZE 3 (Zu (T9 x1.op) ZA fl)) hj1)))
   exact Z2 4 (Yu (ZE 3 (Zu false ZA fl)) hj1)
  refine ax 2 (ZF (ab 4 (Y4 (fun fz gz m F h=>∃(j:Nat),(j<=x1.kids.length)/\F=sF [2,3,4,7,8] fz [(10,.i j)]/\h=gz/\m=x1.kids.length-j) _ _ _ ⟨0,ob,rfl,rfl,rfl⟩ (ZE 3 (Yd fl)) ?_)))
  rintro m F h ⟨j,MH,rfl,rfl,rfl⟩
  refine Yi 3 [0] (iw (Ue x1.kids) (Y0 ((j:Int)<(x1.kids.length:Int)) (fun Xf=>?_) (fun Xf=>?_)))
  ·refine ak (aq (ab 5 (aD 8 (ZJ 4 8 [0,1,2,3] [2,0] ?_))))
   obtain ⟨x3,YI⟩:=Zt x1.kids j om
   have hkx:=Hm (Y2 YI)
   have hfk:=DE hfs.kids YI
   refine dx 4 (Zh none (j:Int) 2 (UR YI)) (Zj 1 3 [5,6] (Z7 7 (dc 7 [] [] [] (ih x3 t (Tj n.decls x1.op x1.num (mq+YZ (b.steps.take k)) (0+j)) hfk ob ob) ?_)))
   rintro _ _ ⟨wr1,rfl,rfl⟩
   refine de (ac wr1 Iff.rfl (fun Xb=>?_) (fun Xb=>?_))
   ·exact ar (Zq (r1 [] ⟨true,rfl,rfl⟩))
   exact ak (az (Z2 1 (ZK j (Z0 (ZL ⟨j+1,ob,rfl,rfl,rfl⟩ (ZE 3 (ZO j fl)))))))
  exact ax 4 (az (Z2 1 (ZK k (Z0 (ZL ⟨k+1,ob,rfl,rfl,rfl⟩ (wk [1,1] (ZO k fl)))))))
 exact ax 0 (ar (Zq (r1 [] ⟨false,rfl,rfl⟩)))
theorem Z4p (n:Zk) (b:Z9) (t:Int) (mq:Nat) (hn:X4 n:=by exact ob) (hf:fB n.decls n.routines.length mq b:=by exact ob) (hz:b.sz<=1000000:=by exact ob):Zl 235 [Yn n,ZZ b,.i t] [] (fun r h=>∃(wr:Bool),r=.b wr/\h=[]):=by
 have key:∀k:Nat,∀(b2:Z9) (t:Int) (m2:Nat),(fB n.decls n.routines.length m2 b2)->(b2.sz<=1000000)->(b2.sz<k)->Zl 235 [Yn n,ZZ b2,.i t] [] (fun r h=>∃(wr:Bool),r=.b wr/\h=[]):=by
  intro k
  induction k with
  | zero=>intro b2 t m2 h1 h2 h3;omega
  | succ k ih=>intro b2 t m2 h1 h2 h3;exact Z4q n b2 t m2 hn h1 h2 fun b3 t3 m3 q1 q2 q3=>ih b3 t3 m3 q1 q2 om
 exact key (b.sz+1) b t mq hf hz om
theorem Z56 (n:Zk) (rt:Yf) (i:Nat) (qz:Nat) (hn:FN n qz:=by exact ob) (hqz:qz<=100000:=by exact ob) (hr:n.routines[i]? = some rt:=by exact ob):Zl 179 [Yn n,.i i] [] (fun r h=>∃(xs:LI),r=Z4 xs/\h=[]/\xs.length<=rt.lent.length/\∀v∈xs,v∈rt.lent):=by
 have hok:=FN.ok hn
 have hrl:=hn.lent rt (Y2 hr)
 have hrb:=hn.body rt (Y2 hr)
 obtain ⟨hil,_⟩:=Xp.1 hr
 have hnl:=hn.len
 refine ZG 50 Tryz.func179 (ar (iA (YT n) fun b1=>Z0 (ar (iL (Z6 []) 0 1 fun v1=>?_))))
 refine Z0 (Yb (ab 0 (Y4 (fun fz gz m F h=>∃(k:Nat) (ys:LI) (u:Value),(k<=rt.lent.length)/\(ys.length<=k)/\(∀v∈ys,v∈rt.lent)/\F=sF [1,2] fz [(5,ZT ys u),(6,.i k)]/\h=[Zc gz 1,.tail u 1]/\m=rt.lent.length-k) _ _ _ ⟨0,[],v1,ob,ob,(fun v hv=>by cases hv),rfl,rfl,rfl⟩ (wk [1,0] (fr (Yd fl))) ?_)))
 rintro m F h ⟨k,ys,u,Yg,Zi,Zw,rfl,rfl,rfl⟩
 refine Yi 4 [0] (Zm (Zh none (i:Int) 5 (Wv hr)) (Z2 2 (iw (Y6 rt.lent) (Y0 ((k:Int)<(rt.lent.length:Int)) (fun Za=>?_) (fun Za=>?_)))))
 ·refine ak (aq (ab 1 (aD 18 (ZJ 14 18 [0,1,2,3] [0,0] (dx 4 (Zh none (i:Int) 5 (Wv hr)) (ZJ 8 13 [5,6,7,8,9] [0] (dx 10 (Zh none (i:Int) 5 (Wv hr)) (Zj 4 7 [11,12,13] ?_))))))))
  obtain ⟨x1,Z3⟩:=Zt rt.lent k om
  refine dx 14 (Zh none (k:Int) 1 (ZY Z3)) (Zj 2 3 [15] (Z7 16 (dc 16 [] [] [] (Z4p n rt.body x1 rt.params.length (hn:=hok) (hf:=hrb.1)) ?_)))
  rintro _ _ ⟨wr1,rfl,rfl⟩
  refine Zj 0 1 [17] (de (ac (!wr1) (p:=¬(wr1=true)) (Yo Iff.rfl) (fun Zg=>?_) (fun Zg=>?_)))
  ·exact az (ZM 4 [0] (Zm (Zh none (i:Int) 5 (Wv hr)) (Z2 3 (Zm (Zh none (k:Int) 1 (ZY Z3)) (Z2 1 (iL (Z6 [x1]) 1 1 fun v2=>ZP 0 [(47,Z4 [x1])] (ip 2 (Z6 (ys++[x1])) (Z6 ys) (Z6 [x1]) u none 1 (YA _) (YA _) (W6 _) (by simp<;>omega) (by simp [W5,Z6]) fun v3=>Z0 (az (Z2 1 (ZK k (Z0 (ZL ⟨k+1,(ys++[x1]),v3,ob,ob,(Xz Zw (Y2 Z3)),rfl,rfl,rfl⟩ (wk [2,0] (fr (ZO k fl)))))))))))))))
  exact ak (az (Z2 1 (ZK k (Z0 (ZL ⟨k+1,ys,u,ob,ob,ob,rfl,rfl,rfl⟩ (wk [0,0] (fr (ZO k fl))))))))
 exact ax 0 (ar (Zq (r2 [] [ZT ys u] ⟨ys,rfl,rfl,⟨by omega,Zw⟩⟩ (Zd.forget _ _))))
theorem Zcn (s:Z5) (ih:∀(b2:Z9),(b2.sz<s.sz)->(b2.sz<=1000000000)->Zl 97 [ZZ b2] [] (Yv (ZZ b2))) (hz:s.sz<=1000000000):Zl 139 [YG s] [] (Yv (YG s)):=by
 have hkz:=Tv s
 have haz:=Qf s
 refine ZG 33 Tryz.func139 (ar (iA (Xv s) fun b1=>iA [.i 0,.i 0,.i 0,nl,nl] fun b2=>ie (ar (iL (YK []) 0 2 fun v1=>?_))))
 refine Z0 (Yb (ab 0 (Y4 (fun fz gz m F h=>∃(k:Nat) (v:Value),(k<=s.kids.length)/\F=sF [1,2] fz [(3,Ti (s.kids.take k) v),(4,.i k)]/\h=[Zc gz 1,Zc gz 2,.tail v 2]/\m=s.kids.length-k) _ _ _ ⟨0,v1,ob,rfl,rfl,rfl⟩ (wk [1,1,0] (fc (x:=Ti [] v1) (Zd.slh _ (Ym YK rfl)) (Yd fl))) ?_)))
 rintro m F h ⟨k,v,Yg,rfl,rfl,rfl⟩
 refine Yi 3 [1] (iw (Ue s.kids) (Y0 ((k:Int)<(s.kids.length:Int)) (fun Za=>?_) (fun Za=>?_)))
 ·refine ak (aq (ab 1 (az (ZM 4 [1] ?_))))
  obtain ⟨x1,Z3⟩:=Zt s.kids k om
  have hks:=Tt Z3
  exact Zm (Zh none (k:Int) 2 (UR Z3)) (Z2 1 (Zz [] (ih x1 ob ob) (iL [ZZ x1] 1 2 fun v2=>ZP 0 [(20,.sl [ZZ x1] none)] (ip 3 (YK (s.kids.take (k+1))) (YK (s.kids.take k)) [ZZ x1] v none 2 (TK _) (Qk rfl) rfl (by simp<;>omega) (by rw [V7 Z3];simp [Tb]) fun v3=>Z0 (az (Z2 1 (ZK k (Z0 (ZL ⟨k+1,v3,ob,rfl,rfl,rfl⟩ (wk [2,2,0] (fr (ZO k fl))))))))))))
 refine ax 0 (aD 12 (ZJ 3 12 [0,1,2,3,4,5,6,7,9] [1,1,1,1] (Z7 8 (dc 8 [] [1,1,1] [b1,b1,b1] (Ub s.args) ?_))))
 rintro _ _ ⟨v4,rfl,rfl⟩
 exact Zj 1 2 [10] (Z7 11 (YJ 11 1 [] [] b2 [.i s.op,.i s.num,.i s.into,ZT s.args v4,Ti (s.kids.take k) v] (de (ZD (r3 [] [.agg [.i s.op,.i s.num,.i s.into,ZT s.args v4,Ti (s.kids.take k) v]] [0] [(b2,b2)] ⟨rfl,rfl⟩ (Zd.agg (.cons (lr _) (.cons (lr _) (.cons (lr _) (.cons (Zd.forget _ _) (.cons (Zd.sl _ (Ym YK (by rw [Vq om]))) .nil)))))))))))
theorem Zcm (b:Z9) (ih:∀(s2:Z5),(s2.sz<b.sz)->(s2.sz<=1000000000)->Zl 139 [YG s2] [] (Yv (YG s2))) (hz:b.sz<=1000000000):Zl 97 [ZZ b] [] (Yv (ZZ b)):=by
 have hbz:=VS b
 refine ZG 28 Tryz.func97 (ar (iA (Xk b) fun b1=>iA [nl,.i 0] fun b2=>ie (ar (iL (Zy []) 0 5 fun v1=>ZM 3 [2] (iA [nl,.i 0] fun b3=>?_)))))
 refine ZI 0 b3 [YY [] v1,.i b.result] (ie (Yb (ab 0 (Y4 (fun fz gz m F h=>∃(k:Nat) (v:Value),(k<=b.steps.length)/\F=sF [1,2,3] fz [(4,.i k)]/\h=[.obj b3 [YY (b.steps.take k) v,.i b.result],Zc gz 2,Zc gz 3,.tail v 5]/\m=b.steps.length-k) _ _ _ ⟨0,v1,ob,rfl,rfl,rfl⟩ (wk [0,1,1,0] (Yd fl)) ?_))))
 rintro m F h ⟨k,v,Yg,rfl,rfl,rfl⟩
 refine Yi 3 [2] (iw (VF b.steps) (Y0 ((k:Int)<(b.steps.length:Int)) (fun Za=>?_) (fun Za=>?_)))
 ·refine ak (aq (ab 1 (aE 12 (ZJ 7 12 [0,1,2,3,4] [0,2] ?_))))
  obtain ⟨x1,Z3⟩:=Zt b.steps k om
  have hss:=Kl Z3
  exact dx 5 (Zh none (k:Int) 5 (WD Z3)) (Zj 5 6 [6] (Z7 7 (Yp 7 [] [0] [b3] (ih x1 ob ob) (Z7 8 (dL 8 [0] [b3] [YG x1] 1 5 fun v2=>Yr 3 3 [] [(24,.sl [YG x1] none)] (Z7 9 (dp 9 4 [] [] (Zy (b.steps.take (k+1))) (Zy (b.steps.take k)) [YG x1] v none 5 (Xj _) (Qk rfl) rfl (by simp<;>omega) (by rw [V7 Z3];simp [VG]) fun v3=>Zj 1 2 [10] (Z7 11 (YJ 11 2 [] [] b3 [YY (b.steps.take (k+1)) v3,.i b.result] (de (az (Z2 1 (ZK k (Z0 (ZL ⟨k+1,v3,ob,rfl,rfl,rfl⟩ (wk [0,2,2,0] (ZO k fl)))))))))))))))))
 exact ax 0 (Zv 1 [0] (ZI 1 b2 [YY (b.steps.take k) v,.i b.result] (ie (ZD (r3 [] [.agg [YY (b.steps.take k) v,.i b.result]] [0] [(b2,b2)] ⟨rfl,rfl⟩ (Zd.agg (.cons (Zd.sl _ (Ym Zy (by rw [Vq om]))) (.cons (lr _) .nil))))))))
theorem Rs (k:Nat):(∀(s:Z5),(s.sz<=k)->(s.sz<=1000000000)->Zl 139 [YG s] [] (Yv (YG s)))/\(∀(b:Z9),(b.sz<=k)->(b.sz<=1000000000)->Zl 97 [ZZ b] [] (Yv (ZZ b))):=by
 induction k with
 | zero=>exact ⟨fun s h=>by have:=s.sz_pos;omega,fun s h=>by have:=s.sz_pos;omega⟩
 | succ k ih=>exact ⟨fun s h hz=>Zcn s (fun b2 h2 h3=>ih.2 b2 om h3) hz,fun b h hz=>Zcm b (fun s2 h2 h3=>ih.1 s2 om h3) hz⟩
theorem Rr (s:Z5) (hz:s.sz<=1000000000:=by exact ob):Zl 139 [YG s] [] (Yv (YG s)):=(Rs s.sz).1 s (X5 _) hz
theorem Gx (b:Z9) (hz:b.sz<=1000000000:=by exact ob):Zl 97 [ZZ b] [] (Yv (ZZ b)):=(Rs b.sz).2 b (X5 _) hz
theorem Ft (n:Zk) (ls:List LI) (qz:Nat) (hn:FO n qz WR:=by exact ob) (hqz:qz<=100000:=by exact ob) (hls:LC n n.routines.length ls:=by exact ob):Zl 57 [Yn n,QM ls] [] (fun r h=>∃(n2:Zk),r=Yn n2/\h=[]/\FO n2 qz WR/\n2.routines.length=n.routines.length):=by
 have hnl:=hn.fn.len
 have Xt:=hn.fn.decls.ok
 have hll:=hls.len
 refine ZG 45 Tryz.func57 (ar (iA (YT n) fun b1=>iA [nl,nl] fun b2=>ie (Zv 2 [1] (Zz [] (C7 n.decls) (iL (YP []) 0 5 fun v1=>Z2 1 (iA [nl,nl] fun b3=>?_))))))
 refine ZI 0 b3 [ZU n.decls,WF [] v1] (ie (Yb (ab 0 (Y4 (fun fz gz m F h=>∃(k:Nat) (rs:List Yf) (u:Value),(k<=n.routines.length)/\(rs.length=k)/\(∀r∈rs,RF n.decls n.routines.length qz WR r)/\F=sF [1,2,4,5] fz [(6,.i k)]/\h=[.obj b3 [ZU n.decls,WF rs u],Zc gz 2,Zc gz 3,.tail u 5]/\m=n.routines.length-k) _ _ _ ⟨0,[],v1,ob,ob,(fun r hr=>by cases hr),rfl,rfl,rfl⟩ (wk [0,1,1,0] (Yd fl)) ?_))))
 rintro m F h ⟨k,rs,u,Yg,Zi,Zw,rfl,rfl,rfl⟩
 refine Yi 3 [2] (iw (Uq n.routines) (Y0 ((k:Int)<(n.routines.length:Int)) (fun Za=>?_) (fun Za=>?_)))
 ·refine ak (aq (ab 1 (Zv 3 [2] ?_)))
  obtain ⟨x1,Z3⟩:=Zt n.routines k om
  have hrf:=hn.rf (Y2 Z3)
  have hrp:=hn.fn.ok.params_at Z3
  have hrz:=hrf.body.2
  refine Zm (Zh none (k:Int) 5 (Wv Z3)) (Z2 1 (iA [nl,nl,.i 0,nl,.i 0] fun b4=>ZI 0 b4 (KM x1) (ie (aE 20 (ZJ 14 20 [0,1,2,3,5,6] [1,0] ?_)))))
  obtain ⟨x2,Zr⟩:=Zt ls k om
  have hlc:=hls.at Zr Z3
  refine dx 7 (Zh none (k:Int) 1 (AL Zr)) (ZJ 8 13 [8,10,11,12,13] [0,0] (Z7 4 (dc 4 [] [0,0,1] [b4,b4,b3] (Ub x1.params) ?_)))
  rintro _ _ ⟨v2,rfl,rfl⟩
  refine Z7 9 (dc 9 [] [0,0,1] [b4,b4,b3] (Ub x2) ?_)
  rintro _ _ ⟨v3,rfl,rfl⟩
  exact Z7 14 (Yp 14 [] [0,1] [b4,b3] (Gx x1.body) (Yr 4 5 [15] [(40,.agg [Z4 x1.params,Z4 x2,.i x1.result,Wz x1.body.steps,.i x1.body.result])] (Z7 16 (dL 16 [1] [b3] (YP [Yf.mk x1.params x2 x1.result (Z9.mk x1.body.steps x1.body.result)]) 1 5 fun v4=>Yr 3 3 [] [(41,Kg [Yf.mk x1.params x2 x1.result (Z9.mk x1.body.steps x1.body.result)])] (Z7 17 (dp 17 7 [] [] (YP (rs++[Yf.mk x1.params x2 x1.result (Z9.mk x1.body.steps x1.body.result)])) (YP rs) (YP [Yf.mk x1.params x2 x1.result (Z9.mk x1.body.steps x1.body.result)]) u none 5 (UT _) (UT _) (AN _) (by simp<;>omega) (by simp [BK,YP]) fun v5=>Zj 1 2 [18] (Z7 19 (YJ 19 5 [] [] b3 [ZU n.decls,WF (rs++[Yf.mk x1.params x2 x1.result (Z9.mk x1.body.steps x1.body.result)]) v5] (de (az (Z2 1 (ZK k (Z0 (ZL ⟨k+1,(rs++[Yf.mk x1.params x2 x1.result (Z9.mk x1.body.steps x1.body.result)]),v5,ob,ob,(Xz Zw (by rw [Z9.eta];exact hrf.lend hlc.1 hlc.2)),rfl,rfl,rfl⟩ (wk [0,5,5,0] (ZO k fl))))))))))))))))
 exact ax 0 (Zv 1 [0] (ZI 1 b2 [ZU n.decls,WF rs u] (ie (ZD (r3 [] [.agg [ZU n.decls,WF rs u]] [0] [(b2,b2)] ⟨(Zk.mk n.decls rs),rfl,rfl,(FO.fin hn.fn om Zw)⟩ (Zd.agg (.cons (lr _) (.cons (Zd.forget _ _) .nil))))))))
theorem Z5e (n:Zk) (qz:Nat) (hn:FO n qz WR:=by exact ob) (hqz:qz<=100000:=by exact ob):Zl 135 [Yn n] [] (fun r h=>∃(n2:Zk),r=Yn n2/\h=[]/\FO n2 qz WR):=by
 refine ZG 33 Tryz.func135 (ar (iA (YT n) fun b1=>iA [nl,nl] fun b2=>?_))
 refine ie (aD 6 (ZJ 4 6 [0,1] [1,1] (Ky (fun fz gz F h=>∃(n21:Zk) (b3:Nat) (xs1:List LI),(LC n n.routines.length xs1)/\(FO n21 qz WR/\n21.routines.length=n.routines.length)/\F=sF [2] fz [(3,.p b3 0)]/\h=[.obj b3 (YT n21),Zc gz 0,Zc gz 1]) ?_ ?_)))
 ·refine VE 2 4 ?_ ?_
  ·refine dc 2 [] [1] [b1] (Nz n qz (hn:=hn.fn)) ?_
   rintro _ _ ⟨xs1,rfl,rfl,ZW⟩
   refine VE 3 4 ?_ ?_
   ·refine dc 3 [] [] [] (Ft n xs1 qz (hls:=(by first|assumption|(rw [<-hjl];exact XY)))) ?_
    rintro _ _ ⟨n21,rfl,rfl,Yh⟩
    have hwl:=Yh
    exact Z7 4 (dA 4 [] [] [nl,nl] fun b3=>Z7 5 (YJ 5 0 [] [] b3 (YT n21) (de (ZQ ⟨_,b3,_,(by assumption),(by assumption),rfl,rfl⟩ (ZE 3 fl)))))
   refine dA 4 [1] [b1] [nl,nl] fun b4=>Z7 3 (dc 3 [] [] [] (Ft n xs1 qz (hls:=(by first|assumption|(rw [<-hjl];exact XY)))) ?_)
   rintro _ _ ⟨n22,rfl,rfl,YE⟩
   have hwl:=YE
   exact Z7 5 (YJ 5 0 [] [] b4 (YT n22) (de (ZQ ⟨_,b4,_,(by assumption),(by assumption),rfl,rfl⟩ (ZE 3 fl))))
  refine dA 4 [1,1] [b1,b1] [nl,nl] fun b5=>Z7 2 (dc 2 [] [2] [b1] (Nz n qz (hn:=hn.fn)) ?_)
  rintro _ _ ⟨xs2,rfl,rfl,YN⟩
  refine Z7 3 (dc 3 [] [] [] (Ft n xs2 qz (hls:=(by first|assumption|(rw [<-hjl];exact XY)))) ?_)
  rintro _ _ ⟨n23,rfl,rfl,X8⟩
  have hwl:=X8
  exact Z7 5 (YJ 5 0 [] [] b5 (YT n23) (de (ZQ ⟨_,b5,_,(by assumption),(by assumption),rfl,rfl⟩ (ZE 3 fl))))
 rintro F h ⟨n21,b3,xs1,ZW,Yh,rfl,rfl⟩
 have hwl:=Yh
 refine Yb (ab 0 (Y4 (fun fz gz m F h=>∃(k:Nat) (nn:Zk),(k<=13)/\(FO nn qz WR)/\F=sF [2,3] fz [(4,.i k)]/\h=[.obj b3 (YT nn),Zc gz 1]/\m=13-k) _ _ _ ⟨0,n21,ob,hwl.1,rfl,rfl,rfl⟩ (wk [0,0] (Yd fl)) ?_))
 rintro m F h ⟨k,nn,Yg,Zi,rfl,rfl,rfl⟩
 refine X0 (Y0 ((k:Int)<=12) (fun Za=>?_) (fun Za=>?_))
 ·refine ak (aq (ab 1 (ar (iL (Wk []) 0 1 fun v1=>?_))))
  refine Z0 (Yb (ab 2 (Y4 (fun fz gz m F h=>∃(j:Nat) (ls:List LI) (u:Value),(j<=nn.routines.length)/\(LC nn j ls)/\(ls.length=j)/\F=sF [2,3,4] fz [(5,B4 ls u),(6,.i j)]/\h=[Zc gz 1,Zc gz 2,.tail u 1]/\m=nn.routines.length-j) _ _ _ ⟨0,[],v1,ob,LC.nil,ob,rfl,rfl,rfl⟩ (wk [1,1,0] (fr (Yd fl))) ?_)))
  rintro m F h ⟨j,ls,u,Uo,XY,XS,rfl,rfl,rfl⟩
  refine Yi 3 [0] (iw (Uq nn.routines) (Y0 ((j:Int)<(nn.routines.length:Int)) (fun Zg=>?_) (fun Zg=>?_)))
  ·obtain ⟨rt,hrt⟩:=Zt nn.routines j om
   have hrl:=(Zi.rf (Y2 hrt)).lent
   have hnl4:=Zi.fn.len
   refine ak (aq (ab 3 (az (ZM 3 [0] (ic [] (Z56 nn rt j qz (hn:=Zi.fn) (hr:=hrt)) ?_)))))
   rintro _ _ ⟨xs3,rfl,rfl,XJ⟩
   have hkl:=XJ
   exact iL (Wk [xs3]) 1 1 fun v2=>ZP 0 [(27,QM [xs3])] (ip 3 (Wk (ls++[xs3])) (Wk ls) (Wk [xs3]) u none 1 (AM _) (AM _) (F8 _) (by simp<;>omega) (by simp [HN,Wk]) fun v3=>Z0 (az (Z2 1 (ZK j (Z0 (ZL ⟨j+1,(ls++[xs3]),v3,ob,(XY.snoc om (fun r hr v hv=>by rw [hrt] at hr;cases hr;exact hrl.2 v (hkl.2 v hv))),ob,rfl,rfl,rfl⟩ (wk [2,2,0] (fr (ZO j fl)))))))))
  have hjl:j=nn.routines.length:=by omega
  refine ax 2 (az (Qo 2 [(30,QM ls)] [0] (ic [] (Ft nn ls qz (hls:=(by first|assumption|(rw [<-hjl];exact XY)))) ?_)))
  rintro _ _ ⟨n24,rfl,rfl,Wn⟩
  have hwl:=Wn
  exact ZI 0 b3 (YT n24) (ie (az (Z2 1 (ZK k (Z0 (ZL ⟨k+1,n24,ob,hwl.1,rfl,rfl,rfl⟩ (wk [0,0] (ZO k fl))))))))
 exact ax 0 (Zv 1 [0] (ZI 1 b2 (YT nn) (ie (ZD (r3 [] [Yn nn] [0] [(b2,b2)] ⟨nn,rfl,rfl,(by first|exact Zi|exact hwl.1)⟩ (lr _))))))
theorem DJ (xs:LI) (y:Int) (hl:xs.length<=1000000000:=by exact ob):Zl 256 [Z4 xs,.i y] [] (fun r h=>∃(v:Value),r=ZT (U8 xs y) v/\h=[.tail v 1]):=by
 refine ZG 49 Tryz.func256 (ZF (ar (iL (Z6 []) 0 1 fun v1=>?_)))
 refine Z0 (ZF (Yb (ab 0 (Y4 (fun fz gz m F h=>∃(k:Nat) (acc:LI) (d:Bool) (v:Value),(k<=xs.length)/\(acc.length<=k+(if d=true then 1 else 0))/\(acc++Q7 d (xs.drop k) y=U8 xs y)/\F=sF [0,1] fz [(5,ZT acc v),(6,.b d),(7,.i k)]/\h=[.tail v 1]/\m=xs.length-k) _ _ _ ⟨0,[],false,v1,ob,(by simp),rfl,rfl,rfl,rfl⟩ (wk [0] (fw (Yd fl))) ?_))))
 rintro m F h ⟨k,acc,d,v,Yg,Zi,Zw,rfl,rfl,rfl⟩
 refine YL 2 (iw (Y6 xs) (Y0 ((k:Int)<(xs.length:Int)) (fun Za=>?_) (fun Za=>?_)))
 ·obtain ⟨x1,Z3⟩:=Zt xs k om
  have hil:acc.length<=k+1:=VK Zi (by split<;>omega)
  refine ak (aq (ab 1 (X0 (Xo [0,1,5,6,7] [(24,.b ((!d)&&(decide (x1>=y))))] (fun gz=>gz) ?_ ?_))))
  ·refine Z2 3 (ib (b:=(!d)) 17 (fun Zb=>?_) (fun Zb=>?_))
   ·exact Z2 2 (Zm (Zh none (k:Int) 1 (ZY Z3)) (Z0 (wk [0] (Zu (decide (x1>=y)) Zb fl))))
   exact Z0 (wk [0] (Zu false Zb fl))
  refine XP (fun fz gz F h=>∃(acc2:LI) (d2:Bool) (w:Value),((acc2=acc/\d2=d/\(d=true∨¬x1>=y))∨(acc2=acc++[y]/\d2=true/\¬d=true/\x1>y)∨(acc2=acc/\d2=true/\¬d=true/\x1=y))/\(acc2.length<=k+(if d2=true then 1 else 0))/\(acc2.length<=k+1)/\F=sF [0,1,7] fz [(5,ZT acc2 w),(6,.b d2)]/\h=[.tail w 1]) ?_ ?_
  ·refine ac ((!d)&&(decide (x1>=y))) (p:=(¬(d=true))/\(x1>=y)) (YH (Yo Iff.rfl) dq) (fun Zg=>?_) (fun Zg=>?_)
   ·refine YL 2 (Zm (Zh none (k:Int) 1 (ZY Z3)) (Z0 (XP (fun fz gz F h=>∃(w3:Value),F=sF [0,1,7] fz [(5,ZT (if x1>y then (acc++[y]) else acc) w3)]/\h=[.tail w3 1]) ?_ ?_)))
    ·refine W4 (x1>y) (fun ZC=>?_) (fun ZC=>?_)
     ·exact az (Z2 2 (iL (Z6 [y]) 1 1 fun v2=>ZP 0 [(33,Z4 [y])] (ip 1 (Z6 (acc++[y])) (Z6 acc) (Z6 [y]) v none 1 (YA _) (YA _) (W6 _) (by simp<;>omega) (by simp [W5,Z6]) fun v3=>Z0 (ZQ ⟨v3,rfl,rfl⟩ (wk [0] (fc (x:=ZT (acc++[y]) v3) (Zd.slh _ (Ym Z6 (by first|rfl|(rw [Ze ZC])|(rw [Z8 ZC])|(simp [ZC];done)|(rw [Xs];simp [ZC];done)|omega))) fl))))))
     exact ak (ZQ ⟨v,rfl,rfl⟩ (wk [0] (fc (x:=ZT acc v) (Zd.slh _ (Ym Z6 (by first|rfl|(rw [Ze ZC])|(rw [Z8 ZC])|(simp [ZC];done)|(rw [Xs];simp [ZC];done)|omega))) fl)))
    rintro F h ⟨w3,rfl,rfl⟩
    exact UW (ZQ ⟨(if x1>y then (acc++[y]) else acc),true,w3,(if h:x1>y then (by rw [Ze h];exact .inr (.inl ⟨rfl,rfl,Zg.1,h⟩)) else (by rw [Z8 h];exact .inr (.inr ⟨rfl,rfl,Zg.1,by have:=Zg.2;omega⟩))),(by have h1:=Zi;rw [Z8 Zg.1] at h1;split<;>(simp<;>omega)),(by have h1:=Zi;rw [Z8 Zg.1] at h1;split<;>(simp<;>omega)),rfl,rfl⟩ (wk [0] fl))
   exact ak (ZQ ⟨acc,d,v,(.inl ⟨rfl,rfl,by by_cases q:d=true;exact .inl q;exact .inr (fun z=>Zg ⟨q,z⟩)⟩),Zi,hil,rfl,rfl⟩ (wk [0] fl))
  rintro F h ⟨acc2,d2,w,VY,Af,It,rfl,rfl⟩
  exact az (Z2 3 (Zm (Zh none (k:Int) 1 (ZY Z3)) (Z2 1 (iL (Z6 [x1]) 1 1 fun v4=>ZP 0 [(40,Z4 [x1])] (ip 1 (Z6 (acc2++[x1])) (Z6 acc2) (Z6 [x1]) w none 1 (YA _) (YA _) (W6 _) (by simp<;>omega) (by simp [W5,Z6]) fun v5=>Z0 (az (Z2 1 (ZK k (Z0 (ZL ⟨k+1,(acc2++[x1]),d2,v5,ob,(by simp only [Yw,YR,Xu];omega),(Z7r Z3 Zw VY),rfl,rfl,rfl⟩ (wk [0] (fw (ZO k fl)))))))))))))
 have hil:acc.length<=k+1:=VK Zi (by split<;>omega)
 refine ax 0 (Yb (XP (fun fz gz F h=>∃(w4:Value),F=sF [] fz [(5,ZT (if d=true then acc else (acc++[y])) w4)]/\h=[.tail w4 1]) ?_ ?_))
 ·refine ac (!d) (p:=¬(d=true)) (Yo Iff.rfl) (fun Ye=>?_) (fun Ye=>?_)
  ·exact az (Z2 2 (iL (Z6 [y]) 1 1 fun v6=>ZP 0 [(46,Z4 [y])] (ip 1 (Z6 (acc++[y])) (Z6 acc) (Z6 [y]) v none 1 (YA _) (YA _) (W6 _) (by simp<;>omega) (by simp [W5,Z6]) fun v7=>Z0 (ZQ ⟨v7,rfl,rfl⟩ (wk [0] (fc (x:=ZT (acc++[y]) v7) (Zd.slh _ (Ym Z6 (by first|rfl|(rw [Ze Ye])|(rw [Z8 Ye])|(simp [Ye];done)|(rw [Xs];simp [Ye];done)|omega))) fl))))))
  exact ak (ZQ ⟨v,rfl,rfl⟩ (wk [0] (fc (x:=ZT acc v) (Zd.slh _ (Ym Z6 (by first|rfl|(rw [Ze Ye])|(rw [Z8 Ye])|(simp [Ye];done)|(rw [Xs];simp [Ye];done)|omega))) fl)))
 rintro F h ⟨w4,rfl,rfl⟩
 exact ar (Zq (r2 [0] [ZT (if d=true then acc else (acc++[y])) w4] ⟨w4,rfl,rfl⟩ (Zd.slh _ (Ym Z6 (Z7q om Zw)))))
theorem NP (xs:LI) (y:Int) (hl:xs.length<=1000000000:=by exact ob):Zl 284 [Z4 xs,.i y] [] (fun r h=>∃(v:Value),r=ZT (TR xs y) v/\h=[.tail v 1]):=by
 refine ZG 28 Tryz.func284 (ZF (ar (iL (Z6 []) 0 1 fun v1=>?_)))
 refine Z0 (Yb (ab 0 (Y4 (fun fz gz m F h=>∃(k:Nat) (acc:LI) (v:Value),(k<=xs.length)/\(acc.length<=k)/\(acc++TR (xs.drop k) y=TR xs y)/\F=sF [0,1] fz [(5,ZT acc v),(6,.i k)]/\h=[.tail v 1]/\m=xs.length-k) _ _ _ ⟨0,[],v1,ob,ob,rfl,rfl,rfl,rfl⟩ (wk [0] (fr (Yd fl))) ?_)))
 rintro m F h ⟨k,acc,v,Yg,Zi,Zw,rfl,rfl,rfl⟩
 refine YL 2 (iw (Y6 xs) (Y0 ((k:Int)<(xs.length:Int)) (fun Za=>?_) (fun Za=>?_)))
 ·refine ak (aq (ab 1 (Y5 2 ?_)))
  obtain ⟨x1,Z3⟩:=Zt xs k om
  refine Zm (Zh none (k:Int) 1 (ZY Z3)) (Z0 (Jv (fun fz gz F h=>∃(w:Value),F=sF [0,1,6] fz [(5,ZT (if x1≠y then (acc++[x1]) else acc) w)]/\h=[.tail w 1]) (fun _ _=>rfl) ?_ ?_))
  ·refine ac (x1 != y) Yl (fun Zg=>?_) (fun Zg=>?_)
   ·exact az (Z2 3 (Zm (Zh none (k:Int) 1 (ZY Z3)) (Z2 1 (iL (Z6 [x1]) 1 1 fun v2=>ZP 0 [(25,Z4 [x1])] (ip 1 (Z6 (acc++[x1])) (Z6 acc) (Z6 [x1]) v none 1 (YA _) (YA _) (W6 _) (by simp<;>omega) (by simp [W5,Z6]) fun v3=>Z0 (ZQ ⟨v3,rfl,rfl⟩ (wk [0] (fc (x:=ZT (acc++[x1]) v3) (Zd.slh _ (Ym Z6 (by first|rfl|(rw [Ze Zg])|(rw [Z8 Zg])|(simp [Zg];done)|(rw [Xs];simp [Zg];done)|omega))) fl))))))))
   exact ak (ZQ ⟨v,rfl,rfl⟩ (wk [0] (fc (x:=ZT acc v) (Zd.slh _ (Ym Z6 (by first|rfl|(rw [Ze Zg])|(rw [Z8 Zg])|(simp [Zg];done)|(rw [Xs];simp [Zg];done)|omega))) fl)))
  rintro F h ⟨w,rfl,rfl⟩
  exact az (Z2 1 (ZK k (Z0 (ZL ⟨k+1,(if x1≠y then (acc++[x1]) else acc),w,ob,(by split<;>(try simp)<;>omega),(Zac Z3 Zw),rfl,rfl,rfl⟩ (wk [0] (fr (ZO k fl)))))))
 exact ax 0 (ar (Zq (r2 [0] [ZT acc v] ⟨v,rfl,rfl⟩ (Zd.slh _ (Ym Z6 (Zab om Zw))))))
theorem Zch (s:Z5) (q:Int) (xs:LI) (ih:∀(b2:Z9) (q:Int) (k2:Nat) (xs2:LI),(b2.sz<s.sz)->(k2<=b2.steps.length)->(xs2.length+b2.sz<=1000000000)->Zl 278 [ZZ b2,.i q,.i k2,Z4 xs2] [] (Yv (Z4 (UL q (T4 q (b2.steps.drop k2) xs2) b2.result)))) (hz:xs.length+s.sz<=1000000000):Zl 298 [YG s,.i q,Z4 xs] [] (Yv (Z4 (Jk q s xs))):=by
 have hkz:=Tv s
 have haz:=Qf s
 have hse:=s.sz_eq
 refine ZG 58 Tryz.func298 (ar (iA (Xv s) fun b1=>Z0 (Yi 2 [0] (Zz [] (Rt s.op) (ie (ac (YC s.op) Iff.rfl (fun Za=>?_) (fun Za=>?_)))))))
 ·exact ar (Zq (Y1 (Z4 xs) (Zd.sl _ (Ym Z6 (by rw [Sd,Ze (by assumption)])))))
 refine ak (Yb (ab 0 (Y4 (fun fz gz m F h=>∃(j:Nat) (ys:LI),(j<=s.args.length)/\(ys.length<=xs.length+j)/\(Qr q (s.args.drop j) ys=Qr q s.args xs)/\F=sF [1,3] fz [(2,Z4 ys),(7,.i j)]/\h=gz/\m=s.args.length-j) _ _ _ ⟨0,xs,ob,ob,rfl,rfl,rfl,rfl⟩ (wk [0] (fr (Yd fl))) ?_)))
 rintro m F h ⟨j,ys,Yg,Zi,Zw,rfl,rfl,rfl⟩
 refine Yi 3 [0] (iw (Y6 s.args) (Y0 ((j:Int)<(s.args.length:Int)) (fun Zg=>?_) (fun Zg=>?_)))
 ·refine ak (aq (ab 1 (Zv 3 [0] ?_)))
  obtain ⟨x1,Z3⟩:=Zt s.args j om
  refine Zm (Zh none (j:Int) 1 (ZY Z3)) (Xo [1,2,3,7] [(34,.b ((decide (x1>=0))&&(decide (x1<q))))] (fun gz=>gz) ?_ ?_)
  ·refine Z2 3 (ib (b:=(decide (x1>=0))) 26 (fun Zb=>?_) (fun Zb=>?_))
   ·exact ZM 3 [0] (Zm (Zh none (j:Int) 1 (ZY Z3)) (Z0 (wk [0] (Zu (decide (x1<q)) Zb fl))))
   exact Z0 (wk [0] (Zu false Zb fl))
  refine Jv (fun fz gz F h=>F=sF [1,3,7] fz [(2,Z4 (UL q ys x1))]/\h=gz) (fun _ _=>rfl) ?_ ?_
  ·refine ac ((decide (x1>=0))&&(decide (x1<q))) (p:=(x1>=0)/\(x1<q)) (YH dq dq) (fun ZC=>?_) (fun ZC=>?_)
   ·refine az (ZM 4 [0] (Zm (Zh none (j:Int) 1 (ZY Z3)) (Z2 1 (ic [] (DJ ys x1) ?_))))
    rintro _ _ ⟨v1,rfl,rfl⟩
    exact Z0 (ZQ ⟨rfl,rfl⟩ (wk [1] (fc (x:=ZT (U8 ys x1) v1) (Zd.sl _ (Ym Z6 (by rw [UL,Ze (by assumption)]))) fl)))
   exact ak (ZQ ⟨rfl,rfl⟩ (wk [0] (fc (x:=Z4 ys) (Zd.sl _ (Ym Z6 (by rw [UL,Z8 (by assumption)]))) fl)))
  rintro F h ⟨rfl,rfl⟩
  exact az (Z2 1 (ZK j (Z0 (ZL ⟨j+1,(UL q ys x1),ob,(by have:=GJ (n:=q) ys x1;omega),(Zeo Z3 Zw),rfl,rfl,rfl⟩ (wk [0] (fr (ZO j fl)))))))
 have hA:Qr q s.args xs=ys:=(Zen om Zw).symm
 refine ax 0 (Yb (ab 2 (Y4 (fun fz gz m F h=>∃(j:Nat) (zs:LI),(j<=s.kids.length)/\(zs.length<=xs.length+s.args.length+X9 (s.kids.take j))/\(KZ q (s.kids.drop j) zs=KZ q s.kids (Qr q s.args xs))/\F=sF [1,3] fz [(2,Z4 zs),(8,.i j)]/\h=gz/\m=s.kids.length-j) _ _ _ ⟨0,ys,ob,(by rw [List.take_zero,X9];omega),(by rw [hA];rfl),rfl,rfl,rfl⟩ (wk [0] (fr (Yd fl))) ?_)))
 rintro m F h ⟨j,zs,Uo,XY,XS,rfl,rfl,rfl⟩
 refine Yi 3 [0] (iw (Ue s.kids) (Y0 ((j:Int)<(s.kids.length:Int)) (fun Ye=>?_) (fun Ye=>?_)))
 ·refine ak (aq (ab 3 (az (ZM 3 [0] ?_))))
  obtain ⟨x2,Zr⟩:=Zt s.kids j om
  have hks:=Tt Zr
  have hbt:=EN Zr
  have hbx:=EM Zr
  have hul:=GI (n:=q) x2 zs
  exact Zm (Zh none (j:Int) 2 (UR Zr)) (Z2 3 (Zz [] (ih x2 q 0 zs ob ob ob) (Z0 (az (Z2 1 (ZK j (Z0 (ZL ⟨j+1,(T3 q x2 zs),ob,om,(Zeq Zr XS),rfl,rfl,rfl⟩ (wk [0] (fc (x:=Z4 (UL q (T4 q (x2.steps.drop 0) zs) x2.result)) (Zd.sl _ (Ym Z6 (by rw [Sb];rfl))) (ZO j fl)))))))))))
 exact ax 2 (ar (Zq (Y1 (Z4 zs) (Zd.sl _ (Ym Z6 (by rw [Sd,Z8 (by assumption)];exact (Zep om XS)))))))
theorem Zci (b:Z9) (q:Int) (k0:Nat) (xs:LI) (ih:∀(s2:Z5) (q:Int) (xs2:LI),(s2.sz<b.sz)->(xs2.length+s2.sz<=1000000000)->Zl 298 [YG s2,.i q,Z4 xs2] [] (Yv (Z4 (Jk q s2 xs2)))) (hk:k0<=b.steps.length) (hz:xs.length+b.sz<=1000000000):Zl 278 [ZZ b,.i q,.i k0,Z4 xs] [] (Yv (Z4 (UL q (T4 q (b.steps.drop k0) xs) b.result))):=by
 have hbz:=VS b
 have hbe:=b.sz_eq
 have hsd:=RG b.steps k0
 refine ZG 40 Tryz.func278 (ar (iA (Xk b) fun b1=>?_))
 refine Z0 (Yb (ab 0 (Y4 (fun fz gz m F h=>∃(k:Nat) (ys:LI),(k<=b.steps.length)/\(ys.length+Y8 (b.steps.drop k)<=xs.length+Y8 (b.steps.drop k0))/\(T4 q (b.steps.drop k) ys=T4 q (b.steps.drop k0) xs)/\F=sF [1,4] fz [(3,Z4 ys),(9,.i k)]/\h=gz/\m=b.steps.length-k) _ _ _ ⟨k0,xs,ob,(X5 _),rfl,rfl,rfl,rfl⟩ (wk [0] fl) ?_)))
 rintro m F h ⟨k,ys,Yg,Zi,Zw,rfl,rfl,rfl⟩
 refine Yi 3 [0] (iw (VF b.steps) (Y0 ((k:Int)<(b.steps.length:Int)) (fun Za=>?_) (fun Za=>?_)))
 ·refine ak (aq (ab 1 (az (ZM 3 [0] ?_))))
  obtain ⟨x1,Z3⟩:=Zt b.steps k om
  have hss:=Kl Z3
  have hsd1:=RE Z3
  have hul:=Se (n:=q) x1 ys
  exact Zm (Zh none (k:Int) 5 (WD Z3)) (Z2 3 (Zz [] (ih x1 q ys ob ob) (Z0 (az (Z2 1 (ZK k (Z0 (ZL ⟨k+1,(Jk q x1 ys),ob,ob,(Zes Z3 Zw),rfl,rfl,rfl⟩ (wk [0] (fr (ZO k fl)))))))))))
 refine ax 0 (X0 (Xo [3,4] [(34,.b ((decide (b.result>=0))&&(decide (b.result<q))))] (fun gz=>gz) ?_ ?_))
 ·refine ZM 4 [0] (ib (b:=(decide (b.result>=0))) 29 (fun Zb=>?_) (fun Zb=>?_))
  ·exact Vo [0] (wk [0] (Zu (decide (b.result<q)) Zb fl))
  exact Z0 (wk [0] (Zu false Zb fl))
 refine XP (fun fz gz F h=>F=sF [] fz [(3,Z4 (UL q ys b.result))]/\h=[]) ?_ ?_
 ·refine ac ((decide (b.result>=0))&&(decide (b.result<q))) (p:=(b.result>=0)/\(b.result<q)) (YH dq dq) (fun Zg=>?_) (fun Zg=>?_)
  ·refine az (ZM 3 [0] (ic [] (DJ ys b.result) ?_))
   rintro _ _ ⟨v1,rfl,rfl⟩
   exact Z0 (ZQ ⟨rfl,rfl⟩ (wk [] (fc (x:=ZT (U8 ys b.result) v1) (Zd.sl _ (Ym Z6 (by rw [UL,Ze (by assumption)]))) fl)))
  exact ak (ZQ ⟨rfl,rfl⟩ (wk [] (fc (x:=Z4 ys) (Zd.sl _ (Ym Z6 (by rw [UL,Z8 (by assumption)]))) fl)))
 rintro F h ⟨rfl,rfl⟩
 exact ar (Zq (Y1 (Z4 (UL q ys b.result)) (Zd.sl _ (Ym Z6 (by rw [Zer om Zw])))))
theorem Zd6 (k:Nat):(∀(s:Z5) (q:Int) (xs:LI),(s.sz<=k)->(xs.length+s.sz<=1000000000)->Zl 298 [YG s,.i q,Z4 xs] [] (Yv (Z4 (Jk q s xs))))/\(∀(b:Z9) (q:Int) (k0:Nat) (xs:LI),(b.sz<=k)->(k0<=b.steps.length)->(xs.length+b.sz<=1000000000)->Zl 278 [ZZ b,.i q,.i k0,Z4 xs] [] (Yv (Z4 (UL q (T4 q (b.steps.drop k0) xs) b.result)))):=by
 induction k with
 | zero=>exact ⟨fun s q xs h=>by have:=s.sz_pos;omega,fun b q k0 xs h=>by have:=b.sz_pos;omega⟩
 | succ k ih=>exact ⟨fun s q xs h hz=>Zch s q xs (fun b2 q k2 xs2 h2 hk h3=>ih.2 b2 q k2 xs2 om hk h3) hz,fun b q k0 xs h hk hz=>Zci b q k0 xs (fun s2 q xs2 h2 h3=>ih.1 s2 q xs2 om h3) hk hz⟩
theorem Rl (b:Z9) (q:Int) (k0:Nat) (xs:LI) (hk:k0<=b.steps.length:=by exact ob) (hz:xs.length+b.sz<=1000000000:=by exact ob):Zl 278 [ZZ b,.i q,.i k0,Z4 xs] [] (Yv (Z4 (UL q (T4 q (b.steps.drop k0) xs) b.result))):=(Zd6 b.sz).2 b q k0 xs (X5 _) hk hz
theorem RA (b:Z9) (q:Int) (hz:b.sz<=100000000:=by exact ob):Zl 242 [ZZ b,.i q] [] (Yv (Z4 (T3 q b []))):=by
 exact ZG 9 Tryz.func242 (ar (iA (Xk b) fun b1=>Z0 (Zv 2 [0] (iL (Z6 []) 0 1 fun v1=>ZP 0 [(7,Z4 [])] (Zz [] (Rl b q 0 [] (hk:=(K3 _))) (Zq (Y1 (Z4 (UL q (T4 q (b.steps.drop 0) []) b.result)) (Zd.sl _ (Ym Z6 (by rw [Sb];rfl))))))))))
theorem Z66 (xs:LI) (ys:LI) (hz:xs.length+ys.length<=100000000:=by exact ob):Zl 279 [Z4 xs,Z4 ys] [] (fun r h=>∃(zs:LI),r=Z4 zs/\h=[]/\zs.length<=xs.length+ys.length):=by
 refine ZG 22 Tryz.func279 (ZF (Y5 1 (ic [] (Ub xs) ?_)))
 rintro _ _ ⟨v1,rfl,rfl⟩
 refine Z0 (Yb (ab 0 (Y4 (fun fz gz m F h=>∃(k:Nat) (zs:LI),(k<=ys.length)/\(zs.length<=xs.length+k)/\F=sF [1] fz [(5,Z4 zs),(6,.i k)]/\h=[]/\m=ys.length-k) _ _ _ ⟨0,xs,ob,ob,rfl,rfl,rfl⟩ (wk [] (fc (x:=ZT xs v1) (Zd.forget _ _) (Yd fl))) ?_)))
 rintro m F h ⟨k,zs,Yg,Zi,rfl,rfl,rfl⟩
 refine YL 2 (iw (Y6 ys) (Y0 ((k:Int)<(ys.length:Int)) (fun Za=>?_) (fun Za=>?_)))
 ·refine ak (aq (ab 1 (az (Z2 3 ?_))))
  obtain ⟨x1,Z3⟩:=Zt ys k om
  refine Zm (Zh none (k:Int) 1 (ZY Z3)) (Z2 1 (ic [] (DJ zs x1) ?_))
  rintro _ _ ⟨v2,rfl,rfl⟩
  exact Z0 (az (Z2 1 (ZK k (Z0 (ZL ⟨k+1,(U8 zs x1),ob,(by have:=CJ zs x1;omega),rfl,rfl,rfl⟩ (wk [] (fc (x:=ZT (U8 zs x1) v2) (Zd.forget _ _) (ZO k fl))))))))
 exact ax 0 (ar (Zq (r1 [] ⟨zs,rfl,rfl,ob⟩)))
theorem NB (xs:LI) (ys:LI) (hz:xs.length<=100000000:=by exact ob) (hy:ys.length<=100000000:=by exact ob):Zl 301 [Z4 xs,Z4 ys] [] (fun r h=>∃(zs:LI) (v:Value),r=ZT zs v/\h=[.tail v 1]/\zs.length<=xs.length/\∀z∈zs,z∈xs):=by
 refine ZG 28 Tryz.func301 (ZF (ar (iL (Z6 []) 0 1 fun v1=>?_)))
 refine Z0 (Yb (ab 0 (Y4 (fun fz gz m F h=>∃(k:Nat) (zs:LI) (u:Value),(k<=xs.length)/\(zs.length<=k)/\(∀z∈zs,z∈xs)/\F=sF [0,1] fz [(5,ZT zs u),(6,.i k)]/\h=[.tail u 1]/\m=xs.length-k) _ _ _ ⟨0,[],v1,ob,ob,(fun z hz=>by cases hz),rfl,rfl,rfl⟩ (wk [0] (fr (Yd fl))) ?_)))
 rintro m F h ⟨k,zs,u,Yg,Zi,Zw,rfl,rfl,rfl⟩
 refine YL 2 (iw (Y6 xs) (Y0 ((k:Int)<(xs.length:Int)) (fun Za=>?_) (fun Za=>?_)))
 ·refine ak (aq (ab 1 (Y5 3 ?_)))
  obtain ⟨x1,Z3⟩:=Zt xs k om
  refine Zm (Zh none (k:Int) 1 (ZY Z3)) (Z2 1 (Zz [] (UJ ys x1) (ie (W4 (x1∈ys) (fun Zg=>?_) (fun Zg=>?_)))))
  ·exact az (Z2 3 (Zm (Zh none (k:Int) 1 (ZY Z3)) (Z2 1 (iL (Z6 [x1]) 1 1 fun v2=>ZP 0 [(25,Z4 [x1])] (ip 1 (Z6 (zs++[x1])) (Z6 zs) (Z6 [x1]) u none 1 (YA _) (YA _) (W6 _) (by simp<;>omega) (by simp [W5,Z6]) fun v3=>Z0 (az (Z2 1 (ZK k (Z0 (ZL ⟨k+1,(zs++[x1]),v3,ob,ob,(by first|exact Zw|exact Xz Zw (Y2 Z3)),rfl,rfl,rfl⟩ (wk [0] (fr (ZO k fl)))))))))))))
  exact ak (az (Z2 1 (ZK k (Z0 (ZL ⟨k+1,zs,u,ob,ob,(by first|exact Zw|exact Xz Zw (Y2 Z3)),rfl,rfl,rfl⟩ (wk [0] (fr (ZO k fl))))))))
 exact ax 0 (ar (Zq (r1 [0] ⟨zs,u,rfl,rfl,⟨by omega,Zw⟩⟩)))
theorem I8 (xs:LI) (q:Int) (hz:xs.length<=100000000:=by exact ob):Zl 308 [Z4 xs,.i q] [] (fun r h=>∃(zs:LI) (v:Value),r=ZT zs v/\h=[.tail v 1]/\zs.length<=xs.length/\∀z∈zs,z∈xs):=by
 refine ZG 28 Tryz.func308 (ZF (ar (iL (Z6 []) 0 1 fun v1=>?_)))
 refine Z0 (Yb (ab 0 (Y4 (fun fz gz m F h=>∃(k:Nat) (zs:LI) (u:Value),(k<=xs.length)/\(zs.length<=k)/\(∀z∈zs,z∈xs)/\F=sF [0,1] fz [(5,ZT zs u),(6,.i k)]/\h=[.tail u 1]/\m=xs.length-k) _ _ _ ⟨0,[],v1,ob,ob,(fun z hz=>by cases hz),rfl,rfl,rfl⟩ (wk [0] (fr (Yd fl))) ?_)))
 rintro m F h ⟨k,zs,u,Yg,Zi,Zw,rfl,rfl,rfl⟩
 refine YL 2 (iw (Y6 xs) (Y0 ((k:Int)<(xs.length:Int)) (fun Za=>?_) (fun Za=>?_)))
 ·refine ak (aq (ab 1 (Y5 2 ?_)))
  obtain ⟨x1,Z3⟩:=Zt xs k om
  refine Zm (Zh none (k:Int) 1 (ZY Z3)) (Y0 (x1<q) (fun Zg=>?_) (fun Zg=>?_))
  ·exact az (Z2 3 (Zm (Zh none (k:Int) 1 (ZY Z3)) (Z2 1 (iL (Z6 [x1]) 1 1 fun v2=>ZP 0 [(25,Z4 [x1])] (ip 1 (Z6 (zs++[x1])) (Z6 zs) (Z6 [x1]) u none 1 (YA _) (YA _) (W6 _) (by simp<;>omega) (by simp [W5,Z6]) fun v3=>Z0 (az (Z2 1 (ZK k (Z0 (ZL ⟨k+1,(zs++[x1]),v3,ob,ob,(by first|exact Zw|exact Xz Zw (Y2 Z3)),rfl,rfl,rfl⟩ (wk [0] (fr (ZO k fl)))))))))))))
  exact ak (az (Z2 1 (ZK k (Z0 (ZL ⟨k+1,zs,u,ob,ob,(by first|exact Zw|exact Xz Zw (Y2 Z3)),rfl,rfl,rfl⟩ (wk [0] (fr (ZO k fl))))))))
 exact ax 0 (ar (Zq (r1 [0] ⟨zs,u,rfl,rfl,⟨by omega,Zw⟩⟩)))
theorem JJ (op:Int) (v:Int) :Zl 146 [.i op,.i v] [] (Yv (YG (Zx op v))):=by
 exact ZG 10 Tryz.func146 (ar (iA [.i 0,.i 0,.i 0,nl,nl] fun b1=>ie (Y5 2 (iL (Z6 [v]) 1 1 fun v1=>iL (YK []) 0 2 fun v2=>Z2 1 (ZI 2 b1 [.i op,.i 0,.i 0,ZT [v] v1,Ti [] v2] (ie (ZD (r3 [] [.agg [.i op,.i 0,.i 0,ZT [v] v1,Ti [] v2]] [0] [(b1,b1)] ⟨rfl,rfl⟩ (Zd.agg (.cons li (.cons li (.cons li (.cons (Zd.sl _ (Ym Z6 rfl)) (.cons (Zd.sl _ (Ym YK rfl)) .nil))))))))))))))
theorem Kk (op:Int) (xs:LI) (hl:xs.length<=1000000000:=by exact ob):Zl 244 [.i op,Z4 xs] [] (fun r h=>∃(v:Value),r=YY (xs.map (Zx op)) v/\h=[.tail v 5]):=by
 refine ZG 24 Tryz.func244 (ZF (ar (iL (Zy []) 0 5 fun v1=>?_)))
 refine Z0 (Yb (ab 0 (Y4 (fun fz gz m F h=>∃(k:Nat) (v:Value),(k<=xs.length)/\F=sF [0,1] fz [(5,YY ((xs.take k).map (Zx op)) v),(6,.i k)]/\h=[.tail v 5]/\m=xs.length-k) _ _ _ ⟨0,v1,ob,rfl,rfl,rfl⟩ (wk [0] (fc (x:=YY [] v1) (Zd.slh _ (Ym Zy rfl)) (Yd fl))) ?_)))
 rintro m F h ⟨k,v,Yg,rfl,rfl,rfl⟩
 refine YL 2 (iw (Y6 xs) (Y0 ((k:Int)<(xs.length:Int)) (fun Za=>?_) (fun Za=>?_)))
 ·refine ak (aq (ab 1 (az (Z2 4 ?_))))
  obtain ⟨x1,Z3⟩:=Zt xs k om
  exact Zm (Zh none (k:Int) 1 (ZY Z3)) (Z2 1 (Zz [] (JJ op x1) (iL [YG (Zx op x1)] 1 5 fun v2=>ZP 0 [(21,.sl [YG (Zx op x1)] none)] (ip 1 (Zy ((xs.take (k+1)).map (Zx op))) (Zy ((xs.take k).map (Zx op))) [YG (Zx op x1)] v none 5 (Xj _) (Qk rfl) rfl (by simp<;>omega) (by rw [V7 Z3];simp [VG]) fun v3=>Z0 (az (Z2 1 (ZK k (Z0 (ZL ⟨k+1,v3,ob,rfl,rfl,rfl⟩ (wk [0] (fr (ZO k fl))))))))))))
 exact ax 0 (ar (Zq (r2 [0] [YY ((xs.take k).map (Zx op)) v] ⟨v,rfl,rfl⟩ (Zd.slh _ (Ym Zy (by rw [Vq om]))))))
theorem Z5j (n:Zk) (s:Z5) (i:Nat) (mm:Nat) (hn:X4 n:=by exact ob) (hf:FS n.decls n.routines.length mm s:=by exact ob) (hi:i<s.args.length:=by exact ob):Zl 307 [Yn n,YG s,.i i] [] (fun r h=>∃(wr:Bool),r=.b wr/\h=[]):=by
 have hal:=hf.alen
 refine ZG 42 Tryz.func307 (ar (iA (YT n) fun b1=>iA (Xv s) fun b2=>?_))
 refine Z0 (Yb (ab 0 (Y4 (fun fz gz m F h=>∃(k:Nat),(k<=s.args.length)/\F=sF [2,3,4] fz [(7,.i k)]/\h=gz/\m=s.args.length-k) _ _ _ ⟨0,ob,rfl,rfl,rfl⟩ (wk [0,0] (Yd fl)) ?_)))
 rintro m F h ⟨k,Yg,rfl,rfl,rfl⟩
 refine Yi 3 [0] (iw (Y6 s.args) (Y0 ((k:Int)<(s.args.length:Int)) (fun Za=>?_) (fun Za=>?_)))
 ·refine ak (aq (ab 1 (aD 27 (Zj 23 27 [0,1,2,3] (db (b:=((k:Int) != (i:Int))) 18 (fun Zb=>?_) (fun Zb=>?_))))))
  ·refine ZJ 20 23 [4,5,6] [0] ?_
   obtain ⟨x1,Z3⟩:=Zt s.args k om
   refine dx 7 (Zh none (k:Int) 1 (ZY Z3)) (ZJ 15 19 [8,9,10,11] [0] ?_)
   obtain ⟨x2,Zr⟩:=Zt s.args i om
   refine dx 12 (Zh none (i:Int) 1 (ZY Zr)) (Zj 10 14 [13,14,15,16] (db (b:=(x1==x2)) 31 (fun ZA=>?_) (fun ZA=>?_)))
   ·refine Zj 6 10 [17,18,19,20] (db (b:=(decide ((k:Int)>(i:Int)))) 35 (fun Yy=>?_) (fun Yy=>?_))
    ·exact Zj 0 6 [21,22,23,24,25,26] (de (XV (ar (Zq (r1 [] ⟨true,rfl,rfl⟩)))))
    refine ZJ 3 6 [21,22,23] [1,0] (Z7 24 (Yp 24 [] [] [] (Eh n s k (hnum:=hf.call)) (Zj 0 2 [25,26] (de (ac (WO n s.op s.num k) Iff.rfl (fun Zg=>?_) (fun Zg=>?_))))))
    ·exact ar (Zq (r1 [] ⟨true,rfl,rfl⟩))
    exact ak (az (Z2 1 (ZK k (Z0 (ZL ⟨k+1,ob,rfl,rfl,rfl⟩ (wk [0,0] (ZO k fl)))))))
   exact Zj 0 10 [17,18,19,20,21,22,23,24,25,26] (de (We (ak (az (Z2 1 (ZK k (Z0 (ZL ⟨k+1,ob,rfl,rfl,rfl⟩ (wk [0,0] (ZO k fl))))))))))
  exact Zj 0 23 [4,5,6,7,8,9,10,11,12,13,14,15,16,17,18,19,20,21,22,23,24,25,26] (de (We (ak (az (Z2 1 (ZK k (Z0 (ZL ⟨k+1,ob,rfl,rfl,rfl⟩ (wk [0,0] (ZO k fl))))))))))
 exact ax 0 (ar (Zq (r1 [] ⟨false,rfl,rfl⟩)))
theorem NH (n:Zk) (s:Z5) (i:Nat) (mm:Nat) (os:LI) (ls:LI) (hn:X4 n:=by exact ob) (hf:FS n.decls n.routines.length mm s:=by exact ob) (hi:i<s.args.length:=by exact ob) (ho:os.length<=100000000:=by exact ob) (hl:ls.length<=100000000:=by exact ob):Zl 299 [Yn n,YG s,.i i,Z4 os,Z4 ls] [] (fun r h=>∃(wr:Bool),r=.b wr/\h=[]):=by
 refine ZG 34 Tryz.func299 (ar (iA (YT n) fun b1=>iA (Xv s) fun b2=>Z0 (Zv 4 [0] ?_)))
 obtain ⟨x1,Z3⟩:=Zt s.args i om
 refine Zm (Zh none (i:Int) 1 (ZY Z3)) (Z2 1 (Zz [] (UJ ls x1) (Z2 1 (ib (b:=(decide (x1∈ls))) 18 (fun Zb=>?_) (fun Zb=>?_)))))
 ·exact Zq (r1 [] ⟨true,rfl,rfl⟩)
 refine ZM 4 [0] (Zm (Zh none (i:Int) 1 (ZY Z3)) (Z2 1 (Zz [] (UJ os x1) (Z2 3 (ib (b:=(!(decide (x1∈os)))) 28 (fun ZA=>?_) (fun ZA=>?_))))))
 ·exact Zq (r1 [] ⟨true,rfl,rfl⟩)
 refine ZM 3 [1,0] (ic [] (Z5j n s i mm) ?_)
 rintro _ _ ⟨wr1,rfl,rfl⟩
 exact Zq (r1 [] ⟨wr1,rfl,rfl⟩)
theorem Z4z (n:Zk) (us:LI) (s:Z5) (os:LI) (ls:LI) (mm:Nat) (hn:X4 n:=by exact ob) (hf:FS n.decls n.routines.length mm s:=by exact ob) (hvl:us.length=mm:=by exact ob) (hm:mm<=100000000:=by exact ob) (ho:os.length<=100000000:=by exact ob) (hl:ls.length<=100000000:=by exact ob):Zl 280 [Yn n,Z4 us,YG s,Z4 os,Z4 ls] [] (fun r h=>∃(zs:LI),r=Z4 zs/\h=[]/\zs.length<=s.args.length/\∀z∈zs,z∈s.args):=by
 have hal:=hf.alen
 refine ZG 43 Tryz.func280 (ar (iA (YT n) fun b1=>iA (Xv s) fun b2=>Z0 (ar (iL (Z6 []) 0 1 fun v1=>?_))))
 refine Z0 (Yb (ab 0 (Y4 (fun fz gz m F h=>∃(k:Nat) (zs:LI) (u:Value),(k<=s.args.length)/\(zs.length<=k)/\(∀z∈zs,z∈s.args)/\F=sF [1,3,4,5,7] fz [(11,ZT zs u),(12,.i k)]/\h=[Zc gz 1,Zc gz 2,.tail u 1]/\m=s.args.length-k) _ _ _ ⟨0,[],v1,ob,ob,(fun z hz=>by cases hz),rfl,rfl,rfl⟩ (wk [1,1,0] (fr (Yd fl))) ?_)))
 rintro m F h ⟨k,zs,u,Yg,Zi,Zw,rfl,rfl,rfl⟩
 refine Yi 3 [0] (iw (Y6 s.args) (Y0 ((k:Int)<(s.args.length:Int)) (fun Za=>?_) (fun Za=>?_)))
 ·obtain ⟨a1,ha1⟩:=Zt s.args k om
  have har:=hf.args a1 (Y2 ha1)
  refine ak (aq (ab 1 (Zv 4 [1,0] (Zz [] (Gy n us s k a1 (hnum:=hf.call) (ha:=ha1)) (Z2 1 (ib (b:=TB n us s.op s.num a1 k) 26 (fun Zb=>?_) (fun Zb=>?_)))))))
  ·refine ZM 5 [1,0] (ic [] (NH n s k mm os ls) ?_)
   rintro _ _ ⟨wr1,rfl,rfl⟩
   refine YB wr1 Iff.rfl (fun Zg=>?_) (fun Zg=>?_)
   ·exact az (ZM 4 [0] (Zm (Zh none (k:Int) 1 (ZY ha1)) (Z2 1 (iL (Z6 [a1]) 1 1 fun v2=>ZP 0 [(40,Z4 [a1])] (ip 3 (Z6 (zs++[a1])) (Z6 zs) (Z6 [a1]) u none 1 (YA _) (YA _) (W6 _) (by simp<;>omega) (by simp [W5,Z6]) fun v3=>Z0 (az (Z2 1 (ZK k (Z0 (ZL ⟨k+1,(zs++[a1]),v3,ob,ob,(by first|exact Zw|exact Xz Zw (Y2 ha1)),rfl,rfl,rfl⟩ (wk [2,2,0] (fr (ZO k fl)))))))))))))
   exact ak (az (Z2 1 (ZK k (Z0 (ZL ⟨k+1,zs,u,ob,ob,(by first|exact Zw|exact Xz Zw (Y2 ha1)),rfl,rfl,rfl⟩ (ZE 3 (fr (ZO k fl))))))))
  exact Z0 (We (ak (az (Z2 1 (ZK k (Z0 (ZL ⟨k+1,zs,u,ob,ob,(by first|exact Zw|exact Xz Zw (Y2 ha1)),rfl,rfl,rfl⟩ (ZE 3 (fr (ZO k fl))))))))))
 exact ax 0 (ar (Zq (r2 [] [ZT zs u] ⟨zs,rfl,rfl,⟨by omega,Zw⟩⟩ (Zd.forget _ _))))
theorem Z5c (n:Zk) (us:LI) (s:Z5) (os:LI) (ls:LI) (mm:Nat) (hn:X4 n:=by exact ob) (hf:FS n.decls n.routines.length mm s:=by exact ob) (hvl:us.length=mm:=by exact ob) (hm:mm<=100000000:=by exact ob) (ho:os.length<=100000000:=by exact ob) (hl:ls.length<=100000000:=by exact ob):Zl 282 [Yn n,Z4 us,YG s,Z4 os,Z4 ls] [] (fun r h=>∃(zs:LI) (v:Value),r=ZT zs v/\h=[.tail v 1]/\zs.length<=os.length/\∀z∈zs,z∈os):=by
 have hal:=hf.alen
 refine ZG 55 Tryz.func282 (ar (iA (YT n) fun b1=>iA (Xv s) fun b2=>Z0 (Yi 4 [0] (ib (b:=(s.op==7)) 16 (fun Zb=>?_) (fun Zb=>?_)))))
 ·refine Z0 (XV (Y5 2 (ic [] (NB os ls) ?_)))
  rintro _ _ ⟨zs1,v1,rfl,rfl,Yh⟩
  have hco:=Yh
  exact Zq (r1 [0] ⟨zs1,v1,rfl,rfl,(by first|exact hco|exact ⟨by omega,Zw⟩)⟩)
 refine Vo [0] (ac (s.op==8) Zp (fun Za=>?_) (fun Za=>?_))
 ·refine Y5 2 (ic [] (NB os ls) ?_)
  rintro _ _ ⟨zs2,v2,rfl,rfl,YN⟩
  have hco:=YN
  exact Zq (r1 [0] ⟨zs2,v2,rfl,rfl,(by first|exact hco|exact ⟨by omega,Zw⟩)⟩)
 refine ak (Y5 1 (ic [] (Ub os) ?_))
 rintro _ _ ⟨v3,rfl,rfl⟩
 refine Z0 (Yb (ab 0 (Y4 (fun fz gz m F h=>∃(k:Nat) (zs:LI) (u:Value),(k<=s.args.length)/\(zs.length<=os.length)/\(∀z∈zs,z∈os)/\F=sF [1,3,4,5,7] fz [(11,ZT zs u),(12,.i k)]/\h=[Zc gz 1,Zc gz 2,.tail u 1]/\m=s.args.length-k) _ _ _ ⟨0,os,v3,ob,ob,(fun z hz=>hz),rfl,rfl,rfl⟩ (wk [1,1,0] (fr (Yd fl))) ?_)))
 rintro m F h ⟨k,zs,u,Yg,Zi,Zw,rfl,rfl,rfl⟩
 refine Yi 3 [0] (iw (Y6 s.args) (Y0 ((k:Int)<(s.args.length:Int)) (fun Zg=>?_) (fun Zg=>?_)))
 ·obtain ⟨a1,ha1⟩:=Zt s.args k om
  have har:=hf.args a1 (Y2 ha1)
  refine ak (aq (ab 1 (Zv 4 [1,0] (Zz [] (Gy n us s k a1 (hnum:=hf.call) (ha:=ha1)) (Z2 1 (ib (b:=TB n us s.op s.num a1 k) 38 (fun ZA=>?_) (fun ZA=>?_)))))))
  ·refine ZM 5 [1,0] (ic [] (NH n s k mm os ls) ?_)
   rintro _ _ ⟨wr1,rfl,rfl⟩
   refine YB (!wr1) (p:=¬(wr1=true)) (Yo Iff.rfl) (fun ZC=>?_) (fun ZC=>?_)
   ·refine az (ZM 4 [0] (Zm (Zh none (k:Int) 1 (ZY ha1)) (ZP 1 [(47,Z4 zs)] (ic [] (NP zs a1) ?_))))
    rintro _ _ ⟨v4,rfl,rfl⟩
    exact Z0 (az (Z2 1 (ZK k (Z0 (ZL ⟨k+1,(TR zs a1),v4,ob,(by first|exact Zi|exact VK (E6 _ _) Zi),(by first|exact Zw|exact (fun z hz=>Zw z (CW hz))),rfl,rfl,rfl⟩ (wk [1,1,0] (fr (ZO k fl))))))))
   exact ak (az (Z2 1 (ZK k (Z0 (ZL ⟨k+1,zs,u,ob,(by first|exact Zi|exact VK (E6 _ _) Zi),(by first|exact Zw|exact (fun z hz=>Zw z (CW hz))),rfl,rfl,rfl⟩ (ZE 3 (fr (ZO k fl))))))))
  exact Z0 (We (ak (az (Z2 1 (ZK k (Z0 (ZL ⟨k+1,zs,u,ob,(by first|exact Zi|exact VK (E6 _ _) Zi),(by first|exact Zw|exact (fun z hz=>Zw z (CW hz))),rfl,rfl,rfl⟩ (ZE 3 (fr (ZO k fl))))))))))
 exact ax 0 (ar (Zq (r1 [2] ⟨zs,u,rfl,rfl,(by first|exact hco|exact ⟨by omega,Zw⟩)⟩)))
theorem Z5d (n:Zk) (s:Z5) (os:LI) (ls:LI) (mm:Nat) (hn:X4 n:=by exact ob) (hf:FS n.decls n.routines.length mm s:=by exact ob) (ho:os.length<=100000000:=by exact ob) (hl:ls.length<=100000000:=by exact ob):Zl 283 [Yn n,YG s,Z4 os,Z4 ls] [] (fun r h=>∃(zs:LI),r=Z4 zs/\h=[]/\zs.length<=s.args.length/\∀z∈zs,z∈s.args):=by
 have hal:=hf.alen
 refine ZG 50 Tryz.func283 (ar (iA (YT n) fun b1=>iA (Xv s) fun b2=>Z0 (ar (iL (Z6 []) 0 1 fun v1=>?_))))
 refine Z0 (Yb (ab 0 (Y4 (fun fz gz m F h=>∃(k:Nat) (zs:LI) (u:Value),(k<=s.args.length)/\(zs.length<=k)/\(∀z∈zs,z∈s.args)/\F=sF [2,3,4,5] fz [(9,ZT zs u),(10,.i k)]/\h=[Zc gz 1,Zc gz 2,.tail u 1]/\m=s.args.length-k) _ _ _ ⟨0,[],v1,ob,ob,(fun z hz=>by cases hz),rfl,rfl,rfl⟩ (wk [1,1,0] (fr (Yd fl))) ?_)))
 rintro m F h ⟨k,zs,u,Yg,Zi,Zw,rfl,rfl,rfl⟩
 refine Yi 3 [0] (iw (Y6 s.args) (Y0 ((k:Int)<(s.args.length:Int)) (fun Za=>?_) (fun Za=>?_)))
 ·obtain ⟨a1,ha1⟩:=Zt s.args k om
  have har:=hf.args a1 (Y2 ha1)
  refine ak (aq (ab 1 (Zv 3 [1,0] (Zz [] (Eh n s k (hnum:=hf.call)) (XK 13 [2,3,4,5,9,10] [(31,.b (WO n s.op s.num k&&(decide (a1∈os))))] (fun gz=>gz) ?_ (fun hj1=>?_))))))
  ·refine Xo [2,3,4,5,9,10] [(41,.b ((WO n s.op s.num k&&(decide (a1∈os)))&&(!(decide (a1∈ls)))))] (fun gz=>gz) ?_ ?_
   ·refine Z2 1 (ib (b:=(WO n s.op s.num k&&(decide (a1∈os)))) 32 (fun Zb=>?_) (fun Zb=>?_))
    ·exact ZM 4 [0] (Zm (Zh none (k:Int) 1 (ZY ha1)) (Z2 1 (Zz [] (UJ ls a1) (Z0 (ZE 3 (Zu (!(decide (a1∈ls))) Zb fl))))))
    exact Z0 (ZE 3 (Zu false Zb fl))
   refine ac ((WO n s.op s.num k&&(decide (a1∈os)))&&(!(decide (a1∈ls)))) (p:=((WO n s.op s.num k=true)/\(a1∈os))/\(¬(a1∈ls))) (YH (YH Iff.rfl dq) (Yo dq)) (fun Zg=>?_) (fun Zg=>?_)
   ·refine az (ZM 4 [0] (Zm (Zh none (k:Int) 1 (ZY ha1)) (ZP 1 [(42,Z4 zs)] (ic [] (DJ zs a1) ?_))))
    rintro _ _ ⟨v2,rfl,rfl⟩
    exact Z0 (az (Z2 1 (ZK k (Z0 (ZL ⟨k+1,(U8 zs a1),v2,ob,(by first|omega|(have:=CJ zs a1;omega)),(by first|exact Zw|exact (fun z hz=>(DR.1 hz).elim (Zw z) (fun e=>e▸Y2 ha1))),rfl,rfl,rfl⟩ (wk [1,1,0] (fr (ZO k fl))))))))
   exact ak (az (Z2 1 (ZK k (Z0 (ZL ⟨k+1,zs,u,ob,(by first|omega|(have:=CJ zs a1;omega)),(by first|exact Zw|exact (fun z hz=>(DR.1 hz).elim (Zw z) (fun e=>e▸Y2 ha1))),rfl,rfl,rfl⟩ (ZE 3 (fr (ZO k fl))))))))
  refine Z2 1 (ib (b:=WO n s.op s.num k) 23 (fun ZA=>?_) (fun ZA=>?_))
  ·exact ZM 4 [0] (Zm (Zh none (k:Int) 1 (ZY ha1)) (Z2 1 (Zz [] (UJ os a1) (Z2 1 (Yu (ZE 3 (Zu (decide (a1∈os)) ZA fl)) hj1)))))
  exact Z2 8 (Yu (ZE 3 (Zu false ZA fl)) hj1)
 exact ax 0 (ar (Zq (r2 [] [ZT zs u] ⟨zs,rfl,rfl,⟨by omega,Zw⟩⟩ (Zd.forget _ _))))
theorem D5 (rt:Yf) (b:Z9) (hp:rt.params.length<=4294967296:=by exact ob) (hl:rt.lent.length<=4294967296:=by exact ob):Zl 142 [K6 rt,ZZ b] [] (Yv (K6 (Yf.mk rt.params rt.lent rt.result b))):=by
 refine ZG 15 Tryz.func142 (ar (iA (KM rt) fun b1=>iA (Xk b) fun b2=>iA [nl,nl,.i 0,nl,.i 0] fun b3=>ie (aD 11 (ZJ 4 11 [0,1,3,4,6,7,8] [2,2,2,1] (Z7 2 (dc 2 [] [1,2,2] [b2,b1,b1] (Ub rt.params) ?_))))))
 rintro _ _ ⟨v1,rfl,rfl⟩
 refine Z7 5 (dc 5 [] [1,2] [b2,b1] (Ub rt.lent) ?_)
 rintro _ _ ⟨v2,rfl,rfl⟩
 exact Zj 1 2 [9] (Z7 10 (YJ 10 2 [] [] b3 [ZT rt.params v1,ZT rt.lent v2,.i rt.result,Wz b.steps,.i b.result] (de (ZD (r3 [] [.agg [ZT rt.params v1,ZT rt.lent v2,.i rt.result,Wz b.steps,.i b.result]] [0] [(b3,b3)] ⟨rfl,rfl⟩ (Zd.agg (.cons (Zd.sl _ (Ym Z6 ob)) (.cons (Zd.sl _ (Ym Z6 ob)) (.cons li (.cons (Zd.sl _ (Ym Zy ob)) (.cons li .nil)))))))))))
theorem Z4u (n:Zk) (us:LI) (fds:LI) (kd:Z9) (os:LI) (ls:LI) (mm:Nat) (bb:Nat) (hn:X4 n:=by exact ob) (hf:fB n.decls n.routines.length (mm+fds.length) kd:=by exact ob) (hop:Vm WR kd:=by exact ob) (hul:us.length=mm:=by exact ob) (hfl:fds.length<=3:=by exact ob) (hm:mm+3+4*kd.sz<=100000:=by exact ob) (hor:∀v∈os,0<=v/\v<(mm:Int)) (hol:os.length+3+4*kd.sz<=730:=by exact ob) (hal:ls.length+2000*kd.sz<=1000000:=by exact ob) (hbz:kd.sz<=500:=by exact ob) (hb:kd.sz<bb:=by exact ob) (ih:∀(us2:LI) (b2:Z9) (os2:LI) (as2:LI) (m2:Nat),(fB n.decls n.routines.length m2 b2)->(Vm WR b2)->(us2.length=m2)->(m2+4*b2.sz<=100000)->(∀v∈os2,0<=v/\v<(m2:Int))->(os2.length+4*b2.sz<=730)->(as2.length+2000*b2.sz<=1000000)->(b2.sz<=500)->(b2.sz<bb)->Zl 243 [Yn n,Z4 us2,ZZ b2,Z4 os2,Z4 as2] [] (fun r h=>∃(y:Z9),r=ZZ y/\h=[]/\KB n.decls n.routines.length m2 y (4500*b2.sz))):Zl 300 [Yn n,Z4 us,Z4 fds,ZZ kd,Z4 os,Z4 ls] [] (fun r h=>∃(y:Z9),r=ZZ y/\h=[]/\KB n.decls n.routines.length (mm+fds.length) y (4500*kd.sz+1470)):=by
 refine ZG 115 Tryz.func300 (ar (iA (YT n) fun b1=>iA (Xk kd) fun b2=>iA [nl,.i 0] fun b3=>ie (Y5 1 (iw (Y6 us) (Z0 (Y5 2 (ic [] (QV us fds) ?_)))))))
 rintro _ _ ⟨v1,rfl,rfl⟩
 refine Z0 (Zv 2 [2] (io (.i (((us++fds).length:Nat):Int)) (.i (((Z6 (us++fds)).length:Nat):Int)) (li (by rw [Y6])) (Zz [] (RA kd (((us++fds).length:Nat):Int)) ?_)))
 have hub:=GI (n:=(((us++fds).length:Nat):Int)) kd []
 simp only [Xu,Vc] at hub
 refine Z0 (ar (iL (Z6 []) 0 1 fun v2=>Z0 (ar (iL (Z6 []) 0 1 fun v3=>?_))))
 refine Z0 (Yb (ab 0 (Y4 (fun fz gz m F h=>∃(k:Nat) (ms:LI) (u:Value) (dr:LI) (w:Value),(k<=os.length)/\(ms.length<=k)/\(dr.length<=k)/\(∀v∈ms,0<=v/\v<(mm:Int))/\(∀v∈dr,0<=v/\v<(mm:Int))/\F=sF [2,4,5,6,9,12,13,15] fz [(14,Z4 (us++fds)),(16,ZT ms u),(17,ZT dr w),(18,.i k)]/\h=[Zc gz 3,Zc gz 4,Zc gz 5,.tail u 1,.tail w 1]/\m=os.length-k) _ _ _ ⟨0,[],v2,[],v3,ob,ob,ob,(fun v hv=>by cases hv),(fun v hv=>by cases hv),rfl,rfl,rfl⟩ (wk [3,3,3,1,0] (fc (x:=ZT (us++fds) v1) (Zd.forget _ _) (fw (Yd fl)))) ?_)))
 rintro m F h ⟨k,ms,u,dr,w,Yg,Zi,Zw,Yq,XR,rfl,rfl,rfl⟩
 refine YL 2 (iw (Y6 os) (Y0 ((k:Int)<(os.length:Int)) (fun Za=>?_) (fun Za=>?_)))
 ·obtain ⟨o1,ho1⟩:=Zt os k om
  have hor1:=hor o1 (Y2 ho1)
  refine ak (aq (ab 1 (Y5 3 (Zm (Zh none (k:Int) 1 (ZY ho1)) (Z2 1 (Zz [] (UJ (T3 (((us++fds).length:Nat):Int) kd []) o1) (Xo [2,4,5,6,9,12,13,14,15,16,17,18] [(53,.b ((decide (o1∈(T3 (((us++fds).length:Nat):Int) kd [])))||(decide (o1∈ls))))] (fun gz=>gz) ?_ ?_)))))))
  ·refine Z2 1 (ib (b:=(decide (o1∈(T3 (((us++fds).length:Nat):Int) kd [])))) 46 (fun Zb=>?_) (fun Zb=>?_))
   ·exact Z0 (ZE 5 (Zu true Zb fl))
   exact Z2 3 (Zm (Zh none (k:Int) 1 (ZY ho1)) (Z2 1 (Zz [] (UJ ls o1) (Z0 (ZE 5 (Zu (decide (o1∈ls)) Zb fl))))))
  refine ac ((decide (o1∈(T3 (((us++fds).length:Nat):Int) kd [])))||(decide (o1∈ls))) (p:=(o1∈(T3 (((us++fds).length:Nat):Int) kd []))∨(o1∈ls)) (Yj dq dq) (fun Zg=>?_) (fun Zg=>?_)
  ·exact az (Z2 3 (Zm (Zh none (k:Int) 1 (ZY ho1)) (Z2 1 (iL (Z6 [o1]) 1 1 fun v4=>ZP 0 [(59,Z4 [o1])] (ip 4 (Z6 (ms++[o1])) (Z6 ms) (Z6 [o1]) u none 1 (YA _) (YA _) (W6 _) (by simp<;>omega) (by simp [W5,Z6]) fun v5=>Z0 (az (Z2 1 (ZK k (Z0 (ZL ⟨k+1,(ms++[o1]),v5,dr,w,ob,ob,ob,(by first|exact Yq|exact Xz Yq hor1),(by first|exact XR|exact Xz XR hor1),rfl,rfl,rfl⟩ (wk [2,2,2,0,1] (fw (fr (ZO k fl))))))))))))))
  exact az (Z2 3 (Zm (Zh none (k:Int) 1 (ZY ho1)) (Z2 1 (iL (Z6 [o1]) 1 1 fun v6=>ZP 0 [(66,Z4 [o1])] (ip 5 (Z6 (dr++[o1])) (Z6 dr) (Z6 [o1]) w none 1 (YA _) (YA _) (W6 _) (by simp<;>omega) (by simp [W5,Z6]) fun v7=>Z0 (az (Z2 1 (ZK k (Z0 (ZL ⟨k+1,ms,u,(dr++[o1]),v7,ob,ob,ob,(by first|exact Yq|exact Xz Yq hor1),(by first|exact XR|exact Xz XR hor1),rfl,rfl,rfl⟩ (wk [2,2,2,2,0] (fw (fr (ZO k fl))))))))))))))
 refine ax 0 (ar (iL (Z6 []) 0 1 fun v8=>?_))
 refine Z0 (Yb (ab 2 (Y4 (fun fz gz m F h=>∃(k:Nat) (ps:LI) (w2:Value),(k<=fds.length)/\(ps.length<=k)/\(∀v∈ps,(mm:Int)<=v/\v<((mm+fds.length:Nat):Int))/\F=sF [2,5,6,9,12,13,14,15,16,17] fz [(19,ZT ps w2),(20,.i k)]/\h=[Zc gz 1,Zc gz 2,Zc gz 3,Zc gz 4,Zc gz 5,.tail w2 1]/\m=fds.length-k) _ _ _ ⟨0,[],v8,ob,ob,(fun v hv=>by cases hv),rfl,rfl,rfl⟩ (wk [1,1,1,1,1,0] (fr (Yd fl))) ?_)))
 rintro m F h ⟨k,ps,w2,Uo,XY,XS,rfl,rfl,rfl⟩
 refine YL 2 (iw (Y6 fds) (Y0 ((k:Int)<(fds.length:Int)) (fun ZC=>?_) (fun ZC=>?_)))
 ·refine ak (aq (ab 3 (Y5 2 ?_)))
  obtain ⟨x1,Z3⟩:=Zt fds k om
  refine Zm (Zh none (k:Int) 1 (ZY Z3)) (Xo [2,5,6,9,12,13,14,15,16,17,19,20] [(86,.b ((x1 != 0)&&(decide (((us.length+k:Nat):Int)∈(T3 (((us++fds).length:Nat):Int) kd [])))))] (fun gz=>gz) ?_ ?_)
  ·refine Z2 3 (ib (b:=(x1 != 0)) 80 (fun ZA=>?_) (fun ZA=>?_))
   ·exact Z2 3 (ia (((us.length+k:Nat):Int)) (((us.length:Int))+((k:Int))) (Zz [] (UJ (T3 (((us++fds).length:Nat):Int) kd []) ((us.length+k:Nat):Int)) (Z0 (ZE 6 (Zu (decide (((us.length+k:Nat):Int)∈(T3 (((us++fds).length:Nat):Int) kd []))) ZA fl)))))
   exact Z0 (ZE 6 (Zu false ZA fl))
  refine ac ((x1 != 0)&&(decide (((us.length+k:Nat):Int)∈(T3 (((us++fds).length:Nat):Int) kd [])))) (p:=(x1≠0)/\(((us.length+k:Nat):Int)∈(T3 (((us++fds).length:Nat):Int) kd []))) (YH Yl dq) (fun Ye=>?_) (fun Ye=>?_)
  ·exact az (Z2 3 (ia (((us.length+k:Nat):Int)) (((us.length:Int))+((k:Int))) (iL (Z6 [((us.length+k:Nat):Int)]) 1 1 fun v9=>ZP 0 [(91,Z4 [((us.length+k:Nat):Int)])] (ip 6 (Z6 (ps++[((us.length+k:Nat):Int)])) (Z6 ps) (Z6 [((us.length+k:Nat):Int)]) w2 none 1 (YA _) (YA _) (W6 _) (by simp<;>omega) (by simp [W5,Z6]) fun v10=>Z0 (az (Z2 1 (ZK k (Z0 (ZL ⟨k+1,(ps++[((us.length+k:Nat):Int)]),v10,ob,ob,(by first|exact XS|exact Xz XS om),rfl,rfl,rfl⟩ (wk [2,2,2,2,2,0] (fr (ZO k fl))))))))))))
  exact ak (az (Z2 1 (ZK k (Z0 (ZL ⟨k+1,ps,w2,ob,ob,(by first|exact XS|exact Xz XS om),rfl,rfl,rfl⟩ (ZE 6 (fr (ZO k fl))))))))
 refine ax 2 (ar (ZP 1 [(93,Z4 ps)] (ic [] (Kk 14 ps) ?_)))
 rintro _ _ ⟨v11,rfl,rfl⟩
 refine ZP 1 [(95,Z4 dr)] (ic [] (Kk 15 dr) ?_)
 rintro _ _ ⟨v12,rfl,rfl⟩
 refine ZP 0 [(96,Wz (dr.map (Zx 15)))] (ip 1 (Zy ((ps.map (Zx 14))++(dr.map (Zx 15)))) (Zy (ps.map (Zx 14))) (Zy (dr.map (Zx 15))) v11 none 5 (Xj _) (Xj _) (VW _) (by simp<;>omega) (by simp [WW,Zy]) fun v13=>?_)
 refine Z0 (aD 12 (ZJ 5 12 [0,1,2,3,4,6,7] [4,3] (Ky (fun fz gz F h=>∃(y1:Z9) (b4:Nat) (zs1:LI),(zs1.length<=ls.length/\∀z∈zs1,z∈ls)/\(KB n.decls n.routines.length (mm+fds.length) y1 (4500*kd.sz))/\F=sF [12,21] fz [(22,.p b4 0)]/\h=[.obj b4 (Xk y1),Zc gz 0,Zc gz 1,Zc gz 2,Zc gz 3,Zc gz 4,Zc gz 6,Zc gz 7]) ?_ ?_)))
 ·refine VE 5 10 ?_ ?_
  ·refine dp 5 5 [1,2] [b2,b1] (Z6 (ms++ps)) (Z6 ms) (Z6 ps) u (some w2) 1 (YA _) (YA _) (W6 _) (by simp<;>omega) (by simp [W5,Z6]) fun v14=>VE 8 10 ?_ ?_
   ·refine dc 8 [] [1,2] [b2,b1] (I8 ls (us.length:Int)) ?_
    rintro _ _ ⟨zs1,v15,rfl,rfl,X8⟩
    have hbl:=X8
    refine Yr 3 3 [] [(103,Z4 (ms++ps)),(106,Z4 zs1)] (VE 9 10 ?_ ?_)
    ·refine dc 9 [] [] [] (ih (us++fds) kd (ms++ps) zs1 (mm+fds.length) hf hop (by rw [Yw,hul]) ob (fun v hv=>by rcases Xa.1 hv with h|h;exact (by have:=Yq v h;omega);exact (by have:=XS v h;omega)) (by rw [Yw];omega) ob ob ob) ?_
     rintro _ _ ⟨y1,rfl,rfl,XJ⟩
     have hkb:=XJ
     have hkl:=hkb.len
     exact Z7 10 (dA 10 [] [] [nl,.i 0] fun b4=>Z7 11 (YJ 11 0 [] [] b4 (Xk y1) (de (ZQ ⟨_,b4,_,(by assumption),(by assumption),rfl,rfl⟩ (wk [0,2,2,2,2,2,2,2] fl)))))
    refine dA 10 [1,2] [b2,b1] [nl,.i 0] fun b5=>Z7 9 (dc 9 [] [] [] (ih (us++fds) kd (ms++ps) zs1 (mm+fds.length) hf hop (by rw [Yw,hul]) ob (fun v hv=>by rcases Xa.1 hv with h|h;exact (by have:=Yq v h;omega);exact (by have:=XS v h;omega)) (by rw [Yw];omega) ob ob ob) ?_)
    rintro _ _ ⟨y2,rfl,rfl,Wn⟩
    have hkb:=Wn
    have hkl:=hkb.len
    exact Z7 11 (YJ 11 0 [] [] b5 (Xk y2) (de (ZQ ⟨_,b5,_,(by assumption),(by assumption),rfl,rfl⟩ (wk [0,2,2,2,2,2,2,2] fl))))
   refine dA 10 [1,2] [b2,b1] [nl,.i 0] fun b6=>Z7 8 (dc 8 [] [2,3] [b2,b1] (I8 ls (us.length:Int)) ?_)
   rintro _ _ ⟨zs2,v16,rfl,rfl,WL⟩
   have hbl:=WL
   refine Yr 2 2 [] [(103,Z4 (ms++ps)),(106,Z4 zs2)] (Z7 9 (dc 9 [] [] [] (ih (us++fds) kd (ms++ps) zs2 (mm+fds.length) hf hop (by rw [Yw,hul]) ob (fun v hv=>by rcases Xa.1 hv with h|h;exact (by have:=Yq v h;omega);exact (by have:=XS v h;omega)) (by rw [Yw];omega) ob ob ob) ?_))
   rintro _ _ ⟨y3,rfl,rfl,V5⟩
   have hkb:=V5
   have hkl:=hkb.len
   exact Z7 11 (YJ 11 1 [] [] b6 (Xk y3) (de (ZQ ⟨_,b6,_,(by assumption),(by assumption),rfl,rfl⟩ (wk [0,2,2,2,2,2,2,2] fl))))
  refine dA 10 [1,2] [b2,b1] [nl,.i 0] fun b7=>Yr 4 4 [] [(102,Z4 ps)] (Z7 5 (dp 5 6 [2,3] [b2,b1] (Z6 (ms++ps)) (Z6 ms) (Z6 ps) u none 1 (YA _) (YA _) (W6 _) (by simp<;>omega) (by simp [W5,Z6]) fun v17=>Z7 8 (dc 8 [] [2,3] [b2,b1] (I8 ls (us.length:Int)) ?_)))
  rintro _ _ ⟨zs3,v18,rfl,rfl,Ur⟩
  have hbl:=Ur
  refine Yr 2 2 [] [(103,Z4 (ms++ps)),(106,Z4 zs3)] (Z7 9 (dc 9 [] [] [] (ih (us++fds) kd (ms++ps) zs3 (mm+fds.length) hf hop (by rw [Yw,hul]) ob (fun v hv=>by rcases Xa.1 hv with h|h;exact (by have:=Yq v h;omega);exact (by have:=XS v h;omega)) (by rw [Yw];omega) ob ob ob) ?_))
  rintro _ _ ⟨y4,rfl,rfl,Tg⟩
  have hkb:=Tg
  have hkl:=hkb.len
  exact Z7 11 (YJ 11 2 [] [] b7 (Xk y4) (de (ZQ ⟨_,b7,_,(by assumption),(by assumption),rfl,rfl⟩ (wk [0,2,2,2,2,2,2,2] fl))))
 rintro F h ⟨y1,b4,zs1,X8,XJ,rfl,rfl⟩
 have hbl:=X8
 have hkb:=XJ
 have hkl:=hkb.len
 exact aD 8 (ZJ 3 8 [0,1,2,4,5] [0,0] (Z7 3 (dp 3 1 [0] [b4] (Zy (((ps.map (Zx 14))++(dr.map (Zx 15)))++y1.steps)) (Zy ((ps.map (Zx 14))++(dr.map (Zx 15)))) (Zy y1.steps) v13 none 5 (Xj _) (Xj _) (VW _) (by simp<;>omega) (by simp [WW,Zy]) fun v19=>Zj 1 2 [6] (Z7 7 (YJ 7 3 [] [] b3 [YY (((ps.map (Zx 14))++(dr.map (Zx 15)))++y1.steps) v19,.i y1.result] (de (ZD (r3 [] [.agg [YY (((ps.map (Zx 14))++(dr.map (Zx 15)))++y1.steps) v19,.i y1.result]] [0] [(b3,b3)] ⟨(Z9.mk (((ps.map (Zx 14))++(dr.map (Zx 15)))++y1.steps) y1.result),rfl,rfl,((hkb.put (fun v hv=>by have:=XS v hv;omega) (fun v hv=>by have:=XR v hv;omega)).le om)⟩ (Zd.agg (.cons (Zd.forget _ _) (.cons (lr _) .nil)))))))))))
theorem Z4v (n:Zk) (us:LI) (s:Z5) (os:LI) (ls:LI) (mm:Nat) (bb:Nat) (hn:X4 n:=by exact ob) (hf:FS n.decls n.routines.length mm s:=by exact ob) (h11:s.op<=11:=by exact ob) (hop:QO WR s.kids:=by exact ob) (hul:us.length=mm:=by exact ob) (hm:mm+4*s.sz<=100000:=by exact ob) (hor:∀v∈os,0<=v/\v<(mm:Int)) (hol:os.length+4*s.sz<=730:=by exact ob) (hal:ls.length+2000*s.sz<=1000000:=by exact ob) (hbz:s.sz<=500:=by exact ob) (hb:s.sz<=bb:=by exact ob) (ih:∀(us2:LI) (b2:Z9) (os2:LI) (as2:LI) (m2:Nat),(fB n.decls n.routines.length m2 b2)->(Vm WR b2)->(us2.length=m2)->(m2+4*b2.sz<=100000)->(∀v∈os2,0<=v/\v<(m2:Int))->(os2.length+4*b2.sz<=730)->(as2.length+2000*b2.sz<=1000000)->(b2.sz<=500)->(b2.sz<bb)->Zl 243 [Yn n,Z4 us2,ZZ b2,Z4 os2,Z4 as2] [] (fun r h=>∃(y:Z9),r=ZZ y/\h=[]/\KB n.decls n.routines.length m2 y (4500*b2.sz))):Zl 281 [Yn n,Z4 us,YG s,Z4 os,Z4 ls] [] (fun r h=>∃(y:Z5),r=YG y/\h=[]/\KT n.decls n.routines.length mm y (4500*X9 s.kids+4420)):=by
 have Xt:=hn.decls
 have hkf:=hf.few Xt
 have hsa:=hf.alen
 refine ZG 62 Tryz.func281 (ar (iA (YT n) fun b1=>iA (Xv s) fun b2=>iA [.i 0,.i 0,.i 0,nl,nl] fun b3=>ie (ar (iL (YK []) 0 2 fun v1=>Z0 (Zv 4 [3,2] (ic [] (JI n.decls s.num) ?_))))))
 rintro _ _ ⟨v2,rfl,rfl⟩
 refine Z0 (Yb (ab 0 (Y4 (fun fz gz m F h=>∃(k:Nat) (ks:List Z9) (u:Value),(k<=s.kids.length)/\(ks.length=k)/\(KK n.decls n.routines.length (Tj n.decls s.op s.num mm) ks (4500*X9 (s.kids.take k)+1470*k))/\F=sF [1,3,4,5,7,10] fz [(11,Ti ks u),(12,Z4 (ZX n.decls s.num)),(13,.i k)]/\h=[Zc gz 2,Zc gz 3,Zc gz 4,.tail u 2]/\m=s.kids.length-k) _ _ _ ⟨0,[],v1,ob,ob,(KK.nil.le (K3 _)),rfl,rfl,rfl⟩ (wk [2,2,2,1] (fr (fc (x:=ZT (ZX n.decls s.num) v2) (Zd.forget _ _) (Yd fl)))) ?_)))
 rintro m F h ⟨k,ks,u,Yg,Zi,Zw,rfl,rfl,rfl⟩
 refine Yi 3 [1] (iw (Ue s.kids) (Y0 ((k:Int)<(s.kids.length:Int)) (fun Za=>?_) (fun Za=>?_)))
 ·refine ak (aq (ab 1 (ar (iL (Z6 []) 0 1 fun v3=>?_))))
  refine Z0 (X0 (Vo [2] (XP (fun fz gz F h=>∃(fds:LI),(Tj n.decls s.op s.num mm k=mm+fds.length)/\(fds.length<=3)/\F=sF [1,3,4,5,7,10,11,12,13] fz [(14,Z4 fds)]/\h=[Zc gz 1,Zc gz 2,Zc gz 3,Zc gz 4]) ?_ ?_)))
  ·refine ac (s.op==8) Zp (fun Zg=>?_) (fun Zg=>?_)
   ·refine aE 8 (ZJ 4 8 [0,1,2,3] [3] ?_)
    obtain ⟨x1,Z3⟩:=Zt (ZX n.decls s.num) k (by have:=hf.k8 (by assumption);omega)
    have hcf:=U6 Xt x1
    exact dx 4 (Zh none (k:Int) 1 (ZY Z3)) (Zj 2 3 [5] (Z7 6 (Yp 6 [] [] [] (Kj n.decls x1) (Zj 0 1 [7] (de (ZQ ⟨ZV n.decls x1,(Lj (by assumption) Z3),ob,rfl,rfl⟩ (wk [1,1,1,1] fl)))))))
   exact ak (ZQ ⟨[],(by rw [Lk (by assumption)];rfl),ob,rfl,rfl⟩ (wk [1,1,1,1] fl))
  rintro F h ⟨fds,VY,Af,rfl,rfl⟩
  refine aE 15 (ZJ 8 15 [0,1,2,3,4,5,6] [2,1] ?_)
  obtain ⟨x2,Zr⟩:=Zt s.kids k om
  have hkz:=Tt Zr
  have hfk:=DE hf.kids Zr
  rw [Vc,VY] at hfk
  have hok:=CV.1 hop x2 (Y2 Zr)
  have hbt:=EM Zr
  have hba:=EN Zr
  refine dx 7 (Zh none (k:Int) 2 (UR Zr)) (Zj 4 7 [8,9,10] (Z7 11 (dc 11 [] [] [] (Z4u n us fds x2 os ls mm bb (hf:=hfk) (hop:=hok) (hor:=hor) (ih:=ih)) ?_)))
  rintro _ _ ⟨y1,rfl,rfl,ZW⟩
  have hkb:=ZW
  exact Z7 12 (WC 12 [] [] [ZZ y1] (YK [y1]) (Tb [y1]).symm 1 2 fun v4=>Yr 2 2 [] [(51,XZ [y1])] (Z7 13 (dp 13 4 [] [] (YK (ks++[y1])) (YK ks) (YK [y1]) u none 2 (TK _) (TK _) (F3 _) (by simp<;>omega) (by simp [A1,YK]) fun v5=>Zj 0 1 [14] (de (az (Z2 1 (ZK k (Z0 (ZL ⟨k+1,(ks++[y1]),v5,ob,ob,((Zw.snoc Zi (by rw [VY];exact hkb)).le om),rfl,rfl,rfl⟩ (wk [2,2,2,0] (fw (ZO k fl))))))))))))
 refine ax 0 (aD 10 (ZJ 3 10 [0,1,2,3,4,5,7] [1,1,1] (Z7 6 (dc 6 [] [1,1] [b2,b2] (Ub s.args) ?_))))
 rintro _ _ ⟨v6,rfl,rfl⟩
 exact Zj 1 2 [8] (Z7 9 (YJ 9 1 [] [] b3 [.i s.op,.i s.num,.i 0,ZT s.args v6,Ti ks u] (de (ZD (r3 [] [.agg [.i s.op,.i s.num,.i 0,ZT s.args v6,Ti ks u]] [0] [(b3,b3)] ⟨(Z5.mk s.op s.num 0 s.args ks),rfl,rfl,((KT.of (into:=0) hf h11 om om Zw).le (by have:=Hn (xs:=s.kids) (k:=k) om;omega))⟩ (Zd.agg (.cons (lr _) (.cons (lr _) (.cons (lr _) (.cons (Zd.forget _ _) (.cons (Zd.forget _ _) .nil)))))))))))
theorem Z4s (n:Zk) (us:LI) (b:Z9) (os:LI) (ls:LI) (mm:Nat) (hn:X4 n) (hf:fB n.decls n.routines.length mm b) (hop:Vm WR b) (hul:us.length=mm) (hm:mm+4*b.sz<=100000) (hor:∀v∈os,0<=v/\v<(mm:Int)) (hol:os.length+4*b.sz<=730) (hal:ls.length+2000*b.sz<=1000000) (hbz:b.sz<=500) (ih:∀(us2:LI) (b2:Z9) (os2:LI) (as2:LI) (m2:Nat),(fB n.decls n.routines.length m2 b2)->(Vm WR b2)->(us2.length=m2)->(m2+4*b2.sz<=100000)->(∀v∈os2,0<=v/\v<(m2:Int))->(os2.length+4*b2.sz<=730)->(as2.length+2000*b2.sz<=1000000)->(b2.sz<=500)->(b2.sz<b.sz)->Zl 243 [Yn n,Z4 us2,ZZ b2,Z4 os2,Z4 as2] [] (fun r h=>∃(y:Z9),r=ZZ y/\h=[]/\KB n.decls n.routines.length m2 y (4500*b2.sz))):Zl 243 [Yn n,Z4 us,ZZ b,Z4 os,Z4 ls] [] (fun r h=>∃(y:Z9),r=ZZ y/\h=[]/\KB n.decls n.routines.length mm y (4500*b.sz)):=by
 have Xt:=hn.decls
 have hbe:=b.sz_eq
 have ZH:=VS b
 obtain ⟨hfs,hr1,hr2⟩:=(DD b).1 hf
 have hos:=C0.1 ((G4 b).1 hop)
 have hdn:=Hz hos
 have hdl:=hdn b.steps.length (X5 _)
 rw [VA] at hdl
 refine ZG 149 Tryz.func243 (ar (iA (YT n) fun b1=>iA (Xk b) fun b2=>iA [nl,.i 0] fun b3=>ie (ar (iL (Zy []) 0 5 fun v1=>Z0 (Y5 1 (ic [] (Ub us) ?_))))))
 rintro _ _ ⟨v2,rfl,rfl⟩
 refine Z0 (Y5 1 (ic [] (Ub os) ?_))
 rintro _ _ ⟨v3,rfl,rfl⟩
 refine Z0 (Yb (ab 0 (Y4 (fun fz gz m F h=>∃(k:Nat) (vs:LI) (w:Value) (ms:LI) (u:Value) (xs:List Z5) (v:Value),(k<=b.steps.length)/\(vs.length=mm+k)/\(CL n.decls n.routines.length mm xs k (4500*Y8 (b.steps.take k)))/\(ms.length<=os.length+k)/\(∀v∈ms,0<=v/\v<((mm+k:Nat):Int))/\F=sF [4,5,7,10] fz [(11,YY xs v),(12,ZT vs w),(13,ZT ms u),(14,.i k)]/\h=[Zc gz 3,Zc gz 4,Zc gz 5,.tail u 1,.tail v 5,.tail w 1]/\m=b.steps.length-k) _ _ _ ⟨0,us,v2,os,v3,[],v1,ob,ob,CL.nil,ob,hor,rfl,rfl,rfl⟩ (wk [3,3,3,0,1,0] (fw (fr (Yd fl)))) ?_)))
 rintro m F h ⟨k,vs,w,ms,u,xs,v,Yg,Zi,Zw,Yq,XR,rfl,rfl,rfl⟩
 refine Yi 3 [1] (iw (VF b.steps) (Y0 ((k:Int)<(b.steps.length:Int)) (fun Za=>?_) (fun Za=>?_)))
 ·refine ak (aq (ab 1 (Zv 3 [1] ?_)))
  obtain ⟨x1,Z3⟩:=Zt b.steps k om
  have Xm:=C8 Z3
  have hfS:=(Fd x1).1 (DF hfs Z3)
  rw [hdn k om] at hfS
  have hoS:=(E4 x1).1 (hos x1 (Y2 Z3))
  have htk:=LE Z3
  have hse:=(x1).sz_eq
  have hal4:=hfS.alen
  have hxl:=Zw.len
  have htl:=Qq b.steps (k+1)
  have hsd:=RG b.steps (k+1)
  have hul2:=LS (n:=((vs.length+1:Nat):Int)) (b.steps.drop (k+1)) []
  have hul3:=GJ (n:=((vs.length+1:Nat):Int)) (T4 ((vs.length+1:Nat):Int) (b.steps.drop (k+1)) []) b.result
  simp only [Xu,Vc] at hul2
  refine Zm (Zh none (k:Int) 5 (WD Z3)) (Z2 1 (iA [.i 0,.i 0,.i 0,nl,nl] fun b4=>ZI 0 b4 (Xv x1) (ie (Y5 1 (iw (Y6 vs) (Z0 (ar (Qo 3 [(41,Z4 vs)] [3,0] (Zz [] (Ly n vs x1 ob ob) (Z0 (Zv 2 [2] (ia (((vs.length+1:Nat):Int)) (((vs.length:Int))+(1)) (Z2 1 (ZK k (iL (Z6 []) 0 1 fun v4=>ZP 0 [(49,Z4 [])] (Zz [] (Rl b ((vs.length+1:Nat):Int) (k+1) [] (hk:=om) (hz:=(by simp only [Xu];omega))) (Z2 1 (ic [] (Z66 (UL ((vs.length+1:Nat):Int) (T4 ((vs.length+1:Nat):Int) (b.steps.drop (k+1)) []) b.result) ls) ?_))))))))))))))))))
  rintro _ _ ⟨zs1,rfl,rfl,ZW⟩
  have hun:=ZW
  refine Z0 (ar (Qo 6 [(55,Z4 vs),(57,Z4 ms)] [4,1] (ic [] (Z4z n vs x1 ms zs1 (mm+k) (hf:=hfS)) ?_)))
  rintro _ _ ⟨zs2,rfl,rfl,Yh⟩
  have hdu:=Yh
  have hq1:=Zw.cnts (op:=14) (.inl rfl) (vs:=zs2) (fun v hv=>hfS.args v (hdu.2 v hv))
  have hl1:=hq1.len
  refine ic [] (Kk 14 zs2) ?_
  rintro _ _ ⟨v5,rfl,rfl⟩
  refine ZP 0 [(60,Wz (zs2.map (Zx 14)))] (ip 7 (Zy (xs++(zs2.map (Zx 14)))) (Zy xs) (Zy (zs2.map (Zx 14))) v none 5 (Xj _) (Xj _) (VW _) (by simp<;>omega) (by simp [WW,Zy]) fun v6=>Z0 (ar (Qo 6 [(64,Z4 vs),(66,Z4 ms)] [6,3] (ic [] (Z4v n vs x1 ms zs1 (mm+k) b.sz (hf:=hfS) (h11:=hoS.1) (hop:=hoS.2) (hor:=XR) (ih:=ih)) ?_))))
  rintro _ _ ⟨y1,rfl,rfl,YE⟩
  have hkt:=YE
  have hq2:=hq1.kt hkt
  have hl2:=hq2.len
  refine UG [YG y1] (Zy [y1]) (VG [y1]).symm 1 5 fun v7=>ZP 0 [(69,Wz [y1])] (ip 1 (Zy ((xs++(zs2.map (Zx 14)))++[y1])) (Zy (xs++(zs2.map (Zx 14)))) (Zy [y1]) v6 none 5 (Xj _) (Xj _) (VW _) (by simp<;>omega) (by simp [WW,Zy]) fun v8=>Z0 (ar (Qo 5 [(72,Z4 vs),(74,Z4 ms)] [7,4] (ic [] (Z5c n vs x1 ms zs1 (mm+k) (hf:=hfS)) ?_))))
  rintro _ _ ⟨zs3,v9,rfl,rfl,YN⟩
  have hla:=YN
  refine Z0 (ar (Qo 4 [(79,Z4 zs3)] [8,5] (ic [] (Z5d n x1 zs3 zs1 (mm+k) (hf:=hfS)) ?_)))
  rintro _ _ ⟨zs4,rfl,rfl,X8⟩
  have hld:=X8
  have hq3:=hq2.cnts (op:=15) (.inr rfl) (vs:=zs4) (fun v hv=>by have:=hfS.args v (hld.2 v hv);omega)
  have hl3:=hq3.len
  refine Z0 (Y5 2 (ic [] (Kk 15 zs4) ?_))
  rintro _ _ ⟨v10,rfl,rfl⟩
  refine ZP 0 [(84,Wz (zs4.map (Zx 15)))] (ip 2 (Zy (((xs++(zs2.map (Zx 14)))++[y1])++(zs4.map (Zx 15)))) (Zy ((xs++(zs2.map (Zx 14)))++[y1])) (Zy (zs4.map (Zx 15))) v8 none 5 (Xj _) (Xj _) (VW _) (by simp<;>omega) (by simp [WW,Zy]) fun v11=>?_)
  refine Z0 (Yb (ab 2 (Y4 (fun fz gz m F h=>∃(j:Nat) (m3:LI) (u3:Value) (v3:Value) (w3:Value),(j<=zs4.length)/\(m3.length<=os.length+k)/\(∀v∈m3,0<=v/\v<((mm+k:Nat):Int))/\F=sF [4,5,7,10,14,16,17,18,19] fz [(11,YY (((xs++(zs2.map (Zx 14)))++[y1])++(zs4.map (Zx 15))) v3),(12,ZT vs w3),(13,ZT m3 u3),(20,.i j)]/\h=[Zc gz 7,Zc gz 8,Zc gz 9,.tail u3 1,.tail v3 5,.tail w3 1]/\m=zs4.length-j) _ _ _ ⟨0,zs3,v9,v11,w,ob,ob,(fun v hv=>XR v (hla.2 v hv)),rfl,rfl,rfl⟩ (wk [7,7,7,2,0,6] (fw (fr (Yd fl)))) ?_)))
  rintro m F h ⟨j,m3,u3,v3,w3,Uo,XY,XS,rfl,rfl,rfl⟩
  refine YL 2 (iw (Y6 zs4) (Y0 ((j:Int)<(zs4.length:Int)) (fun Zg=>?_) (fun Zg=>?_)))
  ·refine ak (aq (ab 3 (az (Z2 3 ?_))))
   obtain ⟨x2,Zr⟩:=Zt zs4 j om
   refine Zm (Zh none (j:Int) 1 (ZY Zr)) (ZP 1 [(92,Z4 m3)] (ic [] (NP m3 x2) ?_))
   rintro _ _ ⟨v12,rfl,rfl⟩
   exact Z0 (az (Z2 1 (ZK j (Z0 (ZL ⟨j+1,(TR m3 x2),v12,v3,w3,ob,(VK (E6 _ _) XY),(fun v hv=>XS v (CW hv)),rfl,rfl,rfl⟩ (wk [1,1,1,0,1,1] (fw (fr (ZO j fl)))))))))
  refine ax 2 (Y5 2 (iL (Z6 [Yc n vs x1]) 1 1 fun v13=>ZP 0 [(100,Z4 [Yc n vs x1])] (ip 6 (Z6 (vs++[Yc n vs x1])) (Z6 vs) (Z6 [Yc n vs x1]) w3 none 1 (YA _) (YA _) (W6 _) (by simp<;>omega) (by simp [W5,Z6]) fun v14=>Z0 (ar (Xo [4,5,7,10,11,12,13,14,16,17] [(108,.b (((Yc n vs x1) != 0)&&(decide ((vs.length:Int)∈zs1))))] (fun gz=>gz) ?_ ?_)))))
  ·refine Z2 3 (ib (b:=((Yc n vs x1) != 0)) 104 (fun Zb=>?_) (fun Zb=>?_))
   ·exact Z2 2 (Zz [] (UJ zs1 (vs.length:Int)) (Z0 (ZE 7 (Zu (decide ((vs.length:Int)∈zs1)) Zb fl))))
   exact Z0 (ZE 7 (Zu false Zb fl))
  refine ac (((Yc n vs x1) != 0)&&(decide ((vs.length:Int)∈zs1))) (p:=((Yc n vs x1)≠0)/\((vs.length:Int)∈zs1)) (YH Yl dq) (fun ZC=>?_) (fun ZC=>?_)
  ·exact az (Z2 2 (iL (Z6 [(vs.length:Int)]) 1 1 fun v15=>ZP 0 [(111,Z4 [(vs.length:Int)])] (ip 6 (Z6 (m3++[(vs.length:Int)])) (Z6 m3) (Z6 [(vs.length:Int)]) u3 none 1 (YA _) (YA _) (W6 _) (by simp<;>omega) (by simp [W5,Z6]) fun v16=>Z0 (az (Z2 1 (ZK k (Z0 (ZL ⟨k+1,(vs++[Yc n vs x1]),v14,(m3++[(vs.length:Int)]),v16,(((xs++(zs2.map (Zx 14)))++[y1])++(zs4.map (Zx 15))),v3,ob,ob,(by first|exact hq3.le om|exact (hq3.cnt (op:=15) (.inr rfl) om).le om),ob,(by first|exact Xz (fun v hv=>by have:=XS v hv;omega) om|exact (fun v hv=>by have:=XS v hv;omega)),rfl,rfl,rfl⟩ (wk [4,4,4,0,3,1] (fw (fr (ZO k fl))))))))))))
  refine ar (YB ((Yc n vs x1) != 0) Yl (fun Ye=>?_) (fun Ye=>?_))
  ·exact az (Z2 2 (Zz [] (JJ 15 (vs.length:Int)) (UG [YG (Zx 15 (vs.length:Int))] (Zy [(Zx 15 (vs.length:Int))]) (VG [(Zx 15 (vs.length:Int))]).symm 1 5 fun v17=>ZP 0 [(118,Wz [(Zx 15 (vs.length:Int))])] (ip 7 (Zy ((((xs++(zs2.map (Zx 14)))++[y1])++(zs4.map (Zx 15)))++[(Zx 15 (vs.length:Int))])) (Zy (((xs++(zs2.map (Zx 14)))++[y1])++(zs4.map (Zx 15)))) (Zy [(Zx 15 (vs.length:Int))]) v3 none 5 (Xj _) (Xj _) (VW _) (by simp<;>omega) (by simp [WW,Zy]) fun v18=>Z0 (az (Z2 1 (ZK k (Z0 (ZL ⟨k+1,(vs++[Yc n vs x1]),v14,m3,u3,((((xs++(zs2.map (Zx 14)))++[y1])++(zs4.map (Zx 15)))++[(Zx 15 (vs.length:Int))]),v18,ob,ob,(by first|exact hq3.le om|exact (hq3.cnt (op:=15) (.inr rfl) om).le om),ob,(by first|exact Xz (fun v hv=>by have:=XS v hv;omega) om|exact (fun v hv=>by have:=XS v hv;omega)),rfl,rfl,rfl⟩ (wk [4,4,4,4,0,1] (fw (fr (ZO k fl)))))))))))))
  exact ak (az (Z2 1 (ZK k (Z0 (ZL ⟨k+1,(vs++[Yc n vs x1]),v14,m3,u3,(((xs++(zs2.map (Zx 14)))++[y1])++(zs4.map (Zx 15))),v3,ob,ob,(by first|exact hq3.le om|exact (hq3.cnt (op:=15) (.inr rfl) om).le om),ob,(by first|exact Xz (fun v hv=>by have:=XS v hv;omega) om|exact (fun v hv=>by have:=XS v hv;omega)),rfl,rfl,rfl⟩ (wk [2,2,2,2,2,0] (fw (fr (ZO k fl)))))))))
 have hxl:=Zw.len
 have htl:=Qq b.steps k
 refine ax 0 (Yi 3 [1] ?_)
 obtain ⟨x3,YI⟩:=Zt vs b.result.toNat om
 refine Zm (Zh (some w) b.result 1 (ZY YI)) (Xo [7,10,11] [(138,.b ((x3 != 0)&&((decide (b.result∈ls))||(!(decide (b.result∈ms))))))] (fun gz=>gz) ?_ ?_)
 ·refine Z2 3 (ib (b:=(x3 != 0)) 126 (fun ZA=>?_) (fun ZA=>?_))
  ·refine ZM 3 [1] (Zz [] (UJ ls b.result) (Z2 1 (ib (b:=(decide (b.result∈ls))) 131 (fun Yy=>?_) (fun Yy=>?_))))
   ·exact Z0 (ZE 6 (Zu true (And.intro ZA Yy) fl))
   exact Qo 3 [(132,Z4 ms)] [1] (Zz [] (UJ ms b.result) (Z0 (ZE 6 (Zu (!(decide (b.result∈ms))) (And.intro ZA Yy) fl))))
  exact Z0 (ZE 6 (Zu false ZA fl))
 refine ac ((x3 != 0)&&((decide (b.result∈ls))||(!(decide (b.result∈ms))))) (p:=(x3≠0)/\((b.result∈ls)∨(¬(b.result∈ms)))) (YH Yl (Yj dq (Yo dq))) (fun Xf=>?_) (fun Xf=>?_)
 ·exact az (ZM 3 [1] (Zz [] (JJ 14 b.result) (UG [YG (Zx 14 b.result)] (Zy [Zx 14 b.result]) (VG [Zx 14 b.result]).symm 1 5 fun v19=>ZP 0 [(143,Wz [Zx 14 b.result])] (ip 5 (Zy (xs++[Zx 14 b.result])) (Zy xs) (Zy [Zx 14 b.result]) v none 5 (Xj _) (Xj _) (VW _) (by simp<;>omega) (by simp [WW,Zy]) fun v20=>Z0 (Zv 4 [3] (ZI 2 b3 [YY (xs++[Zx 14 b.result]) v20,.i b.result] (ie (ZD (r3 [] [.agg [YY (xs++[Zx 14 b.result]) v20,.i b.result]] [0] [(b3,b3)] ⟨(Z9.mk (xs++[Zx 14 b.result]) b.result),rfl,rfl,(((Zw.cnt (op:=14) (.inl rfl) om).block om).le (by have:=Qq b.steps k;omega))⟩ (Zd.agg (.cons (Zd.forget _ _) (.cons (lr _) .nil))))))))))))
 exact ak (Zv 4 [1] (ZI 0 b3 [YY xs v,.i b.result] (ie (ZD (r3 [] [.agg [YY xs v,.i b.result]] [0] [(b3,b3)] ⟨(Z9.mk xs b.result),rfl,rfl,((Zw.block om).le (by have:=Qq b.steps k;omega))⟩ (Zd.agg (.cons (Zd.forget _ _) (.cons (lr _) .nil))))))))
theorem Z4r (n:Zk) (us:LI) (b:Z9) (os:LI) (ls:LI) (mm:Nat) (hn:X4 n:=by exact ob) (hf:fB n.decls n.routines.length mm b:=by exact ob) (hop:Vm WR b:=by exact ob) (hul:us.length=mm:=by exact ob) (hm:mm+4*b.sz<=100000:=by exact ob) (hor:∀v∈os,0<=v/\v<(mm:Int)) (hol:os.length+4*b.sz<=730:=by exact ob) (hal:ls.length+2000*b.sz<=1000000:=by exact ob) (hbz:b.sz<=500:=by exact ob):Zl 243 [Yn n,Z4 us,ZZ b,Z4 os,Z4 ls] [] (fun r h=>∃(y:Z9),r=ZZ y/\h=[]/\KB n.decls n.routines.length mm y (4500*b.sz)):=by
 have key:∀k:Nat,∀(us2:LI) (b2:Z9) (os2:LI) (as2:LI) (m2:Nat),(fB n.decls n.routines.length m2 b2)->(Vm WR b2)->(us2.length=m2)->(m2+4*b2.sz<=100000)->(∀v∈os2,0<=v/\v<(m2:Int))->(os2.length+4*b2.sz<=730)->(as2.length+2000*b2.sz<=1000000)->(b2.sz<=500)->(b2.sz<k)->Zl 243 [Yn n,Z4 us2,ZZ b2,Z4 os2,Z4 as2] [] (fun r h=>∃(y:Z9),r=ZZ y/\h=[]/\KB n.decls n.routines.length m2 y (4500*b2.sz)):=by
  intro k
  induction k with
  | zero=>intro us2 b2 os2 as2 m2 h1 h2 h3 h4 h5 h6 h7 h8 h9;omega
  | succ k ih=>intro us2 b2 os2 as2 m2 h1 h2 h3 h4 h5 h6 h7 h8 h9;exact Z4s n us2 b2 os2 as2 m2 hn h1 h2 h3 h4 h5 h6 h7 h8 fun us3 b3 os3 as3 m3 q1 q2 q3 q4 q5 q6 q7 q8 q9=>ih us3 b3 os3 as3 m3 q1 q2 q3 q4 q5 q6 q7 q8 om
 exact key (b.sz+1) us b os ls mm hf hop hul hm hor hol hal hbz om
theorem Z4t (n:Zk) (rt:Yf) (qz:Nat) (hn:X4 n:=by exact ob) (hr:RF n.decls n.routines.length qz WR rt:=by exact ob) (hqz:qz<=181:=by exact ob):Zl 191 [Yn n,K6 rt] [] (fun r h=>∃(y:Z9),r=ZZ y/\h=[]/\KB n.decls n.routines.length rt.params.length y (4500*qz+10)):=by
 have hrp:rt.params.length<=3:=(TA.bd (f:=⟨rt.params,rt.result,default⟩) hr.sig).1
 have hrl:=hr.lent.1
 have hrz:=hr.body.2
 refine ZG 65 Tryz.func191 (ar (iA (YT n) fun b1=>iA (KM rt) fun b2=>iA [nl,.i 0] fun b3=>ie (Zv 4 [1,1] (iw (Y6 rt.params) (Zz [] (RA rt.body (rt.params.length:Int)) ?_)))))
 have hub:=GI (n:=(rt.params.length:Int)) rt.body []
 simp only [Xu,Vc] at hub
 refine Z0 (ar (iL (Z6 []) 0 1 fun v1=>Z0 (ar (iL (Z6 []) 0 1 fun v2=>?_))))
 refine Z0 (Yb (ab 0 (Y4 (fun fz gz m F h=>∃(k:Nat) (os:LI) (u:Value) (dr:LI) (w:Value),(k<=rt.params.length)/\(os.length<=k)/\(dr.length<=k)/\(∀v∈os,0<=v/\v<(rt.params.length:Int))/\(∀v∈dr,0<=v/\v<(rt.params.length:Int))/\F=sF [2,3,4,5] fz [(6,ZT os u),(7,ZT dr w),(8,.i k)]/\h=[Zc gz 2,Zc gz 3,Zc gz 4,.tail u 1,.tail w 1]/\m=rt.params.length-k) _ _ _ ⟨0,[],v1,[],v2,ob,ob,ob,(fun v hv=>by cases hv),(fun v hv=>by cases hv),rfl,rfl,rfl⟩ (wk [2,2,2,1,0] (fw (Yd fl))) ?_)))
 rintro m F h ⟨k,os,u,dr,w,Yg,Zi,Zw,Yq,XR,rfl,rfl,rfl⟩
 refine Yi 3 [1] (iw (Y6 rt.params) (Y0 ((k:Int)<(rt.params.length:Int)) (fun Za=>?_) (fun Za=>?_)))
 ·refine ak (aq (ab 1 (Zv 3 [1] ?_)))
  obtain ⟨x1,Z3⟩:=Zt rt.params k om
  refine Zm (Zh none (k:Int) 1 (ZY Z3)) (Xo [2,3,4,5,6,7,8] [(37,.b ((x1 != 0)&&(!(decide ((k:Int)∈rt.lent)))))] (fun gz=>gz) ?_ ?_)
  ·refine Z2 3 (ib (b:=(x1 != 0)) 31 (fun Zb=>?_) (fun Zb=>?_))
   ·exact ZM 3 [1] (Zz [] (UJ rt.lent (k:Int)) (Z0 (ZE 5 (Zu (!(decide ((k:Int)∈rt.lent))) Zb fl))))
   exact Z0 (ZE 5 (Zu false Zb fl))
  refine ac ((x1 != 0)&&(!(decide ((k:Int)∈rt.lent)))) (p:=(x1≠0)/\(¬((k:Int)∈rt.lent))) (YH Yl (Yo dq)) (fun Zg=>?_) (fun Zg=>?_)
  ·refine Y5 2 (Zz [] (UJ (T3 (rt.params.length:Int) rt.body []) (k:Int)) (ie (W4 ((k:Int)∈(T3 (rt.params.length:Int) rt.body [])) (fun ZC=>?_) (fun ZC=>?_))))
   ·exact az (Z2 2 (iL (Z6 [(k:Int)]) 1 1 fun v3=>ZP 0 [(43,Z4 [(k:Int)])] (ip 4 (Z6 (os++[(k:Int)])) (Z6 os) (Z6 [(k:Int)]) u none 1 (YA _) (YA _) (W6 _) (by simp<;>omega) (by simp [W5,Z6]) fun v4=>Z0 (az (Z2 1 (ZK k (Z0 (ZL ⟨k+1,(os++[(k:Int)]),v4,dr,w,ob,ob,ob,(by first|exact Yq|exact Xz Yq om),(by first|exact XR|exact Xz XR om),rfl,rfl,rfl⟩ (wk [2,2,2,0,1] (fw (ZO k fl)))))))))))
   exact az (Z2 2 (iL (Z6 [(k:Int)]) 1 1 fun v5=>ZP 0 [(47,Z4 [(k:Int)])] (ip 5 (Z6 (dr++[(k:Int)])) (Z6 dr) (Z6 [(k:Int)]) w none 1 (YA _) (YA _) (W6 _) (by simp<;>omega) (by simp [W5,Z6]) fun v6=>Z0 (az (Z2 1 (ZK k (Z0 (ZL ⟨k+1,os,u,(dr++[(k:Int)]),v6,ob,ob,ob,(by first|exact Yq|exact Xz Yq om),(by first|exact XR|exact Xz XR om),rfl,rfl,rfl⟩ (wk [2,2,2,2,0] (fw (ZO k fl)))))))))))
  exact ak (az (Z2 1 (ZK k (Z0 (ZL ⟨k+1,os,u,dr,w,ob,ob,ob,(by first|exact Yq|exact Xz Yq om),(by first|exact XR|exact Xz XR om),rfl,rfl,rfl⟩ (ZE 5 (fw (ZO k fl))))))))
 refine ax 0 (Zv 6 [2,1,1] (iL (Z6 []) 0 1 fun v7=>ZP 0 [(54,Z4 os),(55,Z4 [])] (ic [] (Z4r n rt.params rt.body os [] rt.params.length (hf:=hr.body.1) (hop:=hr.op) (hor:=Yq) (hal:=(by simp only [Xu];omega))) ?_)))
 rintro _ _ ⟨y1,rfl,rfl,YE⟩
 have hkb:=YE
 have hkl:=hkb.len
 refine iA [nl,.i 0] fun b4=>ZI 0 b4 (Xk y1) (ie (aD 9 (Co 4 9 [0,2,3,5,6] [(57,Z4 dr)] [0,0] (Z7 1 (dc 1 [] [0,0] [b4,b4] (Kk 15 dr) ?_)))))
 rintro _ _ ⟨v8,rfl,rfl⟩
 exact Z7 4 (dp 4 0 [0] [b4] (Zy ((dr.map (Zx 15))++y1.steps)) (Zy (dr.map (Zx 15))) (Zy y1.steps) v8 none 5 (Xj _) (Xj _) (VW _) (by simp<;>omega) (by simp [WW,Zy]) fun v9=>Zj 1 2 [7] (Z7 8 (YJ 8 3 [] [] b3 [YY ((dr.map (Zx 15))++y1.steps) v9,.i y1.result] (de (ZD (r3 [] [.agg [YY ((dr.map (Zx 15))++y1.steps) v9,.i y1.result]] [0] [(b3,b3)] ⟨(Z9.mk ((dr.map (Zx 15))++y1.steps) y1.result),rfl,rfl,((hkb.put1 (op:=15) (.inr rfl) XR).le om)⟩ (Zd.agg (.cons (Zd.forget _ _) (.cons (lr _) .nil)))))))))
theorem Z4w (n:Zk) (qz:Nat) (hn:FO n qz WR:=by exact ob) (hqz:qz<=181:=by exact ob):Zl 148 [Yn n] [] (fun r h=>∃(n2:Zk),r=Yn n2/\h=[]/\FO n2 (4500*qz+10) VC):=by
 have hnl:=hn.fn.len
 have Xt:=hn.fn.decls.ok
 have hok:=hn.fn.ok
 refine ZG 36 Tryz.func148 (ar (iA (YT n) fun b1=>iA [nl,nl] fun b2=>ie (Zv 2 [1] (Zz [] (C7 n.decls) (iL (YP []) 0 5 fun v1=>Z2 1 (iA [nl,nl] fun b3=>?_))))))
 refine ZI 0 b3 [ZU n.decls,WF [] v1] (ie (Yb (ab 0 (Y4 (fun fz gz m F h=>∃(k:Nat) (rs:List Yf) (u:Value),(k<=n.routines.length)/\(rs.length=k)/\(∀r∈rs,RF n.decls n.routines.length (4500*qz+10) VC r)/\F=sF [1,2,3] fz [(4,.i k)]/\h=[.obj b3 [ZU n.decls,WF rs u],Zc gz 2,Zc gz 3,.tail u 5]/\m=n.routines.length-k) _ _ _ ⟨0,[],v1,ob,ob,(fun r hr=>by cases hr),rfl,rfl,rfl⟩ (wk [0,1,1,0] (Yd fl)) ?_))))
 rintro m F h ⟨k,rs,u,Yg,Zi,Zw,rfl,rfl,rfl⟩
 refine Yi 3 [2] (iw (Uq n.routines) (Y0 ((k:Int)<(n.routines.length:Int)) (fun Za=>?_) (fun Za=>?_)))
 ·refine ak (aq (ab 1 (aE 19 (ZJ 14 19 [0,1,2,3,4] [0,2] ?_))))
  obtain ⟨x1,Z3⟩:=Zt n.routines k om
  have hrf:=hn.rf (Y2 Z3)
  have hrp:(x1).params.length<=3:=(TA.bd (f:=⟨(x1).params,(x1).result,default⟩) hrf.sig).1
  have hrl:=hrf.lent.1
  have hrz:=hrf.body.2
  refine dx 5 (Zh none (k:Int) 5 (Wv Z3)) (ZJ 8 13 [6,7,8,9,10] [2,2] (dx 11 (Zh none (k:Int) 5 (Wv Z3)) (Zj 6 7 [12] (Z7 13 (dc 13 [] [2,0] [b1,b3] (Z4t n x1 qz (hr:=hrf)) ?_)))))
  rintro _ _ ⟨y1,rfl,rfl,ZW⟩
  have hkb:=ZW
  exact Z7 14 (Yp 14 [] [0] [b3] (D5 x1 y1 (hp:=om) (hl:=om)) (Z7 15 (dL 15 [0] [b3] (YP [Yf.mk x1.params x1.lent x1.result y1]) 1 5 fun v2=>Yr 3 3 [] [(32,Kg [Yf.mk x1.params x1.lent x1.result y1])] (Z7 16 (dp 16 4 [] [] (YP (rs++[Yf.mk x1.params x1.lent x1.result y1])) (YP rs) (YP [Yf.mk x1.params x1.lent x1.result y1]) u none 5 (UT _) (UT _) (AN _) (by simp<;>omega) (by simp [BK,YP]) fun v3=>Zj 1 2 [17] (Z7 18 (YJ 18 2 [] [] b3 [ZU n.decls,WF (rs++[Yf.mk x1.params x1.lent x1.result y1]) v3] (de (az (Z2 1 (ZK k (Z0 (ZL ⟨k+1,(rs++[Yf.mk x1.params x1.lent x1.result y1]),v3,ob,ob,(Xz Zw (by first|exact hrf.with hkb.fb hkb.sz hkb.op|(rw [Z9.eta];exact hrf.with hkb.fb hkb.sz hkb.op))),rfl,rfl,rfl⟩ (wk [0,2,2,0] (ZO k fl)))))))))))))))
 exact ax 0 (Zv 1 [0] (ZI 1 b2 [ZU n.decls,WF rs u] (ie (ZD (r3 [] [.agg [ZU n.decls,WF rs u]] [0] [(b2,b2)] ⟨(Zk.mk n.decls rs),rfl,rfl,(FO.fin hn.fn om Zw).1⟩ (Zd.agg (.cons (lr _) (.cons (Zd.forget _ _) .nil))))))))
theorem Z4o (n:Zk) (us:LI) (s:Z5) (mm:Nat) (hn:X4 n:=by exact ob) (hf:FS n.decls n.routines.length mm s:=by exact ob) (hvl:us.length=mm:=by exact ob) (hm:mm<=100000000:=by exact ob):Zl 245 [Yn n,Z4 us,YG s] [] (fun r h=>∃(zs:LI),r=Z4 zs/\h=[]/\zs.length<=s.args.length/\∀z∈zs,z∈s.args):=by
 have hal:=hf.alen
 refine ZG 31 Tryz.func245 (ar (iA (YT n) fun b1=>iA (Xv s) fun b2=>Z0 (ar (iL (Z6 []) 0 1 fun v1=>?_))))
 refine Z0 (Yb (ab 0 (Y4 (fun fz gz m F h=>∃(k:Nat) (zs:LI) (u:Value),(k<=s.args.length)/\(zs.length<=k)/\(∀z∈zs,z∈s.args)/\F=sF [1,3,5] fz [(7,ZT zs u),(8,.i k)]/\h=[Zc gz 1,Zc gz 2,.tail u 1]/\m=s.args.length-k) _ _ _ ⟨0,[],v1,ob,ob,(fun z hz=>by cases hz),rfl,rfl,rfl⟩ (wk [1,1,0] (fr (Yd fl))) ?_)))
 rintro m F h ⟨k,zs,u,Yg,Zi,Zw,rfl,rfl,rfl⟩
 refine Yi 3 [0] (iw (Y6 s.args) (Y0 ((k:Int)<(s.args.length:Int)) (fun Za=>?_) (fun Za=>?_)))
 ·obtain ⟨a1,ha1⟩:=Zt s.args k om
  have har:=hf.args a1 (Y2 ha1)
  refine ak (aq (ab 1 (Zv 4 [1,0] (Zz [] (Gy n us s k a1 (hnum:=hf.call) (ha:=ha1)) (ie (ac (TB n us s.op s.num a1 k) Iff.rfl (fun Zg=>?_) (fun Zg=>?_)))))))
  ·exact az (ZM 4 [0] (Zm (Zh none (k:Int) 1 (ZY ha1)) (Z2 1 (iL (Z6 [a1]) 1 1 fun v2=>ZP 0 [(28,Z4 [a1])] (ip 3 (Z6 (zs++[a1])) (Z6 zs) (Z6 [a1]) u none 1 (YA _) (YA _) (W6 _) (by simp<;>omega) (by simp [W5,Z6]) fun v3=>Z0 (az (Z2 1 (ZK k (Z0 (ZL ⟨k+1,(zs++[a1]),v3,ob,ob,(by first|exact Zw|exact Xz Zw (Y2 ha1)),rfl,rfl,rfl⟩ (wk [2,2,0] (fr (ZO k fl)))))))))))))
  exact ak (az (Z2 1 (ZK k (Z0 (ZL ⟨k+1,zs,u,ob,ob,(by first|exact Zw|exact Xz Zw (Y2 ha1)),rfl,rfl,rfl⟩ (ZE 3 (fr (ZO k fl))))))))
 exact ax 0 (ar (Zq (r2 [] [ZT zs u] ⟨zs,rfl,rfl,⟨by omega,Zw⟩⟩ (Zd.forget _ _))))
theorem Z5a (n:Zk) (us:LI) (s:Z5) (mm:Nat) (bb:Nat) (hn:X4 n:=by exact ob) (hf:FS n.decls n.routines.length mm s:=by exact ob) (h11:s.op<=11:=by exact ob) (hop:QO WR s.kids:=by exact ob) (hul:us.length=mm:=by exact ob) (hm:mm+4*s.sz<=100000:=by exact ob) (hbz:s.sz<=500:=by exact ob) (hb:s.sz<=bb:=by exact ob) (ih:∀(us2:LI) (b2:Z9) (mi2:LI) (m2:Nat),(fB n.decls n.routines.length m2 b2)->(Vm WR b2)->(us2.length=m2)->(m2+4*b2.sz<=100000)->(∀v∈mi2,0<=v/\v<(m2:Int))->(mi2.length<=3)->(b2.sz<=500)->(b2.sz<bb)->Zl 192 [Yn n,Z4 us2,ZZ b2,Z4 mi2] [] (fun r h=>∃(y:Z9),r=ZZ y/\h=[]/\KB n.decls n.routines.length m2 y (60*b2.sz))):Zl 246 [Yn n,Z4 us,YG s] [] (fun r h=>∃(y:Z5),r=YG y/\h=[]/\KT n.decls n.routines.length mm y (60*X9 s.kids+23)):=by
 have Xt:=hn.decls
 have hkf:=hf.few Xt
 have hsa:=hf.alen
 refine ZG 72 Tryz.func246 (ar (iA (YT n) fun b1=>iA (Xv s) fun b2=>iA [.i 0,.i 0,.i 0,nl,nl] fun b3=>ie (ar (iL (YK []) 0 2 fun v1=>Z0 (Zv 4 [3,2] (ic [] (JI n.decls s.num) ?_))))))
 rintro _ _ ⟨v2,rfl,rfl⟩
 refine Z0 (Yb (ab 0 (Y4 (fun fz gz m F h=>∃(k:Nat) (ks:List Z9) (u:Value),(k<=s.kids.length)/\(ks.length=k)/\(KK n.decls n.routines.length (Tj n.decls s.op s.num mm) ks (60*X9 (s.kids.take k)+6*k))/\F=sF [1,3,5,6] fz [(7,Ti ks u),(8,Z4 (ZX n.decls s.num)),(9,.i k)]/\h=[Zc gz 2,Zc gz 3,Zc gz 4,.tail u 2]/\m=s.kids.length-k) _ _ _ ⟨0,[],v1,ob,ob,(KK.nil.le (K3 _)),rfl,rfl,rfl⟩ (wk [2,2,2,1] (fr (fc (x:=ZT (ZX n.decls s.num) v2) (Zd.forget _ _) (Yd fl)))) ?_)))
 rintro m F h ⟨k,ks,u,Yg,Zi,Zw,rfl,rfl,rfl⟩
 refine Yi 3 [1] (iw (Ue s.kids) (Y0 ((k:Int)<(s.kids.length:Int)) (fun Za=>?_) (fun Za=>?_)))
 ·refine ak (aq (ab 1 (ar (iL (Z6 []) 0 1 fun v3=>?_))))
  refine Z0 (X0 (Vo [2] (XP (fun fz gz F h=>∃(fds:LI),(Tj n.decls s.op s.num mm k=mm+fds.length)/\(fds.length<=3)/\F=sF [1,3,5,6,7,8,9] fz [(10,Z4 fds)]/\h=[Zc gz 1,Zc gz 2,Zc gz 3,Zc gz 4]) ?_ ?_)))
  ·refine ac (s.op==8) Zp (fun Zg=>?_) (fun Zg=>?_)
   ·refine aE 8 (ZJ 4 8 [0,1,2,3] [3] ?_)
    obtain ⟨x1,Z3⟩:=Zt (ZX n.decls s.num) k (by have:=hf.k8 (by assumption);omega)
    have hcf:=U6 Xt x1
    exact dx 4 (Zh none (k:Int) 1 (ZY Z3)) (Zj 2 3 [5] (Z7 6 (Yp 6 [] [] [] (Kj n.decls x1) (Zj 0 1 [7] (de (ZQ ⟨ZV n.decls x1,(Lj (by assumption) Z3),ob,rfl,rfl⟩ (wk [1,1,1,1] fl)))))))
   exact ak (ZQ ⟨[],(by rw [Lk (by assumption)];rfl),ob,rfl,rfl⟩ (wk [1,1,1,1] fl))
  rintro F h ⟨fds,VY,Af,rfl,rfl⟩
  refine Y5 2 (iw (Y6 us) (ic [] (NF fds us.length) ?_))
  rintro _ _ ⟨xs1,rfl,rfl,ZW⟩
  have hhf:=ZW
  refine Z0 (aD 13 (ZJ 7 13 [0,1,2,4,5,6] [2,1] ?_))
  obtain ⟨x2,Zr⟩:=Zt s.kids k om
  have hkz:=Tt Zr
  have hfk:=DE hf.kids Zr
  rw [Vc,VY] at hfk
  have hok:=CV.1 hop x2 (Y2 Zr)
  have hbt:=EM Zr
  have hba:=EN Zr
  refine dx 7 (Zh none (k:Int) 2 (UR Zr)) (Zj 4 6 [8,9] (Ky (fun fz gz F h=>∃(y1:Z9) (b4:Nat),(KB n.decls n.routines.length (mm+fds.length) y1 (60*x2.sz))/\F=sF [1,3,5,6,7,8,9,11] fz [(12,.p b4 0)]/\h=[.obj b4 (Xk y1),Zc gz 0,Zc gz 1,Zc gz 2,Zc gz 3]) ?_ ?_))
  ·refine VE 3 11 ?_ ?_
   ·refine dc 3 [] [1,2] [b2,b1] (QV us fds) ?_
    rintro _ _ ⟨v4,rfl,rfl⟩
    refine Yr 3 3 [] [(44,Z4 (us++fds))] (VE 10 11 ?_ ?_)
    ·refine dc 10 [] [] [] (ih (us++fds) x2 xs1 (mm+fds.length) hfk hok (by rw [Yw,hul]) ob (fun v hv=>by have:=hhf.2 v hv;omega) ob ob ob) ?_
     rintro _ _ ⟨y1,rfl,rfl,Yh⟩
     have hkb:=Yh
     have hkl:=hkb.len
     exact Z7 11 (dA 11 [] [] [nl,.i 0] fun b4=>Z7 12 (YJ 12 0 [] [] b4 (Xk y1) (de (ZQ ⟨_,b4,(by assumption),rfl,rfl⟩ (wk [0,1,1,1,1] fl)))))
    refine dA 11 [1,2] [b2,b1] [nl,.i 0] fun b5=>Z7 10 (dc 10 [] [] [] (ih (us++fds) x2 xs1 (mm+fds.length) hfk hok (by rw [Yw,hul]) ob (fun v hv=>by have:=hhf.2 v hv;omega) ob ob ob) ?_)
    rintro _ _ ⟨y2,rfl,rfl,YE⟩
    have hkb:=YE
    have hkl:=hkb.len
    exact Z7 12 (YJ 12 0 [] [] b5 (Xk y2) (de (ZQ ⟨_,b5,(by assumption),rfl,rfl⟩ (wk [0,1,1,1,1] fl))))
   refine dA 11 [1,2] [b2,b1] [nl,.i 0] fun b6=>Z7 3 (dc 3 [] [2,3] [b2,b1] (QV us fds) ?_)
   rintro _ _ ⟨v5,rfl,rfl⟩
   refine Yr 2 2 [] [(44,Z4 (us++fds))] (Z7 10 (dc 10 [] [] [] (ih (us++fds) x2 xs1 (mm+fds.length) hfk hok (by rw [Yw,hul]) ob (fun v hv=>by have:=hhf.2 v hv;omega) ob ob ob) ?_))
   rintro _ _ ⟨y3,rfl,rfl,YN⟩
   have hkb:=YN
   have hkl:=hkb.len
   exact Z7 12 (YJ 12 1 [] [] b6 (Xk y3) (de (ZQ ⟨_,b6,(by assumption),rfl,rfl⟩ (wk [0,1,1,1,1] fl))))
  rintro F h ⟨y1,b4,Yh,rfl,rfl⟩
  have hkb:=Yh
  have hkl:=hkb.len
  refine aE 12 (ZJ 6 12 [0,1,3,4,6,7] [0,0] (Z7 2 (dc 2 [] [0,0] [b4,b4] (Kk 14 xs1) ?_)))
  rintro _ _ ⟨v6,rfl,rfl⟩
  exact Z7 5 (dp 5 0 [0] [b4] (Zy ((xs1.map (Zx 14))++y1.steps)) (Zy (xs1.map (Zx 14))) (Zy y1.steps) v6 none 5 (Xj _) (Xj _) (VW _) (by simp<;>omega) (by simp [WW,Zy]) fun v7=>Yr 3 4 [8] [(60,.agg [Wz ((xs1.map (Zx 14))++y1.steps),.i y1.result])] (Z7 9 (WC 9 [] [] [ZZ (Z9.mk ((xs1.map (Zx 14))++y1.steps) y1.result)] (YK [Z9.mk ((xs1.map (Zx 14))++y1.steps) y1.result]) (Tb [Z9.mk ((xs1.map (Zx 14))++y1.steps) y1.result]).symm 1 2 fun v8=>Yr 2 2 [] [(61,XZ [Z9.mk ((xs1.map (Zx 14))++y1.steps) y1.result])] (Z7 10 (dp 10 6 [] [] (YK (ks++[Z9.mk ((xs1.map (Zx 14))++y1.steps) y1.result])) (YK ks) (YK [Z9.mk ((xs1.map (Zx 14))++y1.steps) y1.result]) u none 2 (TK _) (TK _) (F3 _) (by simp<;>omega) (by simp [A1,YK]) fun v9=>Zj 0 1 [11] (de (az (Z2 1 (ZK k (Z0 (ZL ⟨k+1,(ks++[Z9.mk ((xs1.map (Zx 14))++y1.steps) y1.result]),v9,ob,ob,((Zw.snoc Zi (by rw [VY];exact hkb.put1 (op:=14) (.inl rfl) (fun v hv=>by have:=hhf.2 v hv;omega))).le om),rfl,rfl,rfl⟩ (wk [4,4,4,0] (fw (ZO k fl))))))))))))))
 refine ax 0 (aD 10 (ZJ 3 10 [0,1,2,3,4,5,7] [1,1,1] (Z7 6 (dc 6 [] [1,1] [b2,b2] (Ub s.args) ?_))))
 rintro _ _ ⟨v10,rfl,rfl⟩
 exact Zj 1 2 [8] (Z7 9 (YJ 9 1 [] [] b3 [.i s.op,.i s.num,.i 0,ZT s.args v10,Ti ks u] (de (ZD (r3 [] [.agg [.i s.op,.i s.num,.i 0,ZT s.args v10,Ti ks u]] [0] [(b3,b3)] ⟨(Z5.mk s.op s.num 0 s.args ks),rfl,rfl,((KT.of (into:=0) hf h11 om om Zw).le (by have:=Hn (xs:=s.kids) (k:=k) om;omega))⟩ (Zd.agg (.cons (lr _) (.cons (lr _) (.cons (lr _) (.cons (Zd.forget _ _) (.cons (Zd.forget _ _) .nil)))))))))))
theorem Z59 (n:Zk) (us:LI) (b:Z9) (mi:LI) (mm:Nat) (hn:X4 n) (hf:fB n.decls n.routines.length mm b) (hop:Vm WR b) (hul:us.length=mm) (hm:mm+4*b.sz<=100000) (hmr:∀v∈mi,0<=v/\v<(mm:Int)) (hml:mi.length<=3) (hbz:b.sz<=500) (ih:∀(us2:LI) (b2:Z9) (mi2:LI) (m2:Nat),(fB n.decls n.routines.length m2 b2)->(Vm WR b2)->(us2.length=m2)->(m2+4*b2.sz<=100000)->(∀v∈mi2,0<=v/\v<(m2:Int))->(mi2.length<=3)->(b2.sz<=500)->(b2.sz<b.sz)->Zl 192 [Yn n,Z4 us2,ZZ b2,Z4 mi2] [] (fun r h=>∃(y:Z9),r=ZZ y/\h=[]/\KB n.decls n.routines.length m2 y (60*b2.sz))):Zl 192 [Yn n,Z4 us,ZZ b,Z4 mi] [] (fun r h=>∃(y:Z9),r=ZZ y/\h=[]/\KB n.decls n.routines.length mm y (60*b.sz)):=by
 have Xt:=hn.decls
 have hbe:=b.sz_eq
 have ZH:=VS b
 obtain ⟨hfs,hr1,hr2⟩:=(DD b).1 hf
 have hos:=C0.1 ((G4 b).1 hop)
 have hdn:=Hz hos
 have hdl:=hdn b.steps.length (X5 _)
 rw [VA] at hdl
 refine ZG 80 Tryz.func192 (ar (iA (YT n) fun b1=>iA (Xk b) fun b2=>iA [nl,.i 0] fun b3=>ie (ar (iL (Zy []) 0 5 fun v1=>Z0 (Y5 1 (ic [] (Ub us) ?_))))))
 rintro _ _ ⟨v2,rfl,rfl⟩
 refine Z0 (Y5 1 (ic [] (Ub mi) ?_))
 rintro _ _ ⟨v3,rfl,rfl⟩
 refine Z0 (Yb (ab 0 (Y4 (fun fz gz m F h=>∃(k:Nat) (vs:LI) (w:Value) (ow:LI) (u:Value) (xs:List Z5) (v:Value) (z0:Nat),(k<=b.steps.length)/\(vs.length=mm+k)/\(CL n.decls n.routines.length mm xs k z0)/\(z0+2*ow.length<=60*Y8 (b.steps.take k)+2*mi.length)/\(∀v∈ow,0<=v/\v<((mm+k:Nat):Int))/\F=sF [4,6,8] fz [(9,YY xs v),(10,ZT vs w),(11,ZT ow u),(12,.i k)]/\h=[Zc gz 3,Zc gz 4,Zc gz 5,.tail u 1,.tail v 5,.tail w 1]/\m=b.steps.length-k) _ _ _ ⟨0,us,v2,mi,v3,[],v1,0,ob,ob,CL.nil,(by simp),hmr,rfl,rfl,rfl⟩ (wk [3,3,3,0,1,0] (fw (fr (Yd fl)))) ?_)))
 rintro m F h ⟨k,vs,w,ow,u,xs,v,z0,Yg,Zi,Zw,Yq,XR,rfl,rfl,rfl⟩
 refine Yi 3 [1] (iw (VF b.steps) (Y0 ((k:Int)<(b.steps.length:Int)) (fun Za=>?_) (fun Za=>?_)))
 ·refine ak (aq (ab 1 (Zv 3 [1] ?_)))
  obtain ⟨x1,Z3⟩:=Zt b.steps k om
  have Xm:=C8 Z3
  have hfS:=(Fd x1).1 (DF hfs Z3)
  rw [hdn k om] at hfS
  have hoS:=(E4 x1).1 (hos x1 (Y2 Z3))
  have htk:=LE Z3
  have hse:=(x1).sz_eq
  have hal4:=hfS.alen
  have hxl:=Zw.len
  have htl:=Qq b.steps (k+1)
  refine Zm (Zh none (k:Int) 5 (WD Z3)) (Z2 1 (iA [.i 0,.i 0,.i 0,nl,nl] fun b4=>ZI 0 b4 (Xv x1) (ie (ar (Qo 3 [(33,Z4 vs)] [3,0] (Zz [] (Ly n vs x1 ob ob) (Z0 (ar (Qo 4 [(38,Z4 vs)] [3,0] (ic [] (Z4o n vs x1 (mm+k) (hf:=hfS)) ?_))))))))))
  rintro _ _ ⟨zs1,rfl,rfl,ZW⟩
  have hdu:=ZW
  have hq1:=Zw.cnts (op:=14) (.inl rfl) (vs:=zs1) (fun v hv=>hfS.args v (hdu.2 v hv))
  have hl1:=hq1.len
  refine ic [] (Kk 14 zs1) ?_
  rintro _ _ ⟨v4,rfl,rfl⟩
  refine ZP 0 [(41,Wz (zs1.map (Zx 14)))] (ip 6 (Zy (xs++(zs1.map (Zx 14)))) (Zy xs) (Zy (zs1.map (Zx 14))) v none 5 (Xj _) (Xj _) (VW _) (by simp<;>omega) (by simp [WW,Zy]) fun v5=>Z0 (ar (Qo 4 [(45,Z4 vs)] [5,2] (ic [] (Z5a n vs x1 (mm+k) b.sz (hf:=hfS) (h11:=hoS.1) (hop:=hoS.2) (ih:=ih)) ?_))))
  rintro _ _ ⟨y1,rfl,rfl,Yh⟩
  have hkt:=Yh
  have hq2:=hq1.kt hkt
  have hl2:=hq2.len
  refine UG [YG y1] (Zy [y1]) (VG [y1]).symm 1 5 fun v6=>ZP 0 [(48,Wz [y1])] (ip 1 (Zy ((xs++(zs1.map (Zx 14)))++[y1])) (Zy (xs++(zs1.map (Zx 14)))) (Zy [y1]) v5 none 5 (Xj _) (Xj _) (VW _) (by simp<;>omega) (by simp [WW,Zy]) fun v7=>Z0 (X0 (YB ((Yc n vs x1) != 0) Yl (fun Zg=>?_) (fun Zg=>?_))))
  ·exact az (Z2 2 (iw (Y6 vs) (iL (Z6 [(vs.length:Int)]) 1 1 fun v8=>ZP 0 [(55,Z4 [(vs.length:Int)])] (ip 8 (Z6 (ow++[(vs.length:Int)])) (Z6 ow) (Z6 [(vs.length:Int)]) u none 1 (YA _) (YA _) (W6 _) (by simp<;>omega) (by simp [W5,Z6]) fun v9=>Z0 (az (Z2 2 (iL (Z6 [Yc n vs x1]) 1 1 fun v10=>ZP 0 [(59,Z4 [Yc n vs x1])] (ip 10 (Z6 (vs++[Yc n vs x1])) (Z6 vs) (Z6 [Yc n vs x1]) w none 1 (YA _) (YA _) (W6 _) (by simp<;>omega) (by simp [W5,Z6]) fun v11=>Z0 (az (Z2 1 (ZK k (Z0 (ZL ⟨k+1,(vs++[Yc n vs x1]),v11,(ow++[(vs.length:Int)]),v9,((xs++(zs1.map (Zx 14)))++[y1]),v7,_,ob,ob,hq2,(by (try simp only [Yw,YR,Xu]);omega),(by first|exact Xz (fun v hv=>by have:=XR v hv;omega) om|exact (fun v hv=>by have:=XR v hv;omega)),rfl,rfl,rfl⟩ (wk [8,8,8,2,3,0] (fw (fr (ZO k fl)))))))))))))))))
  exact ak (az (Z2 2 (iL (Z6 [Yc n vs x1]) 1 1 fun v12=>ZP 0 [(59,Z4 [Yc n vs x1])] (ip 9 (Z6 (vs++[Yc n vs x1])) (Z6 vs) (Z6 [Yc n vs x1]) w none 1 (YA _) (YA _) (W6 _) (by simp<;>omega) (by simp [W5,Z6]) fun v13=>Z0 (az (Z2 1 (ZK k (Z0 (ZL ⟨k+1,(vs++[Yc n vs x1]),v13,ow,u,((xs++(zs1.map (Zx 14)))++[y1]),v7,_,ob,ob,hq2,(by (try simp only [Yw,YR,Xu]);omega),(by first|exact Xz (fun v hv=>by have:=XR v hv;omega) om|exact (fun v hv=>by have:=XR v hv;omega)),rfl,rfl,rfl⟩ (wk [6,6,6,6,2,0] (fw (fr (ZO k fl)))))))))))))
 have hxl:=Zw.len
 have htl:=Qq b.steps k
 refine ax 0 (Yi 3 [1] ?_)
 obtain ⟨x2,Zr⟩:=Zt vs b.result.toNat om
 refine Zm (Zh (some w) b.result 1 (ZY Zr)) (YB (x2 != 0) Yl (fun ZC=>?_) (fun ZC=>?_))
 ·refine az (ZM 3 [1] (Zz [] (JJ 14 b.result) (UG [YG (Zx 14 b.result)] (Zy [Zx 14 b.result]) (VG [Zx 14 b.result]).symm 1 5 fun v14=>ZP 0 [(71,Wz [Zx 14 b.result])] (ip 5 (Zy (xs++[Zx 14 b.result])) (Zy xs) (Zy [Zx 14 b.result]) v none 5 (Xj _) (Xj _) (VW _) (by simp<;>omega) (by simp [WW,Zy]) fun v15=>Z0 (aD 8 (Co 4 8 [0,1,4,5] [(74,Z4 ow)] [3] (Z7 2 (dc 2 [] [1] [b2] (Kk 15 ow) ?_))))))))
  rintro _ _ ⟨v16,rfl,rfl⟩
  exact Yr 3 3 [] [(75,Wz (ow.map (Zx 15)))] (Z7 3 (dp 3 1 [1] [b2] (Zy ((xs++[Zx 14 b.result])++(ow.map (Zx 15)))) (Zy (xs++[Zx 14 b.result])) (Zy (ow.map (Zx 15))) v15 none 5 (Xj _) (Xj _) (VW _) (by simp<;>omega) (by simp [WW,Zy]) fun v17=>Zj 1 2 [6] (Z7 7 (YJ 7 3 [] [] b3 [YY ((xs++[Zx 14 b.result])++(ow.map (Zx 15))) v17,.i b.result] (de (ZD (r3 [] [.agg [YY ((xs++[Zx 14 b.result])++(ow.map (Zx 15))) v17,.i b.result]] [0] [(b3,b3)] ⟨(Z9.mk ((xs++[Zx 14 b.result])++(ow.map (Zx 15))) b.result),rfl,rfl,((((Zw.cnt (op:=14) (.inl rfl) om).cnts (op:=15) (.inr rfl) (fun v hv=>by have:=XR v hv;omega)).block om).le (by have:=Qq b.steps k;omega))⟩ (Zd.agg (.cons (Zd.forget _ _) (.cons (lr _) .nil))))))))))
 refine ak (aD 8 (Co 4 8 [0,1,4,5] [(74,Z4 ow)] [1] (Z7 2 (dc 2 [] [1] [b2] (Kk 15 ow) ?_))))
 rintro _ _ ⟨v18,rfl,rfl⟩
 exact Yr 3 3 [] [(75,Wz (ow.map (Zx 15)))] (Z7 3 (dp 3 5 [1] [b2] (Zy (xs++(ow.map (Zx 15)))) (Zy xs) (Zy (ow.map (Zx 15))) v none 5 (Xj _) (Xj _) (VW _) (by simp<;>omega) (by simp [WW,Zy]) fun v19=>Zj 1 2 [6] (Z7 7 (YJ 7 2 [] [] b3 [YY (xs++(ow.map (Zx 15))) v19,.i b.result] (de (ZD (r3 [] [.agg [YY (xs++(ow.map (Zx 15))) v19,.i b.result]] [0] [(b3,b3)] ⟨(Z9.mk (xs++(ow.map (Zx 15))) b.result),rfl,rfl,(((Zw.cnts (op:=15) (.inr rfl) (fun v hv=>by have:=XR v hv;omega)).block om).le (by have:=Qq b.steps k;omega))⟩ (Zd.agg (.cons (Zd.forget _ _) (.cons (lr _) .nil))))))))))
theorem Z58 (n:Zk) (us:LI) (b:Z9) (mi:LI) (mm:Nat) (hn:X4 n:=by exact ob) (hf:fB n.decls n.routines.length mm b:=by exact ob) (hop:Vm WR b:=by exact ob) (hul:us.length=mm:=by exact ob) (hm:mm+4*b.sz<=100000:=by exact ob) (hmr:∀v∈mi,0<=v/\v<(mm:Int)) (hml:mi.length<=3:=by exact ob) (hbz:b.sz<=500:=by exact ob):Zl 192 [Yn n,Z4 us,ZZ b,Z4 mi] [] (fun r h=>∃(y:Z9),r=ZZ y/\h=[]/\KB n.decls n.routines.length mm y (60*b.sz)):=by
 have key:∀k:Nat,∀(us2:LI) (b2:Z9) (mi2:LI) (m2:Nat),(fB n.decls n.routines.length m2 b2)->(Vm WR b2)->(us2.length=m2)->(m2+4*b2.sz<=100000)->(∀v∈mi2,0<=v/\v<(m2:Int))->(mi2.length<=3)->(b2.sz<=500)->(b2.sz<k)->Zl 192 [Yn n,Z4 us2,ZZ b2,Z4 mi2] [] (fun r h=>∃(y:Z9),r=ZZ y/\h=[]/\KB n.decls n.routines.length m2 y (60*b2.sz)):=by
  intro k
  induction k with
  | zero=>intro us2 b2 mi2 m2 h1 h2 h3 h4 h5 h6 h7 h9;omega
  | succ k ih=>intro us2 b2 mi2 m2 h1 h2 h3 h4 h5 h6 h7 h9;exact Z59 n us2 b2 mi2 m2 hn h1 h2 h3 h4 h5 h6 h7 fun us3 b3 mi3 m3 q1 q2 q3 q4 q5 q6 q7 q9=>ih us3 b3 mi3 m3 q1 q2 q3 q4 q5 q6 q7 om
 exact key (b.sz+1) us b mi mm hf hop hul hm hmr hml hbz om
theorem Z5s (rt:Yf) (hp:rt.params.length<=1000000:=by exact ob) (hl:rt.lent.length<=1000000:=by exact ob):Zl 193 [K6 rt] [] (fun r h=>∃(os:LI),r=Z4 os/\h=[]/\os.length<=rt.params.length/\∀v∈os,0<=v/\v<(rt.params.length:Int)):=by
 refine ZG 31 Tryz.func193 (ar (iA (KM rt) fun b1=>Z0 (ar (iL (Z6 []) 0 1 fun v1=>?_))))
 refine Z0 (Yb (ab 0 (Y4 (fun fz gz m F h=>∃(k:Nat) (os:LI) (u:Value),(k<=rt.params.length)/\(os.length<=k)/\(∀v∈os,0<=v/\v<(rt.params.length:Int))/\F=sF [1] fz [(3,ZT os u),(4,.i k)]/\h=[Zc gz 1,.tail u 1]/\m=rt.params.length-k) _ _ _ ⟨0,[],v1,ob,ob,(fun v hv=>by cases hv),rfl,rfl,rfl⟩ (wk [1,0] (fr (Yd fl))) ?_)))
 rintro m F h ⟨k,os,u,Yg,Zi,Zw,rfl,rfl,rfl⟩
 refine Yi 3 [0] (iw (Y6 rt.params) (Y0 ((k:Int)<(rt.params.length:Int)) (fun Za=>?_) (fun Za=>?_)))
 ·refine ak (aq (ab 1 (Zv 3 [0] ?_)))
  obtain ⟨x1,Z3⟩:=Zt rt.params k om
  refine Zm (Zh none (k:Int) 1 (ZY Z3)) (Xo [1,3,4] [(25,.b ((x1 != 0)&&(!(decide ((k:Int)∈rt.lent)))))] (fun gz=>gz) ?_ ?_)
  ·refine Z2 3 (ib (b:=(x1 != 0)) 19 (fun Zb=>?_) (fun Zb=>?_))
   ·exact ZM 3 [0] (Zz [] (UJ rt.lent (k:Int)) (Z0 (wk [0,0] (Zu (!(decide ((k:Int)∈rt.lent))) Zb fl))))
   exact Z0 (wk [0,0] (Zu false Zb fl))
  refine ac ((x1 != 0)&&(!(decide ((k:Int)∈rt.lent)))) (p:=(x1≠0)/\(¬((k:Int)∈rt.lent))) (YH Yl (Yo dq)) (fun Zg=>?_) (fun Zg=>?_)
  ·exact az (Z2 2 (iL (Z6 [(k:Int)]) 1 1 fun v2=>ZP 0 [(28,Z4 [(k:Int)])] (ip 2 (Z6 (os++[(k:Int)])) (Z6 os) (Z6 [(k:Int)]) u none 1 (YA _) (YA _) (W6 _) (by simp<;>omega) (by simp [W5,Z6]) fun v3=>Z0 (az (Z2 1 (ZK k (Z0 (ZL ⟨k+1,(os++[(k:Int)]),v3,ob,ob,(by first|exact Zw|exact Xz Zw om),rfl,rfl,rfl⟩ (wk [2,0] (fr (ZO k fl)))))))))))
  exact ak (az (Z2 1 (ZK k (Z0 (ZL ⟨k+1,os,u,ob,ob,(by first|exact Zw|exact Xz Zw om),rfl,rfl,rfl⟩ (wk [0,0] (fr (ZO k fl))))))))
 exact ax 0 (ar (Zq (r2 [] [ZT os u] ⟨os,rfl,rfl,⟨by omega,Zw⟩⟩ (Zd.forget _ _))))
theorem Z57 (n:Zk) (qz:Nat) (hn:FO n qz WR:=by exact ob) (hqz:qz<=181:=by exact ob):Zl 149 [Yn n] [] (fun r h=>∃(n2:Zk),r=Yn n2/\h=[]/\FO n2 (60*qz) VC):=by
 have hnl:=hn.fn.len
 have Xt:=hn.fn.decls.ok
 have hok:=hn.fn.ok
 refine ZG 39 Tryz.func149 (ar (iA (YT n) fun b1=>iA [nl,nl] fun b2=>ie (Zv 2 [1] (Zz [] (C7 n.decls) (iL (YP []) 0 5 fun v1=>Z2 1 (iA [nl,nl] fun b3=>?_))))))
 refine ZI 0 b3 [ZU n.decls,WF [] v1] (ie (Yb (ab 0 (Y4 (fun fz gz m F h=>∃(k:Nat) (rs:List Yf) (u:Value),(k<=n.routines.length)/\(rs.length=k)/\(∀r∈rs,RF n.decls n.routines.length (60*qz) VC r)/\F=sF [1,2,3] fz [(4,.i k)]/\h=[.obj b3 [ZU n.decls,WF rs u],Zc gz 2,Zc gz 3,.tail u 5]/\m=n.routines.length-k) _ _ _ ⟨0,[],v1,ob,ob,(fun r hr=>by cases hr),rfl,rfl,rfl⟩ (wk [0,1,1,0] (Yd fl)) ?_))))
 rintro m F h ⟨k,rs,u,Yg,Zi,Zw,rfl,rfl,rfl⟩
 refine Yi 3 [2] (iw (Uq n.routines) (Y0 ((k:Int)<(n.routines.length:Int)) (fun Za=>?_) (fun Za=>?_)))
 ·refine ak (aq (ab 1 (Zv 3 [2] ?_)))
  obtain ⟨x1,Z3⟩:=Zt n.routines k om
  have hrf:=hn.rf (Y2 Z3)
  have hrp:(x1).params.length<=3:=(TA.bd (f:=⟨(x1).params,(x1).result,default⟩) hrf.sig).1
  have hrl:=hrf.lent.1
  have hrz:=hrf.body.2
  refine Zm (Zh none (k:Int) 5 (Wv Z3)) (Z2 1 (iA [nl,nl,.i 0,nl,.i 0] fun b4=>ZI 0 b4 (KM x1) (ie (aE 16 (ZJ 7 16 [0,1,2,3,4,5,6,7,8] [1,0,3,0,0,0] (Z7 9 (dc 9 [] [0,0,3,0,1] [b4,b4,b1,b4,b3] (Z5s x1) ?_)))))))
  rintro _ _ ⟨os1,rfl,rfl,ZW⟩
  have hop:=ZW
  refine Z7 10 (dc 10 [] [0,1] [b4,b3] (Z58 n x1.params x1.body os1 _ (hf:=hrf.body.1) (hop:=hrf.op) (hul:=rfl) (hmr:=hop.2)) ?_)
  rintro _ _ ⟨y1,rfl,rfl,Yh⟩
  have hkb0:=Yh
  have hkb:=hkb0.le (z2:=60*qz) om
  exact Z7 11 (Yp 11 [] [1] [b3] (D5 x1 y1 (hp:=om) (hl:=om)) (Z7 12 (dL 12 [1] [b3] (YP [Yf.mk x1.params x1.lent x1.result y1]) 1 5 fun v2=>Yr 3 3 [] [(35,Kg [Yf.mk x1.params x1.lent x1.result y1])] (Z7 13 (dp 13 5 [] [] (YP (rs++[Yf.mk x1.params x1.lent x1.result y1])) (YP rs) (YP [Yf.mk x1.params x1.lent x1.result y1]) u none 5 (UT _) (UT _) (AN _) (by simp<;>omega) (by simp [BK,YP]) fun v3=>Zj 1 2 [14] (Z7 15 (YJ 15 3 [] [] b3 [ZU n.decls,WF (rs++[Yf.mk x1.params x1.lent x1.result y1]) v3] (de (az (Z2 1 (ZK k (Z0 (ZL ⟨k+1,(rs++[Yf.mk x1.params x1.lent x1.result y1]),v3,ob,ob,(Xz Zw (by first|exact hrf.with hkb.fb hkb.sz hkb.op|(rw [Z9.eta];exact hrf.with hkb.fb hkb.sz hkb.op))),rfl,rfl,rfl⟩ (wk [0,3,3,0] (ZO k fl)))))))))))))))
 exact ax 0 (Zv 1 [0] (ZI 1 b2 [ZU n.decls,WF rs u] (ie (ZD (r3 [] [.agg [ZU n.decls,WF rs u]] [0] [(b2,b2)] ⟨(Zk.mk n.decls rs),rfl,rfl,(FO.fin hn.fn om Zw).1⟩ (Zd.agg (.cons (lr _) (.cons (Zd.forget _ _) .nil))))))))
theorem Ru (s:Z5) :Zl 194 [YG s] [] (Yv (.b ((s.op==14)||(s.op==15)))):=by
 refine ZG 11 Tryz.func194 (ar (iA (Xv s) fun b1=>Z0 (ar (XK 8 [] [(10,.b ((s.op==14)||(s.op==15)))] (fun gz=>gz) ?_ (fun hj1=>?_)))))
 ·exact Zq (El)
 refine ZM 4 [0] (ib (b:=(s.op==14)) 6 (fun Zb=>?_) (fun Zb=>?_))
 ·exact Z2 4 (Yu (wk [0] (Zu true Zb fl)) hj1)
 exact ZM 4 [0] (Yu (wk [0] (Zu (s.op==15) Zb fl)) hj1)
theorem Z67 (rn:List Z5) (hrn:∀s∈rn,∃a,s.args=[a]) (hl:rn.length<=100000000:=by exact ob):Zl 247 [Wz rn] [] (fun r h=>∃(vs:LI),r=Z4 vs/\h=[]/\Bz vs/\vs.length<=rn.length/\∀v∈vs,∃s∈rn,s.args=[v]):=by
 refine ZG 22 Tryz.func247 (ZF (ar (iL (Z6 []) 0 1 fun v1=>?_)))
 refine Z0 (Yb (ab 0 (Y4 (fun fz gz m F h=>∃(k:Nat) (vs:LI),(k<=rn.length)/\(vs.length<=k)/\(Bz vs)/\(∀v∈vs,∃s∈rn,s.args=[v])/\F=sF [0] fz [(3,Z4 vs),(4,.i k)]/\h=[]/\m=rn.length-k) _ _ _ ⟨0,[],ob,ob,List.Pairwise.nil,(fun v hv=>by cases hv),rfl,rfl,rfl⟩ (wk [] (fc (x:=ZT [] v1) (Zd.forget _ _) (Yd fl))) ?_)))
 rintro m F h ⟨k,vs,Yg,Zi,Zw,Yq,rfl,rfl,rfl⟩
 refine YL 2 (iw (VF rn) (Y0 ((k:Int)<(rn.length:Int)) (fun Za=>?_) (fun Za=>?_)))
 ·refine ak (aq (ab 1 (az (Z2 3 ?_))))
  obtain ⟨x1,Z3⟩:=Zt rn k om
  have hxm:=Y2 Z3
  obtain ⟨xa,hxa⟩:=hrn _ hxm
  refine Zm (Zh none (k:Int) 5 (WD Z3)) (Z2 2 ?_)
  obtain ⟨x2,Zr⟩:=Zt x1.args 0 (by rw [hxa];simp)
  have hxe:x1.args=[x2]:=by have h:=Zr;rw [hxa] at h;rw [hxa];simpa using h
  refine Zm (Zh none 0 1 (ZY Zr)) (Z2 1 (ic [] (DJ vs x2) ?_))
  rintro _ _ ⟨v2,rfl,rfl⟩
  exact Z0 (az (Z2 1 (ZK k (Z0 (ZL ⟨k+1,(U8 vs x2),ob,(by have:=CJ vs x2;omega),(Od Zw),(fun v hv=>(DR.1 hv).elim (Yq v) (fun e=>⟨x1,hxm,by rw [e];exact hxe⟩)),rfl,rfl,rfl⟩ (wk [] (fc (x:=ZT (U8 vs x2) v2) (Zd.forget _ _) (ZO k fl))))))))
 exact ax 0 (ar (Zq (r1 [] ⟨vs,rfl,rfl,⟨Zw,by omega,Yq⟩⟩)))
theorem Z5k (rn:List Z5) (v:Int) (hrn:∀s∈rn,∃a,s.args=[a]) (hl:rn.length<=100000000:=by exact ob):Zl 248 [Wz rn,.i v] [] (fun r h=>∃(z:Int),r=.i z/\h=[]/\-((VM rn v:Nat):Int)<=z/\z<=((VM rn v:Nat):Int)):=by
 refine ZG 44 Tryz.func248 (ZF (ZF (Yb (ab 0 (Y4 (fun fz gz m F h=>∃(k:Nat) (z:Int),(k<=rn.length)/\(-((VM (rn.take k) v:Nat):Int)<=z/\z<=((VM (rn.take k) v:Nat):Int))/\F=sF [0,1] fz [(5,.i z),(6,.i k)]/\h=gz/\m=rn.length-k) _ _ _ ⟨0,0,ob,(by simp [VM]),rfl,rfl,rfl⟩ (wk [] (fr (Yd fl))) ?_)))))
 rintro m F h ⟨k,z,Yg,Zi,rfl,rfl,rfl⟩
 refine YL 2 (iw (VF rn) (Y0 ((k:Int)<(rn.length:Int)) (fun Za=>?_) (fun Za=>?_)))
 ·refine ak (aq (ab 1 (Y5 2 ?_)))
  obtain ⟨x1,Z3⟩:=Zt rn k om
  have hxm:=Y2 Z3
  obtain ⟨xa,hxa⟩:=hrn _ hxm
  have hct:=Z1m Z3 v
  have hcl:=Z1n rn (k+1) v
  have hcm:=MM rn v
  refine Zm (Zh none (k:Int) 5 (WD Z3)) (Z2 2 ?_)
  obtain ⟨x2,Zr⟩:=Zt x1.args 0 (by rw [hxa];simp)
  have hg0:=Jf Zr
  rw [hg0] at hct
  refine Zm (Zh none 0 1 (ZY Zr)) (Xo [0,1,5,6] [(29,.b ((x2==v)&&(x1.op==14)))] (fun gz=>gz) ?_ ?_)
  ·refine Z2 4 (ib (b:=(x2==v)) 22 (fun Zb=>?_) (fun Zb=>?_))
   ·exact Z2 2 (Zm (Zh none (k:Int) 5 (WD Z3)) (Z0 (wk [] (Zu (x1.op==14) Zb fl))))
   exact Z0 (wk [] (Zu false Zb fl))
  refine ac ((x2==v)&&(x1.op==14)) (p:=(x2=v)/\(x1.op=14)) (YH Zp Zp) (fun Zg=>?_) (fun Zg=>?_)
  ·exact az (Z2 1 (ia ((z+1)) ((z)+(1)) (Z0 (az (Z2 1 (ZK k (Z0 (ZL ⟨k+1,(z+1),ob,(by first|(rw [hct,Ze om];omega)|(rw [hct,Z8 om];omega)),rfl,rfl,rfl⟩ (wk [] (fr (ZO k fl)))))))))))
  refine Y5 2 (Zm (Zh none (k:Int) 5 (WD Z3)) (Z2 2 (Zm (Zh none 0 1 (ZY Zr)) (YB (x2==v) Zp (fun ZC=>?_) (fun ZC=>?_)))))
  ·exact az (Z2 1 (ia ((z-1)) ((z)-(1)) (Z0 (az (Z2 1 (ZK k (Z0 (ZL ⟨k+1,(z-1),ob,(by first|(rw [hct,Ze om];omega)|(rw [hct,Z8 om];omega)),rfl,rfl,rfl⟩ (wk [] (fr (ZO k fl)))))))))))
  exact ak (az (Z2 1 (ZK k (Z0 (ZL ⟨k+1,z,ob,(by first|(rw [hct,Ze om];omega)|(rw [hct,Z8 om];omega)),rfl,rfl,rfl⟩ (wk [] (fr (ZO k fl))))))))
 exact ax 0 (ar (Zq (r1 [] ⟨z,rfl,rfl,(by have e:=Zi;rw [Vq om] at e;exact e)⟩)))
theorem NK (rn:List Z5) (hrn:∀s∈rn,∃a,s.args=[a]) (hl:rn.length<=100000000:=by exact ob):Zl 195 [Wz rn] [] (fun r h=>∃(D:LI) (R:LI) (v:Value),r=YY (D.map (Zx 14)++R.map (Zx 15)) v/\h=[.tail v 5]/\D.length+R.length<=rn.length/\(∀v∈D,∃s∈rn,s.args=[v])/\∀v∈R,∃s∈rn,s.args=[v]):=by
 refine ZG 51 Tryz.func195 (ZF (ar (iL (Z6 []) 0 1 fun v1=>Z0 (ar (iL (Z6 []) 0 1 fun v2=>Z0 (Y5 1 (ic [] (Z67 rn (hrn:=ob)) ?_)))))))
 rintro _ _ ⟨vs1,rfl,rfl,ZW⟩
 have hvo:=ZW
 have hsl:=RX rn hvo.1
 refine Z0 (Yb (ab 0 (Y4 (fun fz gz m F h=>∃(k:Nat) (D:LI) (u:Value) (R:LI) (w:Value),(k<=vs1.length)/\(D.length+R.length<=Vz rn (vs1.take k))/\(∀v∈D,v∈vs1)/\(∀v∈R,v∈vs1)/\F=sF [0,5] fz [(3,ZT D u),(4,ZT R w),(6,.i k)]/\h=[.tail u 1,.tail w 1]/\m=vs1.length-k) _ _ _ ⟨0,[],v1,[],v2,ob,(by simp [Vz]),(fun v hv=>by cases hv),(fun v hv=>by cases hv),rfl,rfl,rfl⟩ (wk [1,0] (fw (Yd fl))) ?_)))
 rintro m F h ⟨k,D,u,R,w,Yg,Zi,Zw,Yq,rfl,rfl,rfl⟩
 refine YL 2 (iw (Y6 vs1) (Y0 ((k:Int)<(vs1.length:Int)) (fun Za=>?_) (fun Za=>?_)))
 ·refine ak (aq (ab 1 (Y5 3 ?_)))
  obtain ⟨x1,Z3⟩:=Zt vs1 k om
  have hst:=Ze9 (rn:=rn) Z3
  have hsk:=LL rn vs1 (k+1)
  have hxm:=Y2 Z3
  refine Zm (Zh none (k:Int) 1 (ZY Z3)) (Z2 1 (ic [] (Z5k rn x1 (hrn:=ob)) ?_))
  rintro _ _ ⟨z1,rfl,rfl,Yh⟩
  have hnt:=Yh
  refine Z0 (aq (ab 2 (Y4 (fun fz gz m F h=>∃(z:Int) (D2:LI) (u2:Value) (w2:Value),((D2.length:Int)+(R.length:Int)+z<=((Vz rn (vs1.take k):Nat):Int)+((VM rn x1:Nat):Int))/\((D2.length:Int)+(R.length:Int)-z<=((Vz rn (vs1.take k):Nat):Int)+((VM rn x1:Nat):Int))/\(∀v∈D2,v∈vs1)/\F=sF [0,5,6] fz [(3,ZT D2 u2),(4,ZT R w2),(7,.i z)]/\h=[.tail u2 1,.tail w2 1]/\m=z.toNat) _ _ _ ⟨z1,D,u,w,om,om,Zw,rfl,rfl,rfl⟩ (wk [0,0] fl) ?_)))
  rintro m F h ⟨z,D2,u2,w2,Uo,XY,XS,rfl,rfl,rfl⟩
  refine X0 (Y0 (z>0) (fun Zg=>?_) (fun Zg=>?_))
  ·exact ak (aq (ab 3 (az (Z2 3 (Zm (Zh none (k:Int) 1 (ZY Z3)) (Z2 1 (iL (Z6 [x1]) 1 1 fun v3=>ZP 0 [(33,Z4 [x1])] (ip 1 (Z6 (D2++[x1])) (Z6 D2) (Z6 [x1]) u2 none 1 (YA _) (YA _) (W6 _) (by simp<;>omega) (by simp [W5,Z6]) fun v4=>Z0 (az (Z2 1 (ia ((z-1)) ((z)-(1)) (Z0 (ZL ⟨(z-1),(D2++[x1]),v4,w2,(by simp only [Yw,YR,Xu];omega),(by simp only [Yw,YR,Xu];omega),(Xz XS hxm),rfl,rfl,rfl⟩ (wk [0,1] fl))))))))))))))
  refine ax 2 (ab 4 (Y4 (fun fz gz m F h=>∃(y:Int) (R2:LI) (u3:Value) (w3:Value),((D2.length:Int)+(R2.length:Int)+y<=((Vz rn (vs1.take k):Nat):Int)+((VM rn x1:Nat):Int))/\((D2.length:Int)+(R2.length:Int)-y<=((Vz rn (vs1.take k):Nat):Int)+((VM rn x1:Nat):Int))/\(∀v∈R2,v∈vs1)/\F=sF [0,5,6] fz [(3,ZT D2 u3),(4,ZT R2 w3),(7,.i y)]/\h=[.tail u3 1,.tail w3 1]/\m=(-y).toNat) _ _ _ ⟨z,R,u2,w2,ob,ob,Yq,rfl,rfl,rfl⟩ (wk [0,0] fl) ?_))
  rintro m F h ⟨y,R2,u3,w3,MH,EO,MI,rfl,rfl,rfl⟩
  refine X0 (Y0 (y<0) (fun ZC=>?_) (fun ZC=>?_))
  ·exact ak (aq (ab 5 (az (Z2 3 (Zm (Zh none (k:Int) 1 (ZY Z3)) (Z2 1 (iL (Z6 [x1]) 1 1 fun v5=>ZP 0 [(44,Z4 [x1])] (ip 2 (Z6 (R2++[x1])) (Z6 R2) (Z6 [x1]) w3 none 1 (YA _) (YA _) (W6 _) (by simp<;>omega) (by simp [W5,Z6]) fun v6=>Z0 (az (Z2 1 (ia ((y+1)) ((y)+(1)) (Z0 (ZL ⟨(y+1),(R2++[x1]),u3,v6,(by simp only [Yw,YR,Xu];omega),(by simp only [Yw,YR,Xu];omega),(Xz MI hxm),rfl,rfl,rfl⟩ (wk [2,0] fl))))))))))))))
  exact ax 4 (az (Z2 1 (ZK k (Z0 (ZL ⟨k+1,D2,u3,R2,w3,ob,(by rw [hst];omega),XS,MI,rfl,rfl,rfl⟩ (wk [0,0] (fw (ZO k fl))))))))
 have Xm:=LL rn vs1 k
 refine ax 0 (ar (ZP 1 [(46,Z4 D)] (ic [] (Kk 14 D) ?_)))
 rintro _ _ ⟨v7,rfl,rfl⟩
 refine ZP 1 [(48,Z4 R)] (ic [] (Kk 15 R) ?_)
 rintro _ _ ⟨v8,rfl,rfl⟩
 exact ZP 0 [(49,Wz (R.map (Zx 15)))] (ip 1 (Zy ((D.map (Zx 14))++(R.map (Zx 15)))) (Zy (D.map (Zx 14))) (Zy (R.map (Zx 15))) v7 none 5 (Xj _) (Xj _) (VW _) (by simp<;>omega) (by simp [WW,Zy]) fun v9=>Zq (r2 [0] [YY ((D.map (Zx 14))++(R.map (Zx 15))) v9] ⟨_,_,v9,rfl,rfl,⟨by have:=LL rn vs1 k;omega,fun v hv=>hvo.2.2 v (Zw v hv),fun v hv=>hvo.2.2 v (Yq v hv)⟩⟩ (Zd.slh _ (Ym Zy ob))))
theorem Z4k (ds:List Zf) (nf:Nat) (b:Z9) (mm:Nat) (hf:fB ds nf mm b) (hop:Vm VC b) (hz:b.sz<=100000000) (ih:∀(b2:Z9) (m2:Nat),(fB ds nf m2 b2)->(Vm VC b2)->(b2.sz<=100000000)->(b2.sz<b.sz)->Zl 150 [ZZ b2] [] (fun r h=>∃(y:Z9),r=ZZ y/\h=[]/\KB ds nf m2 y b2.sz)):Zl 150 [ZZ b] [] (fun r h=>∃(y:Z9),r=ZZ y/\h=[]/\KB ds nf mm y b.sz):=by
 have hbe:=b.sz_eq
 have ZH:=VS b
 obtain ⟨hfs,hr1,hr2⟩:=(DD b).1 hf
 have hos:=C0.1 ((G4 b).1 hop)
 refine ZG 72 Tryz.func150 (ar (iA (Xk b) fun b1=>iA [nl,.i 0] fun b2=>ie (ar (iL (Zy []) 0 5 fun v1=>Z0 (ar (iL (Zy []) 0 5 fun v2=>?_))))))
 refine Z0 (Yb (ab 0 (Y4 (fun fz gz m F h=>∃(k:Nat) (xs:List Z5) (v:Value) (rn:List Z5) (u:Value) (z0:Nat),(k<=b.steps.length)/\(CL ds nf mm xs (YZ (b.steps.take k)) z0)/\(z0+2*rn.length<=Y8 (b.steps.take k))/\(M4 (mm+(YZ (b.steps.take k))) rn)/\F=sF [1,2] fz [(3,YY xs v),(4,YY rn u),(5,.i k)]/\h=[Zc gz 2,Zc gz 3,.tail u 5,.tail v 5]/\m=b.steps.length-k) _ _ _ ⟨0,[],v1,[],v2,0,ob,CL.nil,(by simp [Y8]),(fun s hs=>by cases hs),rfl,rfl,rfl⟩ (wk [2,2,0,0] (fw (Yd fl))) ?_)))
 rintro m F h ⟨k,xs,v,rn,u,z0,Yg,Zi,Zw,Yq,rfl,rfl,rfl⟩
 refine Yi 3 [1] (iw (VF b.steps) (Y0 ((k:Int)<(b.steps.length:Int)) (fun Za=>?_) (fun Za=>?_)))
 ·refine ak (aq (ab 1 (Zv 3 [1] ?_)))
  obtain ⟨x1,Z3⟩:=Zt b.steps k om
  have Xm:=C8 Z3
  have hfS:=(Fd x1).1 (DF hfs Z3)
  have hoS:=(E4 x1).1 (hos x1 (Y2 Z3))
  have htk:=LE Z3
  have htl:=Qq b.steps (k+1)
  have hse:=(x1).sz_eq
  have hdt:=N0 Z3
  have hxl:=Zi.len
  have hkl2:=EL (x1).kids
  refine Zm (Zh none (k:Int) 5 (WD Z3)) (Z2 1 (iA [.i 0,.i 0,.i 0,nl,nl] fun b3=>ZI 0 b3 (Xv x1) (ie (Zv 1 [0] (Zz [] (Ru x1) (ie (ac ((x1.op==14)||(x1.op==15)) (p:=(x1.op=14)∨(x1.op=15)) (Yj Zp Zp) (fun Zg=>?_) (fun Zg=>?_))))))))
  ·refine az (ZM 2 [0] (UG [YG x1] (Zy [x1]) (VG [x1]).symm 1 5 fun v3=>ZP 0 [(27,Wz [x1])] (ip 4 (Zy (rn++[x1])) (Zy rn) (Zy [x1]) u none 5 (Xj _) (Xj _) (VW _) (by simp<;>omega) (by simp [WW,Zy]) fun v4=>Z0 (az (Z2 1 (ZK k (Z0 ?_)))))))
   obtain ⟨⟨pa,hpa,hpr⟩,Yh,hpc⟩:=hfS.pair (by assumption)
   rw [Ze hpc,Cd] at hdt
   exact ZL ⟨k+1,xs,v,(rn++[x1]),v4,_,ob,(by rw [hdt];exact Zi),(by rw [htk];simp only [Yw,YR,Xu];omega),(by rw [hdt];exact Xz Yq ⟨pa,hpa,hpr⟩),rfl,rfl,rfl⟩ (wk [3,3,0,2] (fw (ZO k fl)))
  refine ar (ZP 2 [(30,Wz rn)] (ic [] (NK rn (hrn:=(fun s hs=>(Yq s hs).elim fun a h=>⟨a,h.1⟩))) ?_))
  rintro _ _ ⟨D1,R1,v5,rfl,rfl,ZW⟩
  have hsr:=ZW
  have hq1:=Zi.run Yq hsr.2.1 hsr.2.2
  have hl1:=Zi.len
  have htl1:=Qq b.steps k
  refine ZP 0 [(31,Wz (D1.map (Zx 14)++R1.map (Zx 15)))] (ip 5 (Zy (xs++(D1.map (Zx 14)++R1.map (Zx 15)))) (Zy xs) (Zy (D1.map (Zx 14)++R1.map (Zx 15))) v none 5 (Xj _) (Xj _) (VW _) (by simp<;>omega) (by simp [WW,Zy]) fun v6=>Z0 (ar (iL (Zy []) 0 5 fun v7=>Z0 (ar (iL (YK []) 0 2 fun v8=>?_)))))
  refine Z0 (Yb (ab 2 (Y4 (fun fz gz m F h=>∃(j:Nat) (ks:List Z9) (w:Value) (v3:Value) (u4:Value),(j<=x1.kids.length)/\(ks.length=j)/\(KK ds nf (Tj ds x1.op x1.num (mm+(YZ (b.steps.take k)))) ks (X9 (x1.kids.take j)))/\F=sF [1,2,5,6] fz [(3,YY (xs++(D1.map (Zx 14)++R1.map (Zx 15))) v3),(4,YY [] u4),(7,Ti ks w),(8,.i j)]/\h=[Zc gz 4,Zc gz 5,Zc gz 6,.tail u4 5,.tail v3 5,.tail w 2]/\m=x1.kids.length-j) _ _ _ ⟨0,[],v8,v6,v7,ob,ob,(KK.nil.le (K3 _)),rfl,rfl,rfl⟩ (wk [4,4,4,1,1,0] (fw (fr (Yd fl)))) ?_)))
  rintro m F h ⟨j,ks,w,v3,u4,Uo,XY,XS,rfl,rfl,rfl⟩
  refine Yi 3 [0] (iw (Ue x1.kids) (Y0 ((j:Int)<(x1.kids.length:Int)) (fun ZC=>?_) (fun ZC=>?_)))
  ·refine ak (aq (ab 3 (az (ZM 4 [0] ?_))))
   obtain ⟨x2,Zr⟩:=Zt x1.kids j om
   have hkz:=Tt Zr
   have hfk:=DE hfS.kids Zr
   rw [Vc] at hfk
   have hok:=CV.1 hoS.2 x2 (Y2 Zr)
   have hbt:=EM Zr
   refine Zm (Zh none (j:Int) 2 (UR Zr)) (Z2 1 (ic [] (ih x2 (Tj ds x1.op x1.num (mm+(YZ (b.steps.take k))) j) hfk hok ob ob) ?_))
   rintro _ _ ⟨y1,rfl,rfl,Yh⟩
   have hkb:=Yh
   exact UG [ZZ y1] (YK [y1]) (Tb [y1]).symm 1 2 fun v9=>ZP 0 [(49,XZ [y1])] (ip 6 (YK (ks++[y1])) (YK ks) (YK [y1]) w none 2 (TK _) (TK _) (F3 _) (by simp<;>omega) (by simp [A1,YK]) fun v10=>Z0 (az (Z2 1 (ZK j (Z0 (ZL ⟨j+1,(ks++[y1]),v10,v3,u4,ob,ob,((XS.snoc XY hkb).le om),rfl,rfl,rfl⟩ (wk [2,2,2,2,2,0] (fw (fr (ZO j fl))))))))))
  refine ax 2 (aE 15 (ZJ 5 15 [0,1,2,3,4,5,6,7,8,10] [0,0,0,0] (Z7 9 (dc 9 [] [0,0,0] [b3,b3,b3] (Ub x1.args) ?_))))
  rintro _ _ ⟨v11,rfl,rfl⟩
  refine Yr 3 4 [11] [(62,.agg [.i x1.op,.i x1.num,.i x1.into,Z4 x1.args,XZ ks])] (Z7 12 (WC 12 [] [] [YG (Z5.mk x1.op x1.num x1.into x1.args ks)] (Zy [Z5.mk x1.op x1.num x1.into x1.args ks]) (VG [Z5.mk x1.op x1.num x1.into x1.args ks]).symm 1 5 fun v12=>Yr 2 2 [] [(63,Wz [Z5.mk x1.op x1.num x1.into x1.args ks])] (Z7 13 (dp 13 6 [] [] (Zy ((xs++(D1.map (Zx 14)++R1.map (Zx 15)))++[Z5.mk x1.op x1.num x1.into x1.args ks])) (Zy (xs++(D1.map (Zx 14)++R1.map (Zx 15)))) (Zy [Z5.mk x1.op x1.num x1.into x1.args ks]) v3 none 5 (Xj _) (Xj _) (VW _) (by simp<;>omega) (by simp [WW,Zy]) fun v13=>Zj 0 1 [14] (de (az (Z2 1 (ZK k (Z0 ?_)))))))))
  obtain ⟨hn1,hn2⟩:=hfS.not_pair (by assumption) hoS.1
  rw [Z8 (by rw [hn2];simp)] at hdt
  have hbj:=Hn (xs:=x1.kids) (k:=j) om
  have hkt:=KT.eq hfS hn1 om XS
  have hq2:=hq1.kt hkt
  exact ZL ⟨k+1,((xs++(D1.map (Zx 14)++R1.map (Zx 15)))++[Z5.mk x1.op x1.num x1.into x1.args ks]),v13,[],u4,_,ob,(by rw [hdt];exact hq2),(by rw [htk];simp only [Xu];omega),(fun s hs=>by cases hs),rfl,rfl,rfl⟩ (wk [4,4,4,0] (fw (ZO k fl)))
 have htl2:=Qq b.steps k
 have hxl2:=Zi.len
 refine ax 0 (aD 8 (Co 4 8 [0,1,4,5] [(66,Wz rn)] [1] (Z7 2 (dc 2 [] [1] [b1] (NK rn (hrn:=(fun s hs=>(Yq s hs).elim fun a h=>⟨a,h.1⟩))) ?_))))
 rintro _ _ ⟨D2,R2,v14,rfl,rfl,YE⟩
 have hsr:=YE
 have hq1:=Zi.run Yq hsr.2.1 hsr.2.2
 have hl1:=Zi.len
 have htl1:=Qq b.steps k
 exact Yr 3 3 [] [(67,Wz (D2.map (Zx 14)++R2.map (Zx 15)))] (Z7 3 (dp 3 4 [1] [b1] (Zy (xs++(D2.map (Zx 14)++R2.map (Zx 15)))) (Zy xs) (Zy (D2.map (Zx 14)++R2.map (Zx 15))) v none 5 (Xj _) (Xj _) (VW _) (by simp<;>omega) (by simp [WW,Zy]) fun v15=>Zj 1 2 [6] (Z7 7 (YJ 7 2 [] [] b2 [YY (xs++(D2.map (Zx 14)++R2.map (Zx 15))) v15,.i b.result] (de (ZD (r3 [] [.agg [YY (xs++(D2.map (Zx 14)++R2.map (Zx 15))) v15,.i b.result]] [0] [(b2,b2)] ⟨(Z9.mk (xs++(D2.map (Zx 14)++R2.map (Zx 15))) b.result),rfl,rfl,(by have e:b.steps.take k=b.steps:=Vq om;rw [e] at Zw hq1;exact (hq1.block ⟨hr1,hr2⟩).le om)⟩ (Zd.agg (.cons (Zd.forget _ _) (.cons (lr _) .nil))))))))))
theorem Z4j (ds:List Zf) (nf:Nat) (b:Z9) (mm:Nat) (hf:fB ds nf mm b:=by exact ob) (hop:Vm VC b:=by exact ob) (hz:b.sz<=100000000:=by exact ob):Zl 150 [ZZ b] [] (fun r h=>∃(y:Z9),r=ZZ y/\h=[]/\KB ds nf mm y b.sz):=by
 have key:∀k:Nat,∀(b2:Z9) (m2:Nat),(fB ds nf m2 b2)->(Vm VC b2)->(b2.sz<=100000000)->(b2.sz<k)->Zl 150 [ZZ b2] [] (fun r h=>∃(y:Z9),r=ZZ y/\h=[]/\KB ds nf m2 y b2.sz):=by
  intro k
  induction k with
  | zero=>intro b2 m2 h1 h2 h3 h9;omega
  | succ k ih=>intro b2 m2 h1 h2 h3 h9;exact Z4k ds nf b2 m2 h1 h2 h3 fun b3 m3 q1 q2 q3 q9=>ih b3 m3 q1 q2 q3 om
 exact key (b.sz+1) b mm hf hop hz om
theorem Z4l (n:Zk) (qz:Nat) (hn:FO n qz VC:=by exact ob) (hqz:qz<=10000000:=by exact ob):Zl 117 [Yn n] [] (fun r h=>∃(n2:Zk),r=Yn n2/\h=[]/\FO n2 qz VC):=by
 have hnl:=hn.fn.len
 have Xt:=hn.fn.decls.ok
 have hok:=hn.fn.ok
 refine ZG 36 Tryz.func117 (ar (iA (YT n) fun b1=>iA [nl,nl] fun b2=>ie (Zv 2 [1] (Zz [] (C7 n.decls) (iL (YP []) 0 5 fun v1=>Z2 1 (iA [nl,nl] fun b3=>?_))))))
 refine ZI 0 b3 [ZU n.decls,WF [] v1] (ie (Yb (ab 0 (Y4 (fun fz gz m F h=>∃(k:Nat) (rs:List Yf) (u:Value),(k<=n.routines.length)/\(rs.length=k)/\(∀r∈rs,RF n.decls n.routines.length qz VC r)/\F=sF [1,2,3] fz [(4,.i k)]/\h=[.obj b3 [ZU n.decls,WF rs u],Zc gz 2,Zc gz 3,.tail u 5]/\m=n.routines.length-k) _ _ _ ⟨0,[],v1,ob,ob,(fun r hr=>by cases hr),rfl,rfl,rfl⟩ (wk [0,1,1,0] (Yd fl)) ?_))))
 rintro m F h ⟨k,rs,u,Yg,Zi,Zw,rfl,rfl,rfl⟩
 refine Yi 3 [2] (iw (Uq n.routines) (Y0 ((k:Int)<(n.routines.length:Int)) (fun Za=>?_) (fun Za=>?_)))
 ·refine ak (aq (ab 1 (aE 19 (ZJ 14 19 [0,1,2,3,4] [0,2] ?_))))
  obtain ⟨x1,Z3⟩:=Zt n.routines k om
  have hrf:=hn.rf (Y2 Z3)
  have hrp:(x1).params.length<=3:=(TA.bd (f:=⟨(x1).params,(x1).result,default⟩) hrf.sig).1
  have hrl:=hrf.lent.1
  have hrz:=hrf.body.2
  refine dx 5 (Zh none (k:Int) 5 (Wv Z3)) (ZJ 9 13 [6,7,8,9] [2] (dx 10 (Zh none (k:Int) 5 (Wv Z3)) (Zj 6 8 [11,12] (Z7 13 (dc 13 [] [2,0] [b1,b3] (Z4j n.decls n.routines.length x1.body _ (hf:=hrf.body.1) (hop:=hrf.op)) ?_)))))
  rintro _ _ ⟨y1,rfl,rfl,ZW⟩
  have hkb0:=ZW
  have hkb:=hkb0.le (z2:=qz) hrz
  exact Z7 14 (Yp 14 [] [0] [b3] (D5 x1 y1 (hp:=om) (hl:=om)) (Z7 15 (dL 15 [0] [b3] (YP [Yf.mk x1.params x1.lent x1.result y1]) 1 5 fun v2=>Yr 3 3 [] [(32,Kg [Yf.mk x1.params x1.lent x1.result y1])] (Z7 16 (dp 16 4 [] [] (YP (rs++[Yf.mk x1.params x1.lent x1.result y1])) (YP rs) (YP [Yf.mk x1.params x1.lent x1.result y1]) u none 5 (UT _) (UT _) (AN _) (by simp<;>omega) (by simp [BK,YP]) fun v3=>Zj 1 2 [17] (Z7 18 (YJ 18 2 [] [] b3 [ZU n.decls,WF (rs++[Yf.mk x1.params x1.lent x1.result y1]) v3] (de (az (Z2 1 (ZK k (Z0 (ZL ⟨k+1,(rs++[Yf.mk x1.params x1.lent x1.result y1]),v3,ob,ob,(Xz Zw (hrf.with hkb.fb hkb.sz hkb.op)),rfl,rfl,rfl⟩ (wk [0,2,2,0] (ZO k fl)))))))))))))))
 exact ax 0 (Zv 1 [0] (ZI 1 b2 [ZU n.decls,WF rs u] (ie (ZD (r3 [] [.agg [ZU n.decls,WF rs u]] [0] [(b2,b2)] ⟨(Zk.mk n.decls rs),rfl,rfl,(FO.fin hn.fn om Zw).1⟩ (Zd.agg (.cons (lr _) (.cons (Zd.forget _ _) .nil))))))))
theorem OL (b:Nat) (ga:Hd) (gb:Hd) (gc:Hd) (gd:Hd) (ge:Hd) (gf:Hd) (n:Zk) (s:Z5) (L:Zs) (ln:LI) (q:Int) (i:Nat) (kb0:Z9) (m:LI) (hn:X4 n:=by exact ob) (hk:X7 n.decls L q:=by exact ob) (hf:JT n L.vars s:=by exact ob) (hop:s.op=7∨s.op=8:=by exact ob) (hkb:s.kids[i]? = some kb0:=by exact ob) (harm:(Xn n.decls s.op s.num)[i]? = some m:=by exact ob) (hbt:0<=Xq n (L.vars++m) kb0:=by exact ob) (hb:L.vars.length+4*s.sz<=1000000000:=by exact ob) (hq:0<=q/\q+4*s.sz<=999999990:=by exact ob) (hln:ln.length<=4294967296:=by exact ob) (ih:∀(b2:Z9) (c:Nat) (ra:Hd) (rb:Hd) (rc:Hd) (rd:Hd) (re:Hd) (rf:Hd) (M:Zs) (mm:Nat) (p:Int),(b2.sz<s.sz)->(X7 n.decls M p)->(0<=Xq n M.vars b2)->(mm<=M.vars.length)->(M.vars.length+4*b2.sz<=1000000000)->(0<=p/\p+4*b2.sz<=999999990)->Zl 129 [.p c 0,Yn n,ZZ b2,.i mm] [.obj c [.h ra,.h rb,.h rc,.h rd,.h re,.h rf,Z4 ln],rV ra M.vars,rV rb M.own,rV rc M.par,rV rd M.con,rV re M.fst,rV rf M.tok] (fun r h=>(∃(wa:Hd) (wb:Hd) (wc:Hd) (wd:Hd) (we:Hd) (wf:Hd) (M':Zs),r=.b true/\h=[.obj c [.h wa,.h wb,.h wc,.h wd,.h we,.h wf,Z4 ln],rV wa M'.vars,rV wb M'.own,rV wc M'.par,rV wd M'.con,rV we M'.fst,rV wf M'.tok]/\VD n ln M mm b2=some M')∨(r=.b false/\h=[]/\VD n ln M mm b2=none))):Zl 218 [.p b 0,Yn n,YG s,.i i] [.obj b [.h ga,.h gb,.h gc,.h gd,.h ge,.h gf,Z4 ln],rV ga L.vars,rV gb L.own,rV gc L.par,rV gd L.con,rV ge L.fst,rV gf L.tok] (fun r h=>(∃(c:Nat) (wa:Hd) (wb:Hd) (wc:Hd) (wd:Hd) (we:Hd) (wf:Hd) (L':Zs),r=.tup [.p c 0,.b true]/\h=[.obj c [.h wa,.h wb,.h wc,.h wd,.h we,.h wf,Z4 ln],rV wa L'.vars,rV wb L'.own,rV wc L'.par,rV wd L'.con,rV we L'.fst,rV wf L'.tok,.obj b [.h ga,.h gb,.h gc,.h gd,.h ge,.h gf,Z4 ln],rV ga L.vars,rV gb L.own,rV gc L.par,rV gd L.con,rV ge L.fst,rV gf L.tok]/\VD n ln (Vv n.decls L s.op s.num s.args i) L.vars.length kb0=some L')∨(r=.tup [.any,.b false]/\h=[.obj b [.h ga,.h gb,.h gc,.h gd,.h ge,.h gf,Z4 ln],rV ga L.vars,rV gb L.own,rV gc L.par,rV gd L.con,rV ge L.fst,rV gf L.tok]/\VD n ln (Vv n.decls L s.op s.num s.args i) L.vars.length kb0=none)):=by
 obtain ⟨e1,e2,e3,e4,e5⟩:=hk.len
 have Xt:=hn.decls
 have hkz:=Tv s
 have haz:=Qf s
 have hK:=CP hk hq.1 hf hop harm
 have hm3:=EF Xt harm
 have hkl:=(Xp.1 hkb).1
 have hks:=Tt hkb
 refine ZG 83 Tryz.func218 (ar (iA (YT n) fun b1=>iA (Xv s) fun b2=>Z0 (Zv 4 [2] (Zm (J0 3 ga L.vars) (Z0 (Y5 1 (ic [2,2,2,2,2,2,2] (Z8t b ga gb gc gd ge gf L ln (hlk:=hk.len)) ?_)))))))
 rintro _ _ ⟨c1,wa1,wb1,wc1,wd1,we1,wf1,rfl,rfl⟩
 refine Z0 (X0 (Vo [14] (ac (s.op==8) Zp (fun Za=>?_) (fun Za=>?_))))
 ·obtain ⟨x,hxa⟩:=hf.one om
  have ha:s.args[0]? = some x:=by rw [hxa];rfl
  have hx:=hf.args x (by rw [hxa];simp)
  obtain ⟨cc,hcc,hmc⟩:=Hh Za harm
  have hal:=(Xp.1 ha).1
  have hcl:=(Xp.1 hcc).1
  have hm4:=hm3
  rw [hmc] at hm4
  refine Zv 4 [15,14] (ic [] (JI n.decls s.num) ?_)
  rintro _ _ ⟨v1,rfl,rfl⟩
  refine Z2 1 (Zm (Zh (some v1) (i:Int) 1 (ZY hcc)) (Z0 (Zv 3 [16] (Zz [] (Kj n.decls cc) (Z0 (aD 11 (ZJ 5 11 [0,1,2,3,4,5] [1,15] (dx 6 (Zh none 0 1 (ZY ha)) (Zj 2 4 [7,8] (dx 9 (Wo 5 wd1 L.con x x.toNat (hq:=rfl)) (Z7 10 (Jy 10 5 [] [] wd1 L.con x.toNat cc (de (aD 11 (ZJ 5 11 [0,1,2,3,4,5] [2,15] (dx 6 (Zh none 0 1 (ZY ha)) (Zj 2 4 [7,8] (dx 9 (Wo 6 we1 L.fst x x.toNat (hq:=rfl)) (Z7 10 (Jy 10 6 [] [] we1 L.fst x.toNat (L.vars.length:Int) (de (ZF (ab 0 (Y4 (fun fz gz m F h=>∃(k:Nat) (L3:Zs) (ka:Hd) (kb:Hd) (kc:Hd) (kd:Hd) (ke:Hd) (kf:Hd),(k<=(ZV n.decls cc).length)/\(Wt L3)/\(L3.vars.length=L.vars.length+k)/\(KD L3 x ((ZV n.decls cc).drop k)=Js n.decls L x cc)/\F=sF [3,5,6,10,11,13] fz [(14,.i k)]/\h=[.obj c1 [.h ka,.h kb,.h kc,.h kd,.h ke,.h kf,Z4 ln],Zc gz 8,Zc gz 9,Zc gz 10,Zc gz 11,Zc gz 12,Zc gz 13,Zc gz 14,Zc gz 15,Zc gz 16,rV ka L3.vars,rV kb L3.own,rV kc L3.par,rV kd L3.con,rV ke L3.fst,rV kf L3.tok]/\m=(ZV n.decls cc).length-k) _ _ _ ⟨0,(Zs.mk L.vars L.own L.par (L.con.set x.toNat cc) (L.fst.set x.toNat (L.vars.length:Int)) L.tok),wa1,wb1,wc1,wd1,we1,wf1,ob,(Wt.arm hk.len),ob,(by rw [Js];rfl),rfl,rfl,rfl⟩ (wk [3,7,7,7,7,7,7,7,7,7,3,3,3,1,0,1] (Yd fl) (e:=(rc (rc (rc (rc (rc (rc (rc (rc (rc (rc (rv (xs:=L.vars) ob (rv (xs:=L.own) ob (rv (xs:=L.par) ob (rv (xs:=(L.con.set x.toNat cc)) ob (rv (xs:=(L.fst.set x.toNat (L.vars.length:Int))) ob (rv (xs:=L.tok) ob rz)))))))))))))))))) ?_))))))))))))))))))))))))
  rintro m F h ⟨k,L3,ka,kb,kc,kd,ke,kf,Yg,Zi,Zw,Yq,rfl,rfl,rfl⟩
  refine YL 2 (io (.i (((ZV n.decls cc).length:Nat):Int)) (.i (((Z6 (ZV n.decls cc)).length:Nat):Int)) (li (by rw [Y6])) (Y0 ((k:Int)<(((ZV n.decls cc).length:Nat):Int)) (fun Zg=>?_) (fun Zg=>?_)))
  ·refine ak (aq (ab 1 (aE 10 (Zj 7 10 [0,1,2] ?_))))
   obtain ⟨x1,Z3⟩:=Zt (ZV n.decls cc) k om
   refine dx 3 (Zh none (k:Int) 1 (ZY Z3)) (ZJ 3 6 [4,5,6] [8] (dx 7 (Zh none 0 1 (ZY ha)) (Zj 1 2 [8] (Z7 9 (dc 9 [0,9,9,9,9,9,9] [] [] (Kf c1 ka kb kc kd ke kf L3 ln x1 0 x (hlk:=Zi)) ?_)))))
   rintro _ _ ⟨wa2,wb2,wc2,wd2,we2,wf2,rfl⟩
   exact de (az (Z2 1 (ZK k (Z0 (ZL ⟨k+1,(L3.grow x1 0 x),wa2,wb2,wc2,wd2,we2,wf2,ob,(Wt.grow Zi),(by simp [Zs.grow];omega),(by rw [Y7 Z3,KD] at Yq;exact Yq),rfl,rfl,rfl⟩ (wk [0,6,6,6,6,6,6,6,6,6,0,0,0,0,0,0] (ZO k fl)))))))
  have hE:Vv n.decls L s.op s.num s.args i=L3:=by rw [Z8d Za ha hcc,<-Yq,Xi om];rfl
  refine ax 0 (aD 12 (ZJ 6 12 [0,1,2,3,4,5] [9,8] (dx 6 (Zh none (i:Int) 2 (UR hkb)) (Zj 3 5 [7,8] (Z7 9 (dc 9 [0,9,9,9,9,9,9] [] [] (ih kb0 c1 ka kb kc kd ke kf L3 L.vars.length q ob (by rw [<-hE];exact hK.1) (by rw [<-hE,hK.2];exact hbt) (by rw [<-hE,hK.2];simp) (by rw [<-hE,hK.2,Yw];omega) ob) ?_))))))
  rintro _ _ (⟨wa3,wb3,wc3,wd3,we3,wf3,M'1,rfl,rfl,ZW⟩|⟨rfl,rfl,Yh⟩)
  ·exact Zj 0 2 [10,11] (de (ZD (r2 [0,0,0,0,0,0,0,0,0,0,0,0,0,0] [.p c1 0,.b true] (.inl ⟨c1,wa3,wb3,wc3,wd3,we3,wf3,M'1,rfl,rfl,(by rw [hE];exact ZW)⟩) (lr _))))
  exact Zj 0 2 [10,11] (de (ZD (r2 [0,0,0,0,0,0,0] [.p c1 0,.b false] (.inr ⟨rfl,rfl,(by rw [hE];exact Yh)⟩) (Zd.tup (.cons (Zd.any _) (.cons (lr _) .nil))))))
 have hE:=Z8e (ds:=n.decls) (L:=L) (num:=s.num) (args:=s.args) (i:=i) Za
 refine ak (aD 12 (ZJ 6 12 [0,1,2,3,4,5] [15,14] (dx 6 (Zh none (i:Int) 2 (UR hkb)) (Zj 3 5 [7,8] (Z7 9 (dc 9 [0,0,0,0,0,0,0] [] [] (ih kb0 c1 wa1 wb1 wc1 wd1 we1 wf1 L L.vars.length q ob (by rw [<-hE];exact hK.1) (by rw [<-hE,hK.2];exact hbt) (by rw [<-hE,hK.2];simp) (by rw [<-hE,hK.2,Yw];omega) ob) ?_))))))
 rintro _ _ (⟨wa4,wb4,wc4,wd4,we4,wf4,M'2,rfl,rfl,YE⟩|⟨rfl,rfl,YN⟩)
 ·exact Zj 0 2 [10,11] (de (ZD (r2 [0,0,0,0,0,0,0,0,0,0,0,0,0,0] [.p c1 0,.b true] (.inl ⟨c1,wa4,wb4,wc4,wd4,we4,wf4,M'2,rfl,rfl,(by rw [hE];exact YE)⟩) (lr _))))
 exact Zj 0 2 [10,11] (de (ZD (r2 [0,0,0,0,0,0,0] [.p c1 0,.b false] (.inr ⟨rfl,rfl,(by rw [hE];exact YN)⟩) (Zd.tup (.cons (Zd.any _) (.cons (lr _) .nil))))))
theorem Z8s (b:Nat) (ga:Hd) (gb:Hd) (gc:Hd) (gd:Hd) (ge:Hd) (gf:Hd) (n:Zk) (s:Z5) (L:Zs) (ln:LI) (q:Int) (hn:X4 n:=by exact ob) (hk:X7 n.decls L q:=by exact ob) (hf:JT n L.vars s:=by exact ob) (hop:s.op=7∨s.op=8:=by exact ob) (hb:L.vars.length+4*s.sz<=1000000000:=by exact ob) (hq:0<=q/\q+4*s.sz<=999999990:=by exact ob) (hln:ln.length<=4294967296:=by exact ob) (ih:∀(b2:Z9) (c:Nat) (ra:Hd) (rb:Hd) (rc:Hd) (rd:Hd) (re:Hd) (rf:Hd) (M:Zs) (mm:Nat) (p:Int),(b2.sz<s.sz)->(X7 n.decls M p)->(0<=Xq n M.vars b2)->(mm<=M.vars.length)->(M.vars.length+4*b2.sz<=1000000000)->(0<=p/\p+4*b2.sz<=999999990)->Zl 129 [.p c 0,Yn n,ZZ b2,.i mm] [.obj c [.h ra,.h rb,.h rc,.h rd,.h re,.h rf,Z4 ln],rV ra M.vars,rV rb M.own,rV rc M.par,rV rd M.con,rV re M.fst,rV rf M.tok] (fun r h=>(∃(wa:Hd) (wb:Hd) (wc:Hd) (wd:Hd) (we:Hd) (wf:Hd) (M':Zs),r=.b true/\h=[.obj c [.h wa,.h wb,.h wc,.h wd,.h we,.h wf,Z4 ln],rV wa M'.vars,rV wb M'.own,rV wc M'.par,rV wd M'.con,rV we M'.fst,rV wf M'.tok]/\VD n ln M mm b2=some M')∨(r=.b false/\h=[]/\VD n ln M mm b2=none))):Zl 167 [.p b 0,Yn n,YG s] [.obj b [.h ga,.h gb,.h gc,.h gd,.h ge,.h gf,Z4 ln],rV ga L.vars,rV gb L.own,rV gc L.par,rV gd L.con,rV ge L.fst,rV gf L.tok] (fun r h=>(∃(wa:Hd) (wb:Hd) (wc:Hd) (wd:Hd) (we:Hd) (wf:Hd) (L':Zs),r=.b true/\h=[.obj b [.h wa,.h wb,.h wc,.h wd,.h we,.h wf,Z4 ln],rV wa L'.vars,rV wb L'.own,rV wc L'.par,rV wd L'.con,rV we L'.fst,rV wf L'.tok]/\J8 n ln L s=some L')∨(r=.b false/\h=[]/\J8 n ln L s=none)):=by
 obtain ⟨e1,e2,e3,e4,e5⟩:=hk.len
 have Xt:=hn.decls
 have hkz:=Tv s
 have haz:=Qf s
 obtain ⟨hk1,hk2,hk3⟩:=hf.kids hop
 obtain ⟨kd,hkd⟩:=Zt s.kids 0 om
 obtain ⟨m0,hm0⟩:=Zt (Xn n.decls s.op s.num) 0 om
 obtain ⟨x,hxa⟩:=hf.one om
 have ha:s.args[0]? = some x:=by rw [hxa];rfl
 have hx:=hf.args x (by rw [hxa];simp)
 have hgx:=Jf ha
 have hal:=(Xp.1 ha).1
 refine ZG 88 Tryz.func167 (ar (iA (YT n) fun b1=>iA (Xv s) fun b2=>Z0 (X0 (Xo [0,4,5] [(23,.b ((s.op==8)&&(!Wh L ln x)))] (fun gz=>[Zc gz 2,Zc gz 3,Zc gz 4,Zc gz 5,Zc gz 6,Zc gz 7,Zc gz 8,Zc gz 0,Zc gz 1]) ?_ ?_))))
 ·refine ZM 4 [0] (ib (b:=(s.op==8)) 15 (fun Zb=>?_) (fun Zb=>?_))
  ·exact ZM 3 [0] (Zm (Zh none 0 1 (ZY ha)) (Z2 1 (Zz [2,2,2,2,2,2,2] (FP b ga gb gc gd ge gf L ln x (hlk:=hk.len) (hd:=hk.down)) (Z0 (ZE 9 (Zu (!Wh L ln x) Zb fl))))))
  exact Z0 (wk [2,2,2,2,2,2,2,0,0] (Zu false Zb fl))
 refine ac ((s.op==8)&&(!Wh L ln x)) (p:=(s.op=8)/\(¬(Wh L ln x=true))) (YH Zp (Yo Iff.rfl)) (fun Za=>?_) (fun Za=>?_)
 ·exact ar (Zq (r1 [] (.inr ⟨rfl,rfl,(by rw [J8,Ze (by rw [hgx];exact Za)])⟩)))
 have hgo:=MK (n:=n) (ln:=ln) (L:=L) (s:=s) (by rw [hgx];exact Za) hkd
 refine ak (Zv 3 [8,7] (ic [0,0,0,0,0,0,0] (OL b ga gb gc gd ge gf n s L ln q 0 kd m0 (hkb:=hkd) (harm:=hm0) (hbt:=(hk3 0 kd m0 hkd hm0)) (ih:=ob)) ?_))
 rintro _ _ (⟨c1,wa1,wb1,wc1,wd1,we1,wf1,L'1,rfl,rfl,YE⟩|⟨rfl,rfl,YN⟩)
 ·have hone:=YE
  obtain ⟨l1,l2⟩:=OA hn hk hq.1 hf hop hkd hm0 (hk3 0 kd m0 hkd hm0) hone
  refine Z0 (Yb (We (ak (Yb (ab 0 (Y4 (fun fz gz m F h=>∃(k:Nat),(1<=k/\k<=s.kids.length)/\(Ke n ln L s.op s.num s.args L'1 (s.kids.drop k) k=Ke n ln L s.op s.num s.args L'1 (s.kids.drop 1) 1)/\F=sF [0,4,5,7] fz [(9,.i k)]/\h=gz/\m=s.kids.length-k) _ _ _ ⟨1,ob,ob,rfl,rfl,rfl⟩ (ZE 16 (fc (x:=.i 1) li fl)) ?_))))))
  rintro m F h ⟨k,Yg,Zi,rfl,rfl,rfl⟩
  refine Yi 3 [14] (iw (Ue s.kids) (Y0 ((k:Int)<(s.kids.length:Int)) (fun Zg=>?_) (fun Zg=>?_)))
  ·obtain ⟨ke,hke⟩:=Zt s.kids k om
   obtain ⟨mk,hmk⟩:=Zt (Xn n.decls s.op s.num) k om
   have hcs:=DT (n:=n) (ln:=ln) (L:=L) (op:=s.op) (num:=s.num) (args:=s.args) (one:=L'1) hke
   refine ak (aq (ab 1 (Zv 4 [15,14] (ic [7,7,7,7,7,7,7] (OL b ga gb gc gd ge gf n s L ln q k ke mk (hkb:=hke) (harm:=hmk) (hbt:=(hk3 k ke mk hke hmk)) (ih:=ob)) ?_))))
   rintro _ _ (⟨c2,wa2,wb2,wc2,wd2,we2,wf2,L'2,rfl,rfl,X8⟩|⟨rfl,rfl,XJ⟩)
   ·have htwo:=X8
    obtain ⟨l3,l4⟩:=OA hn hk hq.1 hf hop hke hmk (hk3 k ke mk hke hmk) htwo
    refine Z0 (aD 26 (ZJ 15 26 [0,1,2,3,4,5,6,7,8,9,10] [14,0] (Z7 11 (UP 11 [16,2] [] [] [rV wb1 L'1.own,rV wb2 L'2.own] (Rx L'1.own L'2.own) Cj (gL (v:=wb1) 0 (gL (v:=wb2) 1 gN)) (VZ (VZ UH)) ?_))))
    rintro _ _ ⟨rfl,rfl⟩
    refine JY [0,4,5,7,9] [(73,.b ((!(decide (L'1.own=L'2.own)))||(!(decide (L'1.tok=L'2.tok)))))] (fun gz=>gz) ?_ ?_
    ·refine Zj 11 14 [12,13,14] (db (b:=(!(decide (L'1.own=L'2.own)))) 62 (fun ZA=>?_) (fun ZA=>?_))
     ·exact Zj 0 11 [15,16,17,18,19,20,21,22,23,24,25] (de (ZE 23 (Zu true ZA fl)))
     refine ZJ 3 11 [15,16,17,18,19,20,21,22] [15,2] (Z7 23 (UP 23 [20,7] [] [] [rV wf1 L'1.tok,rV wf2 L'2.tok] (Rx L'1.tok L'2.tok) Cj (gL (v:=wf1) 0 (gL (v:=wf2) 1 gN)) (VZ (VZ UH)) ?_))
     rintro _ _ ⟨rfl,rfl⟩
     exact Zj 0 2 [24,25] (de (wk [2,2,2,2,2,2,2,1,1,1,1,1,1,1,1,1,1,1,1,1,0,0,0] (Zu (!(decide (L'1.tok=L'2.tok))) ZA fl)))
    refine ac ((!(decide (L'1.own=L'2.own)))||(!(decide (L'1.tok=L'2.tok)))) (p:=(¬(L'1.own=L'2.own))∨(¬(L'1.tok=L'2.tok))) (Yj (Yo dq) (Yo dq)) (fun ZC=>?_) (fun ZC=>?_)
    ·exact ar (Zq (r1 [] (.inr ⟨rfl,rfl,(by rw [hgo,hone];exact DX (by rw [<-Zi,hcs,htwo];exact PZ ZC))⟩)))
    exact ak (az (Z2 1 (ZK k (Z0 (ZL ⟨k+1,ob,(by rw [hcs,htwo,R0 ZC] at Zi;exact Zi),rfl,rfl,rfl⟩ (wk [15,15,0,14,14,14,14,7,7,7,7,7,7,7,7,7] (ZO k fl)))))))
   have htwo:=XJ
   exact Z0 (aD 26 (Zj 0 26 [0,1,2,3,4,5,6,7,8,9,10,11,12,13,14,15,16,17,18,19,20,21,22,23,24,25] (de (XV (ar (Zq (r1 [] (.inr ⟨rfl,rfl,(by rw [hgo,hone];exact DX (by rw [<-Zi,hcs,htwo];rfl))⟩))))))))
  have hE:Ke n ln L s.op s.num s.args L'1 (s.kids.drop 1) 1=true:=by rw [<-Zi,Xi om,Ke]
  exact ax 0 (Zv 7 [0] (ZI 7 b [.h ga,.h wb1,.h gc,.h gd,.h ge,.h gf,Z4 ln] (ie (Zv 7 [1] (ZI 0 b [.h ga,.h wb1,.h gc,.h gd,.h ge,.h wf1,Z4 ln] (ie (ar (Zq (r1 [0,7,2,7,7,7,5] (.inl ⟨ga,wb1,gc,gd,ge,wf1,(Zs.mk L.vars L'1.own L.par L.con L.fst L'1.tok),rfl,rfl,(by rw [hgo,hone];exact P0 hE)⟩) (eq:=(rc (rv (xs:=L.vars) ob (rv (xs:=L'1.own) ob (rv (xs:=L.par) ob (rv (xs:=L.con) ob (rv (xs:=L.fst) ob (rv (xs:=L'1.tok) ob rz)))))))))))))))))
 have hone:=YN
 exact Z0 (Yb (XV (ar (Zq (r1 [] (.inr ⟨rfl,rfl,(by rw [hgo,hone];rfl)⟩))))))
theorem ON (b:Nat) (ga:Hd) (gb:Hd) (gc:Hd) (gd:Hd) (ge:Hd) (gf:Hd) (n:Zk) (s:Z5) (L:Zs) (ln:LI) (q:Int) (hn:X4 n:=by exact ob) (hk:X7 n.decls L q:=by exact ob) (ht:0<=Yc n L.vars s:=by exact ob) (hb:L.vars.length+4*s.sz<=1000000000:=by exact ob) (hq:0<=q/\q+4*s.sz<=999999990:=by exact ob) (hln:ln.length<=4294967296:=by exact ob) (ih:∀(b2:Z9) (c:Nat) (ra:Hd) (rb:Hd) (rc:Hd) (rd:Hd) (re:Hd) (rf:Hd) (M:Zs) (mm:Nat) (p:Int),(b2.sz<s.sz)->(X7 n.decls M p)->(0<=Xq n M.vars b2)->(mm<=M.vars.length)->(M.vars.length+4*b2.sz<=1000000000)->(0<=p/\p+4*b2.sz<=999999990)->Zl 129 [.p c 0,Yn n,ZZ b2,.i mm] [.obj c [.h ra,.h rb,.h rc,.h rd,.h re,.h rf,Z4 ln],rV ra M.vars,rV rb M.own,rV rc M.par,rV rd M.con,rV re M.fst,rV rf M.tok] (fun r h=>(∃(wa:Hd) (wb:Hd) (wc:Hd) (wd:Hd) (we:Hd) (wf:Hd) (M':Zs),r=.b true/\h=[.obj c [.h wa,.h wb,.h wc,.h wd,.h we,.h wf,Z4 ln],rV wa M'.vars,rV wb M'.own,rV wc M'.par,rV wd M'.con,rV we M'.fst,rV wf M'.tok]/\VD n ln M mm b2=some M')∨(r=.b false/\h=[]/\VD n ln M mm b2=none))):Zl 126 [.p b 0,Yn n,YG s] [.obj b [.h ga,.h gb,.h gc,.h gd,.h ge,.h gf,Z4 ln],rV ga L.vars,rV gb L.own,rV gc L.par,rV gd L.con,rV ge L.fst,rV gf L.tok] (fun r h=>(∃(wa:Hd) (wb:Hd) (wc:Hd) (wd:Hd) (we:Hd) (wf:Hd) (L':Zs),r=.b true/\h=[.obj b [.h wa,.h wb,.h wc,.h wd,.h we,.h wf,Z4 ln],rV wa L'.vars,rV wb L'.own,rV wc L'.par,rV wd L'.con,rV we L'.fst,rV wf L'.tok]/\Vy n ln L s=some L')∨(r=.b false/\h=[]/\Vy n ln L s=none)):=by
 obtain ⟨e1,e2,e3,e4,e5⟩:=hk.len
 have Xt:=hn.decls
 have hkz:=Tv s
 have haz:=Qf s
 have hf:=D9 ht
 refine ZG 89 Tryz.func126 (ar (iA (YT n) fun b1=>iA (Xv s) fun b2=>Z0 (aD 8 (ZJ 2 8 [0,1,2,3,4,5] [1,2,0] (Z7 6 (UP 6 [3] [] [] [rV ga L.vars] (Ly n L.vars s ob ob) Cj (gS (gL (v:=ga) 0 (gS gN))) (VZ UH) ?_))))))
 rintro _ _ ⟨rfl,rfl⟩
 refine Zj 0 1 [7] (de (ZF (X0 (Vo [1] (ab 0 (ar (YB (s.op==14) Zp (fun Za=>?_) (fun Za=>?_))))))))
 ·obtain ⟨x,hxa⟩:=hf.one om
  have ha:s.args[0]? = some x:=by rw [hxa];rfl
  have hx:=hf.args x (by rw [hxa];simp)
  have hgx:=Jf ha
  have hal:=(Xp.1 ha).1
  obtain ⟨xo,hxo⟩:=Zt L.own x.toNat om
  have hgo:=Vh hxo
  have hob:=hk.bd xo (Y2 hxo)
  have hon:=hk.nn xo (Y2 hxo)
  refine Zv 3 [1] (Zm (Zh none 0 1 (ZY ha)) (Z2 1 (Zz [3,0,2,2,2,2,2] (FP b ga gb gc gd ge gf L ln x (hlk:=hk.len) (hd:=hk.down)) (Z0 (aE 21 (ZJ 15 21 [0,1,2,3,4,5] [0,7] (dx 6 (Zh none 0 1 (ZY ha)) (ZJ 7 14 [7,8,9,10,11,12,13] [0,7] (dx 14 (Zh none 0 1 (ZY ha)) (Zj 5 6 [15] (dx 16 (Wo 2 gb L.own x x.toNat (hq:=rfl)) (U7 17 (VQ 2 gb L.own x.toNat xo hxo) (da 18 ((xo+1)) ((xo)+(1)) (dx 19 (Wo 2 gb L.own x x.toNat (hq:=rfl)) (Z7 20 (Jy 20 2 [] [] gb L.own x.toNat (xo+1) (de (X0 (YB (!Wh L ln x) (p:=¬(Wh L ln x=true)) (Yo Iff.rfl) (fun Zg=>?_) (fun Zg=>?_))))))))))))))))))))
  ·have hP:=(G9 (n:=n) (ln:=ln) (L:=L) Za hgx).trans (Z30 Zg)
   exact ar (Zq (r1 [] (.inr ⟨rfl,rfl,(by rw [Uk,hP];first|rfl|exact Te (by assumption)|exact Tf (by assumption) (by assumption)|exact UV (by assumption))⟩)))
  have hP:=(G9 (n:=n) (ln:=ln) (L:=L) Za hgx).trans (Z31 Zg hgo)
  obtain ⟨kx,hxv⟩:=B9 hn hk hq.1 hf hP
  refine ak (Yi 2 [7] (Zz [] (KU s.op) (Xo [0,5,7] [(80,.b (XM s.op&&((Yc n L.vars s) != 0)))] (fun gz=>gz) ?_ ?_)))
  ·refine Z2 1 (ib (b:=XM s.op) 77 (fun Zb=>?_) (fun Zb=>?_))
   ·exact Z0 (ZE 9 (Zu ((Yc n L.vars s) != 0) Zb fl))
   exact Z0 (ZE 9 (Zu false Zb fl))
  refine ac (XM s.op&&((Yc n L.vars s) != 0)) (p:=(XM s.op=true)/\((Yc n L.vars s)≠0)) (YH Iff.rfl Yl) (fun ZC=>?_) (fun ZC=>?_)
  ·refine az (Z2 2 (ic [1,1,0,0,0,0,0] (Kf b ga gb gc gd ge gf (Zs.mk L.vars (L.own.set x.toNat (xo+1)) L.par L.con L.fst L.tok) ln (Yc n L.vars s) 1 (-1) (hlb:=(by rw [hxv];omega)) (hlk:=kx.len)) ?_))
   rintro _ _ ⟨wa1,wb1,wc1,wd1,we1,wf1,rfl⟩
   exact ie (ar (Zq (r1 [0,0,0,0,0,0,0] (.inl ⟨wa1,wb1,wc1,wd1,we1,wf1,((Zs.mk L.vars (L.own.set x.toNat (xo+1)) L.par L.con L.fst L.tok).grow (Yc n L.vars s) 1 (-1)),rfl,rfl,(by rw [Uk,hP];first|rfl|exact Te (by assumption)|exact Tf (by assumption) (by assumption)|exact UV (by assumption))⟩))))
  refine Zv 2 [7] (Zz [] (KU s.op) (ie (ac (XM s.op) Iff.rfl (fun Ye=>?_) (fun Ye=>?_))))
  ·refine az (Z2 1 (ic [1,1,0,0,0,0,0] (Kf b ga gb gc gd ge gf (Zs.mk L.vars (L.own.set x.toNat (xo+1)) L.par L.con L.fst L.tok) ln 0 0 (-1) (hlb:=(by rw [hxv];omega)) (hlk:=kx.len)) ?_))
   rintro _ _ ⟨wa2,wb2,wc2,wd2,we2,wf2,rfl⟩
   exact ie (ar (Zq (r1 [0,0,0,0,0,0,0] (.inl ⟨wa2,wb2,wc2,wd2,we2,wf2,((Zs.mk L.vars (L.own.set x.toNat (xo+1)) L.par L.con L.fst L.tok).grow 0 0 (-1)),rfl,rfl,(by rw [Uk,hP];first|rfl|exact Te (by assumption)|exact Tf (by assumption) (by assumption)|exact UV (by assumption))⟩))))
  exact ak (ar (Zq (r1 [1,1,0,0,0,0,0] (.inl ⟨ga,gb,gc,gd,ge,gf,(Zs.mk L.vars (L.own.set x.toNat (xo+1)) L.par L.con L.fst L.tok),rfl,rfl,(by rw [Uk,hP];first|rfl|exact Te (by assumption)|exact Tf (by assumption) (by assumption)|exact UV (by assumption))⟩) (eq:=(rc (rv (xs:=L.vars) ob (rv (xs:=(L.own.set x.toNat (xo+1))) ob (rv (xs:=L.par) ob (rv (xs:=L.con) ob (rv (xs:=L.fst) ob (rv (xs:=L.tok) ob rz)))))))))))
 refine ar (YB (s.op==15) Zp (fun Xf=>?_) (fun Xf=>?_))
 ·obtain ⟨x,hxa⟩:=hf.one om
  have ha:s.args[0]? = some x:=by rw [hxa];rfl
  have hx:=hf.args x (by rw [hxa];simp)
  have hgx:=Jf ha
  have hal:=(Xp.1 ha).1
  refine az (ZM 3 [1] (Zm (Zh none 0 1 (ZY ha)) (Z2 1 (ic [3,0,2,2,2,2,2] (FQ b ga gb gc gd ge gf L ln x (hlk:=hk.len) (hq:=(fun y hy=>⟨hk.nn y hy,by have:=hk.bd y hy;omega⟩))) ?_))))
  rintro _ _ (⟨wa3,wb3,wc3,wd3,we3,wf3,L'1,rfl,rfl,YE⟩|⟨rfl,rfl,YN⟩)
  ·have hP:=(Ga (n:=n) (ln:=ln) (L:=L) Xf hgx).trans (YE)
   obtain ⟨kx,hxv⟩:=B9 hn hk hq.1 hf hP
   refine Z0 (Yb (We (ak (Yi 2 [7] (Zz [] (KU s.op) (Xo [0,5,7] [(80,.b (XM s.op&&((Yc n L.vars s) != 0)))] (fun gz=>gz) ?_ ?_))))))
   ·refine Z2 1 (ib (b:=XM s.op) 77 (fun ZA=>?_) (fun ZA=>?_))
    ·exact Z0 (ZE 9 (Zu ((Yc n L.vars s) != 0) ZA fl))
    exact Z0 (ZE 9 (Zu false ZA fl))
   refine ac (XM s.op&&((Yc n L.vars s) != 0)) (p:=(XM s.op=true)/\((Yc n L.vars s)≠0)) (YH Iff.rfl Yl) (fun Xb=>?_) (fun Xb=>?_)
   ·refine az (Z2 2 (ic [0,0,0,0,0,0,0] (Kf b wa3 wb3 wc3 wd3 we3 wf3 L'1 ln (Yc n L.vars s) 1 (-1) (hlb:=(by rw [hxv];omega)) (hlk:=kx.len)) ?_))
    rintro _ _ ⟨wa4,wb4,wc4,wd4,we4,wf4,rfl⟩
    exact ie (ar (Zq (r1 [0,0,0,0,0,0,0] (.inl ⟨wa4,wb4,wc4,wd4,we4,wf4,(L'1.grow (Yc n L.vars s) 1 (-1)),rfl,rfl,(by rw [Uk,hP];first|rfl|exact Te (by assumption)|exact Tf (by assumption) (by assumption)|exact UV (by assumption))⟩))))
   refine Zv 2 [7] (Zz [] (KU s.op) (ie (ac (XM s.op) Iff.rfl (fun Vu=>?_) (fun Vu=>?_))))
   ·refine az (Z2 1 (ic [0,0,0,0,0,0,0] (Kf b wa3 wb3 wc3 wd3 we3 wf3 L'1 ln 0 0 (-1) (hlb:=(by rw [hxv];omega)) (hlk:=kx.len)) ?_))
    rintro _ _ ⟨wa5,wb5,wc5,wd5,we5,wf5,rfl⟩
    exact ie (ar (Zq (r1 [0,0,0,0,0,0,0] (.inl ⟨wa5,wb5,wc5,wd5,we5,wf5,(L'1.grow 0 0 (-1)),rfl,rfl,(by rw [Uk,hP];first|rfl|exact Te (by assumption)|exact Tf (by assumption) (by assumption)|exact UV (by assumption))⟩))))
   exact ak (ar (Zq (r1 [0,0,0,0,0,0,0] (.inl ⟨wa3,wb3,wc3,wd3,we3,wf3,L'1,rfl,rfl,(by rw [Uk,hP];first|rfl|exact Te (by assumption)|exact Tf (by assumption) (by assumption)|exact UV (by assumption))⟩))))
  have hP:=(Ga (n:=n) (ln:=ln) (L:=L) Xf hgx).trans (YN)
  exact Z0 (Yb (XV (ar (Zq (r1 [] (.inr ⟨rfl,rfl,(by rw [Uk,hP];first|rfl|exact Te (by assumption)|exact Tf (by assumption) (by assumption)|exact UV (by assumption))⟩))))))
 refine Yb (XP (fun fz gz F h=>F=sF [0,4,5,7,17] fz [(58,.b ((s.op==16)||(s.op==17)))]/\h=gz) ?_ ?_)
 ·refine ac (s.op==16) Zp (fun Vj=>?_) (fun Vj=>?_)
  ·exact ak (ZQ ⟨rfl,rfl⟩ (ZE 9 (fc (x:=.b (s.op==16)) (lb (by first|rfl|(rw [Ze Vj])|(rw [Z8 Vj])|(simp [Vj];done)|(rw [Xs];simp [Vj];done)|omega)) fl)))
  exact UW (ZQ ⟨rfl,rfl⟩ (ZE 9 (fc (x:=.b (s.op==17)) (lb (by first|rfl|(rw [Ze Vj])|(rw [Z8 Vj])|(simp [Vj];done)|(rw [Xs];simp [Vj];done)|omega)) fl)))
 rintro F h ⟨rfl,rfl⟩
 refine ac ((s.op==16)||(s.op==17)) (p:=(s.op=16)∨(s.op=17)) (Yj Zp Zp) (fun Vk=>?_) (fun Vk=>?_)
 ·obtain ⟨x,hxa⟩:=hf.one om
  have ha:s.args[0]? = some x:=by rw [hxa];rfl
  have hx:=hf.args x (by rw [hxa];simp)
  have hgx:=Jf ha
  have hal:=(Xp.1 ha).1
  refine az (ZM 3 [2,1] (ic [3,0,2,2,2,2,2] (Z8v b ga gb gc gd ge gf n s L ln q x) ?_))
  rintro _ _ (⟨wa6,wb6,wc6,wd6,we6,wf6,L'2,rfl,rfl,Wn⟩|⟨rfl,rfl,WL⟩)
  ·have hP:=(IV (n:=n) (ln:=ln) (L:=L) Vk hgx).trans (Wn)
   obtain ⟨kx,hxv⟩:=B9 hn hk hq.1 hf hP
   refine Z0 (Yb (We (ak (Yi 2 [7] (Zz [] (KU s.op) (Xo [0,5,7] [(80,.b (XM s.op&&((Yc n L.vars s) != 0)))] (fun gz=>gz) ?_ ?_))))))
   ·refine Z2 1 (ib (b:=XM s.op) 77 (fun Yy=>?_) (fun Yy=>?_))
    ·exact Z0 (ZE 9 (Zu ((Yc n L.vars s) != 0) Yy fl))
    exact Z0 (ZE 9 (Zu false Yy fl))
   refine ac (XM s.op&&((Yc n L.vars s) != 0)) (p:=(XM s.op=true)/\((Yc n L.vars s)≠0)) (YH Iff.rfl Yl) (fun UX=>?_) (fun UX=>?_)
   ·refine az (Z2 2 (ic [0,0,0,0,0,0,0] (Kf b wa6 wb6 wc6 wd6 we6 wf6 L'2 ln (Yc n L.vars s) 1 (-1) (hlb:=(by rw [hxv];omega)) (hlk:=kx.len)) ?_))
    rintro _ _ ⟨wa7,wb7,wc7,wd7,we7,wf7,rfl⟩
    exact ie (ar (Zq (r1 [0,0,0,0,0,0,0] (.inl ⟨wa7,wb7,wc7,wd7,we7,wf7,(L'2.grow (Yc n L.vars s) 1 (-1)),rfl,rfl,(by rw [Uk,hP];first|rfl|exact Te (by assumption)|exact Tf (by assumption) (by assumption)|exact UV (by assumption))⟩))))
   refine Zv 2 [7] (Zz [] (KU s.op) (ie (ac (XM s.op) Iff.rfl (fun Jg=>?_) (fun Jg=>?_))))
   ·refine az (Z2 1 (ic [0,0,0,0,0,0,0] (Kf b wa6 wb6 wc6 wd6 we6 wf6 L'2 ln 0 0 (-1) (hlb:=(by rw [hxv];omega)) (hlk:=kx.len)) ?_))
    rintro _ _ ⟨wa8,wb8,wc8,wd8,we8,wf8,rfl⟩
    exact ie (ar (Zq (r1 [0,0,0,0,0,0,0] (.inl ⟨wa8,wb8,wc8,wd8,we8,wf8,(L'2.grow 0 0 (-1)),rfl,rfl,(by rw [Uk,hP];first|rfl|exact Te (by assumption)|exact Tf (by assumption) (by assumption)|exact UV (by assumption))⟩))))
   exact ak (ar (Zq (r1 [0,0,0,0,0,0,0] (.inl ⟨wa6,wb6,wc6,wd6,we6,wf6,L'2,rfl,rfl,(by rw [Uk,hP];first|rfl|exact Te (by assumption)|exact Tf (by assumption) (by assumption)|exact UV (by assumption))⟩))))
  have hP:=(IV (n:=n) (ln:=ln) (L:=L) Vk hgx).trans (WL)
  exact Z0 (Yb (XV (ar (Zq (r1 [] (.inr ⟨rfl,rfl,(by rw [Uk,hP];first|rfl|exact Te (by assumption)|exact Tf (by assumption) (by assumption)|exact UV (by assumption))⟩))))))
 refine Yb (XP (fun fz gz F h=>F=sF [0,4,5,7] fz [(65,.b ((s.op==7)||(s.op==8)))]/\h=gz) ?_ ?_)
 ·refine ac (s.op==7) Zp (fun TO=>?_) (fun TO=>?_)
  ·exact ak (ZQ ⟨rfl,rfl⟩ (ZE 9 (fc (x:=.b (s.op==7)) (lb (by first|rfl|(rw [Ze TO])|(rw [Z8 TO])|(simp [TO];done)|(rw [Xs];simp [TO];done)|omega)) fl)))
  exact UW (ZQ ⟨rfl,rfl⟩ (ZE 9 (fc (x:=.b (s.op==8)) (lb (by first|rfl|(rw [Ze TO])|(rw [Z8 TO])|(simp [TO];done)|(rw [Xs];simp [TO];done)|omega)) fl)))
 rintro F h ⟨rfl,rfl⟩
 refine ac ((s.op==7)||(s.op==8)) (p:=(s.op=7)∨(s.op=8)) (Yj Zp Zp) (fun KH=>?_) (fun KH=>?_)
 ·refine az (ZM 3 [2,1] (ic [3,0,2,2,2,2,2] (Z8s b ga gb gc gd ge gf n s L ln q (ih:=ob)) ?_))
  rintro _ _ (⟨wa9,wb9,wc9,wd9,we9,wf9,L'3,rfl,rfl,Tg⟩|⟨rfl,rfl,UY⟩)
  ·have hP:=(Gc (n:=n) (ln:=ln) (L:=L) KH).trans (Tg)
   obtain ⟨kx,hxv⟩:=B9 hn hk hq.1 hf hP
   refine Z0 (Yb (We (ak (Yi 2 [7] (Zz [] (KU s.op) (Xo [0,5,7] [(80,.b (XM s.op&&((Yc n L.vars s) != 0)))] (fun gz=>gz) ?_ ?_))))))
   ·refine Z2 1 (ib (b:=XM s.op) 77 (fun Xe=>?_) (fun Xe=>?_))
    ·exact Z0 (ZE 9 (Zu ((Yc n L.vars s) != 0) Xe fl))
    exact Z0 (ZE 9 (Zu false Xe fl))
   refine ac (XM s.op&&((Yc n L.vars s) != 0)) (p:=(XM s.op=true)/\((Yc n L.vars s)≠0)) (YH Iff.rfl Yl) (fun BS=>?_) (fun BS=>?_)
   ·refine az (Z2 2 (ic [0,0,0,0,0,0,0] (Kf b wa9 wb9 wc9 wd9 we9 wf9 L'3 ln (Yc n L.vars s) 1 (-1) (hlb:=(by rw [hxv];omega)) (hlk:=kx.len)) ?_))
    rintro _ _ ⟨wa10,wb10,wc10,wd10,we10,wf10,rfl⟩
    exact ie (ar (Zq (r1 [0,0,0,0,0,0,0] (.inl ⟨wa10,wb10,wc10,wd10,we10,wf10,(L'3.grow (Yc n L.vars s) 1 (-1)),rfl,rfl,(by rw [Uk,hP];first|rfl|exact Te (by assumption)|exact Tf (by assumption) (by assumption)|exact UV (by assumption))⟩))))
   refine Zv 2 [7] (Zz [] (KU s.op) (ie (ac (XM s.op) Iff.rfl (fun If=>?_) (fun If=>?_))))
   ·refine az (Z2 1 (ic [0,0,0,0,0,0,0] (Kf b wa9 wb9 wc9 wd9 we9 wf9 L'3 ln 0 0 (-1) (hlb:=(by rw [hxv];omega)) (hlk:=kx.len)) ?_))
    rintro _ _ ⟨wa11,wb11,wc11,wd11,we11,wf11,rfl⟩
    exact ie (ar (Zq (r1 [0,0,0,0,0,0,0] (.inl ⟨wa11,wb11,wc11,wd11,we11,wf11,(L'3.grow 0 0 (-1)),rfl,rfl,(by rw [Uk,hP];first|rfl|exact Te (by assumption)|exact Tf (by assumption) (by assumption)|exact UV (by assumption))⟩))))
   exact ak (ar (Zq (r1 [0,0,0,0,0,0,0] (.inl ⟨wa9,wb9,wc9,wd9,we9,wf9,L'3,rfl,rfl,(by rw [Uk,hP];first|rfl|exact Te (by assumption)|exact Tf (by assumption) (by assumption)|exact UV (by assumption))⟩))))
  have hP:=(Gc (n:=n) (ln:=ln) (L:=L) KH).trans (UY)
  exact Z0 (Yb (XV (ar (Zq (r1 [] (.inr ⟨rfl,rfl,(by rw [Uk,hP];first|rfl|exact Te (by assumption)|exact Tf (by assumption) (by assumption)|exact UV (by assumption))⟩))))))
 refine az (ZM 3 [2,1] (ic [3,0,2,2,2,2,2] (Z8u b ga gb gc gd ge gf n s L ln q (hnum:=hf.num) (hargs:=hf.args) (hinto:=(fun q=>(hf.into om).2))) ?_))
 rintro _ _ (⟨wa12,wb12,wc12,wd12,we12,wf12,L'4,rfl,rfl,KI⟩|⟨rfl,rfl,KJ⟩)
 ·have hP:=(Pw (n:=n) (ln:=ln) (L:=L) Za Xf Vk KH).trans (KI)
  obtain ⟨kx,hxv⟩:=B9 hn hk hq.1 hf hP
  refine Z0 (Yb (We (ak (Yi 2 [7] (Zz [] (KU s.op) (Xo [0,5,7] [(80,.b (XM s.op&&((Yc n L.vars s) != 0)))] (fun gz=>gz) ?_ ?_))))))
  ·refine Z2 1 (ib (b:=XM s.op) 77 (fun Wy=>?_) (fun Wy=>?_))
   ·exact Z0 (ZE 9 (Zu ((Yc n L.vars s) != 0) Wy fl))
   exact Z0 (ZE 9 (Zu false Wy fl))
  refine ac (XM s.op&&((Yc n L.vars s) != 0)) (p:=(XM s.op=true)/\((Yc n L.vars s)≠0)) (YH Iff.rfl Yl) (fun Ig=>?_) (fun Ig=>?_)
  ·refine az (Z2 2 (ic [0,0,0,0,0,0,0] (Kf b wa12 wb12 wc12 wd12 we12 wf12 L'4 ln (Yc n L.vars s) 1 (-1) (hlb:=(by rw [hxv];omega)) (hlk:=kx.len)) ?_))
   rintro _ _ ⟨wa13,wb13,wc13,wd13,we13,wf13,rfl⟩
   exact ie (ar (Zq (r1 [0,0,0,0,0,0,0] (.inl ⟨wa13,wb13,wc13,wd13,we13,wf13,(L'4.grow (Yc n L.vars s) 1 (-1)),rfl,rfl,(by rw [Uk,hP];first|rfl|exact Te (by assumption)|exact Tf (by assumption) (by assumption)|exact UV (by assumption))⟩))))
  refine Zv 2 [7] (Zz [] (KU s.op) (ie (ac (XM s.op) Iff.rfl (fun Jh=>?_) (fun Jh=>?_))))
  ·refine az (Z2 1 (ic [0,0,0,0,0,0,0] (Kf b wa12 wb12 wc12 wd12 we12 wf12 L'4 ln 0 0 (-1) (hlb:=(by rw [hxv];omega)) (hlk:=kx.len)) ?_))
   rintro _ _ ⟨wa14,wb14,wc14,wd14,we14,wf14,rfl⟩
   exact ie (ar (Zq (r1 [0,0,0,0,0,0,0] (.inl ⟨wa14,wb14,wc14,wd14,we14,wf14,(L'4.grow 0 0 (-1)),rfl,rfl,(by rw [Uk,hP];first|rfl|exact Te (by assumption)|exact Tf (by assumption) (by assumption)|exact UV (by assumption))⟩))))
  exact ak (ar (Zq (r1 [0,0,0,0,0,0,0] (.inl ⟨wa12,wb12,wc12,wd12,we12,wf12,L'4,rfl,rfl,(by rw [Uk,hP];first|rfl|exact Te (by assumption)|exact Tf (by assumption) (by assumption)|exact UV (by assumption))⟩))))
 have hP:=(Pw (n:=n) (ln:=ln) (L:=L) Za Xf Vk KH).trans (KJ)
 exact Z0 (Yb (XV (ar (Zq (r1 [] (.inr ⟨rfl,rfl,(by rw [Uk,hP];first|rfl|exact Te (by assumption)|exact Tf (by assumption) (by assumption)|exact UV (by assumption))⟩))))))
theorem Z8q (c:Nat) (ga:Hd) (gb:Hd) (gc:Hd) (gd:Hd) (ge:Hd) (gf:Hd) (n:Zk) (b:Z9) (L:Zs) (ln:LI) (q:Int) (mm:Nat) (hn:X4 n) (hk:X7 n.decls L q) (ht:0<=Xq n L.vars b) (hm:mm<=L.vars.length) (hb:L.vars.length+4*b.sz<=1000000000) (hq:0<=q/\q+4*b.sz<=999999990) (hln:ln.length<=4294967296) (ih:∀(s2:Z5) (c:Nat) (ra:Hd) (rb:Hd) (rc:Hd) (rd:Hd) (re:Hd) (rf:Hd) (M:Zs) (p:Int),(s2.sz<b.sz)->(X7 n.decls M p)->(0<=Yc n M.vars s2)->(M.vars.length+4*s2.sz<=1000000000)->(0<=p/\p+4*s2.sz<=999999990)->Zl 126 [.p c 0,Yn n,YG s2] [.obj c [.h ra,.h rb,.h rc,.h rd,.h re,.h rf,Z4 ln],rV ra M.vars,rV rb M.own,rV rc M.par,rV rd M.con,rV re M.fst,rV rf M.tok] (fun r h=>(∃(wa:Hd) (wb:Hd) (wc:Hd) (wd:Hd) (we:Hd) (wf:Hd) (M':Zs),r=.b true/\h=[.obj c [.h wa,.h wb,.h wc,.h wd,.h we,.h wf,Z4 ln],rV wa M'.vars,rV wb M'.own,rV wc M'.par,rV wd M'.con,rV we M'.fst,rV wf M'.tok]/\Vy n ln M s2=some M')∨(r=.b false/\h=[]/\Vy n ln M s2=none))):Zl 129 [.p c 0,Yn n,ZZ b,.i mm] [.obj c [.h ga,.h gb,.h gc,.h gd,.h ge,.h gf,Z4 ln],rV ga L.vars,rV gb L.own,rV gc L.par,rV gd L.con,rV ge L.fst,rV gf L.tok] (fun r h=>(∃(wa:Hd) (wb:Hd) (wc:Hd) (wd:Hd) (we:Hd) (wf:Hd) (L':Zs),r=.b true/\h=[.obj c [.h wa,.h wb,.h wc,.h wd,.h we,.h wf,Z4 ln],rV wa L'.vars,rV wb L'.own,rV wc L'.par,rV wd L'.con,rV we L'.fst,rV wf L'.tok]/\VD n ln L mm b=some L')∨(r=.b false/\h=[]/\VD n ln L mm b=none)):=by
 have hbz:=b.sz_eq
 obtain ⟨vs,rt,hvs,hres,hrt⟩:=EJ ht
 have hri:=J6 hres
 have Xm:=VS b
 refine ZG 45 Tryz.func129 (ar (iA (YT n) fun b1=>iA (Xk b) fun b2=>?_))
 refine Z0 (Yb (ab 0 (Y4 (fun fz gz m F h=>∃(k:Nat) (q2:Int) (L2:Zs) (ka:Hd) (kb:Hd) (kc:Hd) (kd:Hd) (ke:Hd) (kf:Hd),(k<=b.steps.length)/\(X7 n.decls L2 q2)/\(0<=q2/\q2+4*Y8 (b.steps.drop k)<=999999990)/\(L2.vars.length+4*Y8 (b.steps.drop k)<=1000000000)/\(XH n (b.steps.drop k) L2.vars=some vs)/\(Wb n ln L2 (b.steps.drop k)=Wb n ln L b.steps)/\(L.vars.length<=L2.vars.length)/\F=sF [0,3,5,6] fz [(9,.i k)]/\h=[Zc gz 0,Zc gz 1,.obj c [.h ka,.h kb,.h kc,.h kd,.h ke,.h kf,Z4 ln],rV ka L2.vars,rV kb L2.own,rV kc L2.par,rV kd L2.con,rV ke L2.fst,rV kf L2.tok]/\m=b.steps.length-k) _ _ _ ⟨0,q,L,ga,gb,gc,gd,ge,gf,ob,hk,(by rw [K1];omega),(by rw [K1];omega),hvs,rfl,om,rfl,rfl,rfl⟩ (ZE 9 (Yd fl)) ?_)))
 rintro m F h ⟨k,q2,L2,ka,kb,kc,kd,ke,kf,Yg,Zi,Zw,Yq,XR,QA,Hp,rfl,rfl,rfl⟩
 refine Yi 3 [0] (iw (VF b.steps) (Y0 ((k:Int)<(b.steps.length:Int)) (fun Za=>?_) (fun Za=>?_)))
 ·obtain ⟨s1,hs1⟩:=Zt b.steps k om
  have hss:=Kl hs1
  have hdr:=Y7 hs1
  have hz:Y8 (b.steps.drop k)=s1.sz+Y8 (b.steps.drop (k+1)):=by rw [hdr,Y8]
  rw [hdr] at XR QA
  obtain ⟨g1,g2⟩:=Ei XR
  refine ak (aq (ab 1 (aD 9 (ZJ 4 9 [0,1,2,3,4] [1,0] (dx 5 (Zh none (k:Int) 5 (WD hs1)) (Zj 2 3 [6] (Z7 7 (dc 7 [2,2,2,2,2,2,2] [] [] (ih s1 c ka kb kc kd ke kf L2 q2 ob Zi g1 om om) ?_))))))))
  rintro _ _ (⟨wa1,wb1,wc1,wd1,we1,wf1,M'1,rfl,rfl,ZW⟩|⟨rfl,rfl,Yh⟩)
  ·have hP:=ZW
   have kx:=D8 hn Zi Zw.1 g1 hP
   exact Zj 0 1 [8] (de (We (ak (az (Z2 1 (ZK k (Z0 (ZL ⟨k+1,(q2+4*s1.sz),M'1,wa1,wb1,wc1,wd1,we1,wf1,ob,kx.1,om,(by rw [kx.2];have:=Gq n L2.vars s1;omega),(by rw [kx.2];exact g2),(by rw [<-QA,Wb,hP];rfl),(by rw [kx.2];have:=Gq n L2.vars s1;omega),rfl,rfl,rfl⟩ (wk [7,7,0,0,0,0,0,0,0] (ZO k fl))))))))))
  have hP:=Yh
  exact Zj 0 1 [8] (de (XV (ar (Zq (r1 [] (.inr ⟨rfl,rfl,(by rw [JW,<-QA,Wb,hP];rfl)⟩))))))
 rw [Xi om] at XR QA
 have hvv:L2.vars=vs:=by rw [XH] at XR;exact Tz XR
 have hB:VD n ln L mm b=UD mm b.result L2:=by rw [JW,<-QA,Wb];rfl
 obtain ⟨xr,hxr⟩:=Zt L2.vars b.result.toNat (by rw [hvv];omega)
 have hgr:=Vh hxr
 have hrl:0<=b.result/\b.result<L2.vars.length:=by rw [hvv];omega
 rw [XH] at XR
 refine ax 0 (aq (aD 16 (ZJ 10 16 [0,1,2,3,4,5] [2,0] (dx 6 (Wo 3 ka L2.vars b.result b.result.toNat (hq:=rfl)) (U7 7 (VQ 3 ka L2.vars b.result.toNat xr hxr) (Zj 6 8 [8,9] (db (b:=(xr != 0)) 35 (fun Zb=>?_) (fun Zb=>?_))))))))
 ·have YE:xr≠0:=(Yl).1 Zb
  refine ZJ 3 6 [10,11,12] [0] (Z7 13 (dc 13 [2,2,2,2,2,2,2] [] [] (FQ c ka kb kc kd ke kf L2 ln b.result (hlk:=Zi.len) (hq:=(fun y hy=>⟨Zi.nn y hy,by have:=Zi.bd y hy;omega⟩))) ?_))
  rintro _ _ (⟨wa2,wb2,wc2,wd2,we2,wf2,L'1,rfl,rfl,YN⟩|⟨rfl,rfl,X8⟩)
  ·have hE:=hB.trans (Z3n hgr (by assumption) YN)
   have kx:=Zi.take YN
   have hxv:L'1.vars.length=L2.vars.length:=by rw [(QW YN).2.1]
   refine Zj 0 2 [14,15] (de (We (ak (Y5 2 (ic [0,0,0,0,0,0,0] (OK c wa2 wb2 wc2 wd2 we2 wf2 L'1 ln mm (hlk:=(by first|exact kx.len|exact Zi.len)) (hlb:=om) (hm:=om)) ?_)))))
   rintro _ _ (⟨wa3,wb3,wc3,wd3,we3,wf3,L'2,rfl,rfl,XJ⟩|⟨rfl,rfl,Wn⟩)
   ·exact Zq (r1 [0,0,0,0,0,0,0] (.inl ⟨wa3,wb3,wc3,wd3,we3,wf3,L'2,rfl,rfl,(by first|exact hE|(rw [hE];exact XJ)|(rw [hB,DA hgr (by assumption)];exact XJ))⟩))
   exact Zq (r1 [] (.inr ⟨rfl,rfl,(by first|exact hE|(rw [hE];exact Wn)|(rw [hB,DA hgr (by assumption)];exact Wn))⟩))
  have hE:=hB.trans (Z3m hgr (by assumption) X8)
  exact Zj 0 2 [14,15] (de (XV (ar (Zq (r1 [] (.inr ⟨rfl,rfl,(by first|exact hE|(rw [hE];exact X8)|(rw [hB,DA hgr (by assumption)];exact X8))⟩))))))
 have WL:¬(xr≠0):=Ya Yl Zb
 refine Zj 0 6 [10,11,12,13,14,15] (de (We (ak (Y5 2 (ic [2,2,2,2,2,2,2] (OK c ka kb kc kd ke kf L2 ln mm (hlk:=(by first|exact kx.len|exact Zi.len)) (hlb:=om) (hm:=om)) ?_)))))
 rintro _ _ (⟨wa4,wb4,wc4,wd4,we4,wf4,L'3,rfl,rfl,V5⟩|⟨rfl,rfl,Ur⟩)
 ·exact Zq (r1 [0,0,0,0,0,0,0] (.inl ⟨wa4,wb4,wc4,wd4,we4,wf4,L'3,rfl,rfl,(by first|exact hE|(rw [hE];exact V5)|(rw [hB,DA hgr (by assumption)];exact V5))⟩))
 exact Zq (r1 [] (.inr ⟨rfl,rfl,(by first|exact hE|(rw [hE];exact Ur)|(rw [hB,DA hgr (by assumption)];exact Ur))⟩))
theorem Z8r (n:Zk) (ln:LI) (hn:X4 n) (hln:ln.length<=4294967296) (m:Nat):∀(b2:Z9) (c:Nat) (ra:Hd) (rb:Hd) (rc:Hd) (rd:Hd) (re:Hd) (rf:Hd) (M:Zs) (mm:Nat) (p:Int),(b2.sz<m+1)->(X7 n.decls M p)->(0<=Xq n M.vars b2)->(mm<=M.vars.length)->(M.vars.length+4*b2.sz<=1000000000)->(0<=p/\p+4*b2.sz<=999999990)->Zl 129 [.p c 0,Yn n,ZZ b2,.i mm] [.obj c [.h ra,.h rb,.h rc,.h rd,.h re,.h rf,Z4 ln],rV ra M.vars,rV rb M.own,rV rc M.par,rV rd M.con,rV re M.fst,rV rf M.tok] (fun r h=>(∃(wa:Hd) (wb:Hd) (wc:Hd) (wd:Hd) (we:Hd) (wf:Hd) (M':Zs),r=.b true/\h=[.obj c [.h wa,.h wb,.h wc,.h wd,.h we,.h wf,Z4 ln],rV wa M'.vars,rV wb M'.own,rV wc M'.par,rV wd M'.con,rV we M'.fst,rV wf M'.tok]/\VD n ln M mm b2=some M')∨(r=.b false/\h=[]/\VD n ln M mm b2=none)):=by
 induction m with
 | zero=>intro b c ga gb gc gd ge gf L mm q h;have:=b.sz_pos;omega
 | succ m ih=>
  intro b c ga gb gc gd ge gf L mm q h1 hk ht hm hb hp
  exact Z8q c ga gb gc gd ge gf n b L ln q mm hn hk ht hm hb hp hln fun s c ga gb gc gd ge gf L q h2 hk ht hb hp=>ON c ga gb gc gd ge gf n s L ln q hn hk ht hb hp hln
   fun b2 c ga gb gc gd ge gf L mm q h3 hk ht hm hb hp=>ih b2 c ga gb gc gd ge gf L mm q om hk ht hm hb hp
theorem Z8w (n:Zk) (ln:LI) (hn:X4 n) (hln:ln.length<=4294967296) (m:Nat):∀(s2:Z5) (c:Nat) (ra:Hd) (rb:Hd) (rc:Hd) (rd:Hd) (re:Hd) (rf:Hd) (M:Zs) (p:Int),(s2.sz<m+1)->(X7 n.decls M p)->(0<=Yc n M.vars s2)->(M.vars.length+4*s2.sz<=1000000000)->(0<=p/\p+4*s2.sz<=999999990)->Zl 126 [.p c 0,Yn n,YG s2] [.obj c [.h ra,.h rb,.h rc,.h rd,.h re,.h rf,Z4 ln],rV ra M.vars,rV rb M.own,rV rc M.par,rV rd M.con,rV re M.fst,rV rf M.tok] (fun r h=>(∃(wa:Hd) (wb:Hd) (wc:Hd) (wd:Hd) (we:Hd) (wf:Hd) (M':Zs),r=.b true/\h=[.obj c [.h wa,.h wb,.h wc,.h wd,.h we,.h wf,Z4 ln],rV wa M'.vars,rV wb M'.own,rV wc M'.par,rV wd M'.con,rV we M'.fst,rV wf M'.tok]/\Vy n ln M s2=some M')∨(r=.b false/\h=[]/\Vy n ln M s2=none)):=by
 intro s c ga gb gc gd ge gf L q h2 hk ht hb hp
 exact ON c ga gb gc gd ge gf n s L ln q hn hk ht hb hp hln fun b2 c ga gb gc gd ge gf L mm q h3 hk ht hm hb hp=>Z8r n ln hn hln m b2 c ga gb gc gd ge gf L mm q om hk ht hm hb hp
theorem OM (c:Nat) (ra:Hd) (rb:Hd) (rc:Hd) (rd:Hd) (re:Hd) (rf:Hd) (n:Zk) (s2:Z5) (M:Zs) (ln:LI) (p:Int) (hn:X4 n) (hln:ln.length<=4294967296) (hk:X7 n.decls M p) (ht:0<=Yc n M.vars s2) (hb:M.vars.length+4*s2.sz<=1000000000) (hp:0<=p/\p+4*s2.sz<=999999990):Zl 126 [.p c 0,Yn n,YG s2] [.obj c [.h ra,.h rb,.h rc,.h rd,.h re,.h rf,Z4 ln],rV ra M.vars,rV rb M.own,rV rc M.par,rV rd M.con,rV re M.fst,rV rf M.tok] (fun r h=>(∃(wa:Hd) (wb:Hd) (wc:Hd) (wd:Hd) (we:Hd) (wf:Hd) (M':Zs),r=.b true/\h=[.obj c [.h wa,.h wb,.h wc,.h wd,.h we,.h wf,Z4 ln],rV wa M'.vars,rV wb M'.own,rV wc M'.par,rV wd M'.con,rV we M'.fst,rV wf M'.tok]/\Vy n ln M s2=some M')∨(r=.b false/\h=[]/\Vy n ln M s2=none)):=Z8w n ln hn hln s2.sz s2 c ra rb rc rd re rf M p om hk ht hb hp
theorem Rw (rt:Yf) (hp:rt.params.length<=1000000:=by exact ob) (hl:rt.lent.length<=4294967296:=by exact ob):Zl 125 [K6 rt] [] (fun r h=>∃(c:Nat) (wa:Hd) (wb:Hd) (wc:Hd) (wd:Hd) (we:Hd) (wf:Hd),r=.p c 0/\h=[.obj c [.h wa,.h wb,.h wc,.h wd,.h we,.h wf,Z4 rt.lent],rV wa ((U0 rt).vars),rV wb ((U0 rt).own),rV wc ((U0 rt).par),rV wd ((U0 rt).con),rV we ((U0 rt).fst),rV wf ((U0 rt).tok)]):=by
 refine ZG 45 Tryz.func125 (ar (iA (KM rt) fun b1=>Z0 (Zv 2 [0] (ic [] (Ub rt.lent) ?_))))
 rintro _ _ ⟨v1,rfl,rfl⟩
 refine ZP 1 [(8,.agg [nl,nl,nl,nl,nl,nl,Z4 rt.lent])] (iA [nl,nl,nl,nl,nl,nl,Z4 rt.lent] fun b2=>?_)
 refine XW (S3 0 b2 [nl,nl,nl,nl,nl,nl,Z4 rt.lent] [.h hN,.h hN,.h hN,.h hN,.h hN,.h hN,Z4 rt.lent] (.cons (Zd.hd (v:=hN)) (.cons (Zd.hd (v:=hN)) (.cons (Zd.hd (v:=hN)) (.cons (Zd.hd (v:=hN)) (.cons (Zd.hd (v:=hN)) (.cons (Zd.hd (v:=hN)) (.cons (lr _) .nil)))))))) (XW (Jj) (XW (Jj) (XW (Jj) (XW (Jj) (XW (Jj) (XW (Jj) (Z0 (Yb (ab 0 (Y4 (fun fz gz m F h=>∃(k:Nat) (L2:Zs) (ka:Hd) (kb:Hd) (kc:Hd) (kd:Hd) (ke:Hd) (kf:Hd),(k<=rt.params.length)/\(Wt L2)/\(L2.vars.length=k)/\(QQ rt.lent (rt.params.drop k) k L2=U0 rt)/\F=sF [1,3] fz [(4,.i k)]/\h=[.obj b2 [.h ka,.h kb,.h kc,.h kd,.h ke,.h kf,Z4 rt.lent],Zc gz 8,rV ka L2.vars,rV kb L2.own,rV kc L2.par,rV kd L2.con,rV ke L2.fst,rV kf L2.tok]/\m=rt.params.length-k) _ _ _ ⟨0,(Zs.mk [] [] [] [] [] []),hN,hN,hN,hN,hN,hN,ob,⟨rfl,rfl,rfl,rfl,rfl⟩,rfl,rfl,rfl,rfl,rfl⟩ (wk [6,7,0,0,0,0,0,0] (Yd fl) (e:=(rc (rc (rv (xs:=[]) ob (rv (xs:=[]) ob (rv (xs:=[]) ob (rv (xs:=[]) ob (rv (xs:=[]) ob (rv (xs:=[]) ob rz)))))))))) ?_))))))))))
 rintro m F h ⟨k,L2,ka,kb,kc,kd,ke,kf,Yg,Zi,Zw,Yq,rfl,rfl,rfl⟩
 refine Yi 3 [1] (iw (Y6 rt.params) (Y0 ((k:Int)<(rt.params.length:Int)) (fun Za=>?_) (fun Za=>?_)))
 ·refine ak (aq (ab 1 (Zv 3 [1] ?_)))
  obtain ⟨x1,Z3⟩:=Zt rt.params k om
  refine Zm (Zh none (k:Int) 1 (ZY Z3)) (Xo [1,3,4] [(29,.b ((x1 != 0)&&(!(decide ((k:Int)∈rt.lent)))))] (fun gz=>gz) ?_ ?_)
  ·refine Z2 3 (ib (b:=(x1 != 0)) 23 (fun Zb=>?_) (fun Zb=>?_))
   ·exact ZM 3 [1] (Zz [] (UJ rt.lent (k:Int)) (Z0 (ZE 8 (Zu (!(decide ((k:Int)∈rt.lent))) Zb fl))))
   exact Z0 (ZE 8 (Zu false Zb fl))
  refine ac ((x1 != 0)&&(!(decide ((k:Int)∈rt.lent)))) (p:=(x1≠0)/\(¬((k:Int)∈rt.lent))) (YH Yl (Yo dq)) (fun Zg=>?_) (fun Zg=>?_)
  ·refine az (ZM 4 [1] (Zm (Zh none (k:Int) 1 (ZY Z3)) (Z2 1 (ic [0,1,1,1,1,1,1] (Kf b2 ka kb kc kd ke kf L2 rt.lent x1 1 (-1) (hlk:=Zi)) ?_))))
   rintro _ _ ⟨wa1,wb1,wc1,wd1,we1,wf1,rfl⟩
   exact ie (az (Z2 1 (ZK k (Z0 (ZL ⟨k+1,(L2.grow x1 1 (-1)),wa1,wb1,wc1,wd1,we1,wf1,ob,(Wt.grow Zi),(by simp [Zs.grow];omega),(by rw [Y7 Z3,QQ] at Yq;first|(rw [Ze Zg] at Yq;exact Yq)|(rw [Z8 Zg] at Yq;exact Yq)),rfl,rfl,rfl⟩ (wk [0,6,0,0,0,0,0,0] (ZO k fl)))))))
  refine az (ZM 4 [1] (Zm (Zh none (k:Int) 1 (ZY Z3)) (Z2 1 (ic [0,1,1,1,1,1,1] (Kf b2 ka kb kc kd ke kf L2 rt.lent x1 0 (-1) (hlk:=Zi)) ?_))))
  rintro _ _ ⟨wa2,wb2,wc2,wd2,we2,wf2,rfl⟩
  exact ie (az (Z2 1 (ZK k (Z0 (ZL ⟨k+1,(L2.grow x1 0 (-1)),wa2,wb2,wc2,wd2,we2,wf2,ob,(Wt.grow Zi),(by simp [Zs.grow];omega),(by rw [Y7 Z3,QQ] at Yq;first|(rw [Ze Zg] at Yq;exact Yq)|(rw [Z8 Zg] at Yq;exact Yq)),rfl,rfl,rfl⟩ (wk [0,6,0,0,0,0,0,0] (ZO k fl)))))))
 refine ax 0 (ZF ?_)
 have hNl:L2=U0 rt:=by rw [<-Yq,Xi om];rfl
 exact ZD (r1 [0,1,1,1,1,1,1] ⟨b2,ka,kb,kc,kd,ke,kf,rfl,rfl⟩ (eq:=(rc (rv (xs:=L2.vars) (by rw [hNl]) (rv (xs:=L2.own) (by rw [hNl]) (rv (xs:=L2.par) (by rw [hNl]) (rv (xs:=L2.con) (by rw [hNl]) (rv (xs:=L2.fst) (by rw [hNl]) (rv (xs:=L2.tok) (by rw [hNl]) rz)))))))))
theorem Z5b (n:Zk) (f0:Nat) (k0:Nat) (rt:Yf) (hz:Uc n:=by exact ob) (hr:n.routines[f0]? = some rt:=by exact ob) (hk0:k0<=rt.body.steps.length:=by exact ob):Zl 81 [Yn n,.i f0,.i k0] [] (fun r h=>(∃(c:Nat) (wa:Hd) (wb:Hd) (wc:Hd) (wd:Hd) (we:Hd) (wf:Hd) (L:Zs) (q:Int),r=.tup [.p c 0,.b true]/\h=[.obj c [.h wa,.h wb,.h wc,.h wd,.h we,.h wf,Z4 rt.lent],rV wa L.vars,rV wb L.own,rV wc L.par,rV wd L.con,rV we L.fst,rV wf L.tok]/\X7 n.decls L q/\L.vars.length=rt.params.length+YZ (rt.body.steps.take k0)/\L.vars.length<=500000000/\rt.lent.length<=4194304)∨(r=.tup [.any,.b false]/\h=[]/\True)):=by
 have hzl:=hz.len
 have hfl:=(Xp.1 hr).1
 have hrm:=Y2 hr
 have hbz:=hz.body _ hrm
 have ZH:=VS rt.body
 have hbe:=rt.body.sz_eq
 obtain ⟨hk,hkv⟩:=IL n.decls rt
 refine ZG 64 Tryz.func81 (ar (iA (YT n) fun b1=>Z0 (Yi 1 [0] (Zz [] (RB n) (XK 12 [1,2,3] [(21,.b ((!XL n)||(!(decide (0<=(f0:Int)/\(f0:Int)<=((n.routines.length:Int)-1))))))] (fun gz=>gz) ?_ (fun hj1=>?_))))))
 ·refine Xo [1,2,3] [(34,.b (((!XL n)||(!(decide (0<=(f0:Int)/\(f0:Int)<=((n.routines.length:Int)-1)))))||(!(decide (0<=(k0:Int)/\(k0:Int)<=(rt.body.steps.length:Int))))))] (fun gz=>gz) ?_ ?_
  ·refine Z2 1 (ib (b:=((!XL n)||(!(decide (0<=(f0:Int)/\(f0:Int)<=((n.routines.length:Int)-1)))))) 22 (fun Zb=>?_) (fun Zb=>?_))
   ·exact Z0 (wk [0] (Zu true Zb fl))
   exact ZM 4 [0] (Zm (Zh none (f0:Int) 5 (Wv hr)) (Z2 3 (iw (VF rt.body.steps) (Zz [] (UI (k0:Int) 0 (rt.body.steps.length:Int)) (Z0 (wk [0] (Zu (!(decide (0<=(k0:Int)/\(k0:Int)<=(rt.body.steps.length:Int)))) Zb fl)))))))
  refine ac (((!XL n)||(!(decide (0<=(f0:Int)/\(f0:Int)<=((n.routines.length:Int)-1)))))||(!(decide (0<=(k0:Int)/\(k0:Int)<=(rt.body.steps.length:Int))))) (p:=((¬(XL n=true))∨(¬(0<=(f0:Int)/\(f0:Int)<=((n.routines.length:Int)-1))))∨(¬(0<=(k0:Int)/\(k0:Int)<=(rt.body.steps.length:Int)))) (Yj (Yj (Yo Iff.rfl) (Yo dq)) (Yo dq)) (fun Za=>?_) (fun Za=>?_)
  ·exact ar (ZP 1 [(35,.agg [.sl [] none,.sl [] none,.sl [] none,.sl [] none,.sl [] none,.sl [] none,.sl [] none])] (iA [.sl [] none,.sl [] none,.sl [] none,.sl [] none,.sl [] none,.sl [] none,.sl [] none] fun b2=>Zq (r2 [] [.p b2 0,.b false] (.inr ⟨rfl,rfl,(by first|exact True.intro|exact ⟨Zi,by rw [show k0=j by omega];exact QA,by omega,hll⟩)⟩) (Zd.tup (.cons (Zd.any _) (.cons (lr _) .nil))))))
  have hV:XL n=true:=Es fun z=>Za (.inl (.inl z))
  obtain ⟨hok,hall⟩:=Dc hz hV
  have hty:=hall rt hrm
  obtain ⟨vs,t0,hvs,hres,hrt0⟩:=EJ hty
  have hpl:=hok.params_at hr
  have hll:=hok.lent_at hr
  refine ak (Zv 3 [0] (Zm (Zh none (f0:Int) 5 (Wv hr)) (Z2 1 (ic [] (Rw rt) ?_))))
  rintro _ _ ⟨c1,wa1,wb1,wc1,wd1,we1,wf1,rfl,rfl⟩
  refine Z0 (Yb (ab 0 (Y4 (fun fz gz m F h=>∃(j:Nat) (q2:Int) (L2:Zs) (ka:Hd) (kb:Hd) (kc:Hd) (kd:Hd) (ke:Hd) (kf:Hd),(j<=k0)/\(X7 n.decls L2 q2)/\(0<=q2/\q2+4*Y8 (rt.body.steps.drop j)<=999999990)/\(L2.vars.length+4*Y8 (rt.body.steps.drop j)<=400000000)/\(XH n (rt.body.steps.drop j) L2.vars=some vs)/\(L2.vars.length=rt.params.length+YZ (rt.body.steps.take j))/\F=sF [1,2,3,8] fz [(9,.i j)]/\h=[.obj c1 [.h ka,.h kb,.h kc,.h kd,.h ke,.h kf,Z4 rt.lent],Zc gz 7,rV ka L2.vars,rV kb L2.own,rV kc L2.par,rV kd L2.con,rV ke L2.fst,rV kf L2.tok]/\m=k0-j) _ _ _ ⟨0,1,(U0 rt),wa1,wb1,wc1,wd1,we1,wf1,ob,hk,(by rw [K1];omega),(by rw [K1,hkv];omega),(by rw [K1,hkv];exact hvs),(by rw [hkv];rfl),rfl,rfl,rfl⟩ (wk [0,6,0,0,0,0,0,0] (Yd fl)) ?_)))
  rintro m F h ⟨j,q2,L2,ka,kb,kc,kd,ke,kf,Yg,Zi,Zw,Yq,XR,QA,rfl,rfl,rfl⟩
  refine X0 (Y0 ((j:Int)<(k0:Int)) (fun Zg=>?_) (fun Zg=>?_))
  ·obtain ⟨s1,hs1⟩:=Zt rt.body.steps j om
   have hss:=Kl hs1
   have hsp:=s1.sz_pos
   have hzd:=RE hs1
   have hdt:=N0 hs1
   have hdr:=Y7 hs1
   rw [hdr] at XR
   obtain ⟨g1,g2⟩:=Ei XR
   refine ak (aq (ab 1 (aD 14 (ZJ 9 14 [0,1,2,3,4] [1,1] (dx 5 (Zh none (f0:Int) 5 (Wv hr)) (Zj 4 8 [6,7,8,9] (dx 10 (Zh none (j:Int) 5 (WD hs1)) (Zj 2 3 [11] (Z7 12 (dc 12 [0,1,1,1,1,1,1] [] [] (OM c1 ka kb kc kd ke kf n s1 L2 rt.lent q2 hok ob Zi g1 om om) ?_))))))))))
   rintro _ _ (⟨wa2,wb2,wc2,wd2,we2,wf2,M'1,rfl,rfl,YE⟩|⟨rfl,rfl,YN⟩)
   ·have hP:=YE
    have kx:=D8 hok Zi Zw.1 g1 hP
    have hsf:=Zbw g1
    exact Zj 0 1 [13] (de (We (ak (az (Z2 1 (ZK j (Z0 (ZL ⟨j+1,(q2+4*s1.sz),M'1,wa2,wb2,wc2,wd2,we2,wf2,ob,kx.1,om,(by rw [kx.2,hsf];split<;>omega),(by rw [kx.2];exact g2),(by rw [kx.2,hsf,hdt];split<;>omega),rfl,rfl,rfl⟩ (wk [0,6,0,0,0,0,0,0] (ZO j fl))))))))))
   exact Zj 0 1 [13] (de (XV (ar (Zq (r2 [] [.p c1 0,.b false] (.inr ⟨rfl,rfl,(by first|exact True.intro|exact ⟨Zi,by rw [show k0=j by omega];exact QA,by omega,hll⟩)⟩) (Zd.tup (.cons (Zd.any _) (.cons (lr _) .nil))))))))
  exact ax 0 (ar (Zq (r2 [0,1,1,1,1,1,1] [.p c1 0,.b true] (.inl ⟨c1,ka,kb,kc,kd,ke,kf,L2,_,rfl,rfl,(by first|exact True.intro|exact ⟨Zi,by rw [show k0=j by omega];exact QA,by omega,hll⟩)⟩) (lr _))))
 refine Z2 2 (ib (b:=(!XL n)) 13 (fun ZA=>?_) (fun ZA=>?_))
 ·exact Z2 8 (Yu (wk [0] (Zu true ZA fl)) hj1)
 exact ZM 3 [0] (iw (Uq n.routines) (ia (((n.routines.length:Int)-1)) (((n.routines.length:Int))-(1)) (Zz [] (UI (f0:Int) 0 ((n.routines.length:Int)-1)) (Z2 2 (Yu (wk [0] (Zu (!(decide (0<=(f0:Int)/\(f0:Int)<=((n.routines.length:Int)-1)))) ZA fl)) hj1)))))
theorem Fs (b:Z9) (i0:Nat) (s:Z5) (hi:i0<=b.steps.length:=by exact ob) (hz:b.sz<=100000000:=by exact ob):Zl 145 [ZZ b,.i i0,YG s] [] (Yv (ZZ (Z9.mk (WA b.steps i0 s) b.result))):=by
 have ZH:=VS b
 exact ZG 26 Tryz.func145 (ar (iA (Xk b) fun b1=>iA (Xv s) fun b2=>iA [nl,.i 0] fun b3=>ie (ar (iL (Zy []) 0 5 fun v1=>ZM 3 [3] (Zm (KW (es:=Zy b.steps) (hv:=none) (l:=0) (m:=(i0:Int)) (sz:=5) (es':=Zy (b.steps.take i0)) kr om (by simp<;>omega) (by simp<;>omega) (Xj _) (by first|(simp only [VT,VA,KC,KA];done)|(simp only [VT,VA,KC,KA];rfl)|(simp [KC,KA];done))) (ip 0 (Zy (b.steps.take i0)) (Zy []) (Zy (b.steps.take i0)) v1 none 5 (Xj _) (Xj _) (VW _) (by simp<;>omega) (by simp [VG]) fun v2=>Z0 (aD 13 (ZJ 8 13 [0,1,4,5,6] [2,3] (dx 7 (KW (es:=Zy b.steps) (hv:=none) (l:=(i0:Int)) (m:=(((Zy b.steps).length:Nat):Int)) (sz:=5) (es':=Zy (b.steps.drop i0)) kr om (by simp<;>omega) (by simp<;>omega) (Xj _) (by first|(simp only [VT,VA,KC,KA];done)|(simp only [VT,VA,KC,KA];rfl)|(simp [KC,KA];done))) (ZJ 5 7 [9,10] [3] (Z7 2 (dL 2 [2,2] [b1,b1] [YG s] 1 5 fun v3=>Yr 4 4 [] [(16,.sl [YG s] none)] (Z7 3 (dp 3 1 [2,2] [b1,b1] (Zy ((b.steps.take i0)++[s])) (Zy (b.steps.take i0)) [YG s] v2 none 5 (Xj _) (Qk rfl) rfl (by simp<;>omega) (by simp [WW,VG]) fun v4=>Z7 8 (dp 8 0 [2] [b1] (Zy (WA b.steps i0 s)) (Zy ((b.steps.take i0)++[s])) (Zy (b.steps.drop i0)) v4 none 5 (Xj _) (Xj _) (VW _) (by simp<;>omega) (by simp only [WA,WW]) fun v5=>Zj 1 2 [11] (Z7 12 (YJ 12 2 [] [] b3 [YY (WA b.steps i0 s) v5,.i b.result] (de (ZD (r3 [] [.agg [YY (WA b.steps i0 s) v5,.i b.result]] [0] [(b3,b3)] ⟨rfl,rfl⟩ (Zd.agg (.cons (Zd.sl _ (Ym Zy rfl)) (.cons li .nil)))))))))))))))))))))))
theorem Ib (n:Zk) (f0:Nat) (b:Z9) (rt:Yf) (hr:n.routines[f0]? = some rt:=by exact ob) (hl:n.routines.length<=1000000:=by exact ob) (hp:rt.params.length<=4294967296:=by exact ob) (hl2:rt.lent.length<=4294967296:=by exact ob):Zl 111 [Yn n,.i f0,ZZ b] [] (fun r h=>∃(g:Nat) (c:Nat),r=.agg [ZU n.decls,.ms g 0 n.routines.length c]/\h=[.row (.slice (some ⟨g,0,none⟩) n.routines.length c) 5 (Zo (YP (n.routines.set f0 (Yf.mk rt.params rt.lent rt.result b))))]):=by
 have hfl:=(Xp.1 hr).1
 refine ZG 26 Tryz.func111 (ar (iA (YT n) fun b1=>iA (Xk b) fun b2=>iA [nl,nl] fun b3=>ie (ar (DP 5 fun g1=>ZM 2 [3] (NZ 0 g1 5 (YP n.routines) none (UT _) (by simp<;>omega) fun v1=>Fz 0 n.routines.length (v:=v1) (Fh _) om (fun g2 c1 he1=>?_))))))
 subst he1
 exact Z0 (aD 11 (ZJ 6 11 [0,1,2,3,4] [3] (dx 5 (Zh none (f0:Int) 5 (Wv hr)) (ZJ 3 5 [6,7] [2] (Z7 8 (Yp 8 [] [] [] (D5 rt b) (dx 9 (Wp g2 n.routines.length c1 f0 5 (f0:Int)) (Z7 10 (BG 10 0 [] [] g2 n.routines.length c1 5 (f0*5) (KM (Yf.mk rt.params rt.lent rt.result b)) (Zo (YP n.routines)) (Zo (YP (n.routines.set f0 (Yf.mk rt.params rt.lent rt.result b)))) (by rw [Fh];simp only [YR,Xu];omega) (Z43 (Yf.mk rt.params rt.lent rt.result b) hfl) (de (Zv 4 [3] (ZI 1 b3 [ZU n.decls,.ms g2 0 n.routines.length c1] (ie (ZD (r3 [1] [.agg [ZU n.decls,.ms g2 0 n.routines.length c1]] [0] [(b3,b3)] ⟨g2,c1,rfl,rfl⟩ (lr _))))))))))))))))
theorem NO (n:Zk) (f0:Nat) (b:Z9) (rt:Yf) (hr:n.routines[f0]? = some rt:=by exact ob) (hl:n.routines.length<=1000000:=by exact ob) (hp:rt.params.length<=4294967296:=by exact ob) (hl2:rt.lent.length<=4294967296:=by exact ob):Zl 111 [Yn n,.i f0,ZZ b] [] (Yv (Yn (withR n f0 rt b))):=(Ww.frzN (ds:=n.decls) (rs:=(n.routines.set f0 (Yf.mk rt.params rt.lent rt.result b))) (hs:=[]) ((Ib n f0 b rt hr hl hp hl2).mono fun r h ⟨g,c,e1,e2⟩=>⟨g,c,by rw [e1];simp only [Uw],by rw [e2];simp only [Uw]⟩))
theorem JD (rd:Nat) (bs:LI) (p:Nat) (mx:Nat) (ZH:∀z∈bs,0<=z/\z<=255) (hp:p+1<=1000000000:=by exact ob) (hmx:0<mx:=by exact ob):Zl 79 [.p rd 0,.i mx] [Yx rd bs p] (fun r h=>∃(kn:Nat),r=.i kn/\h=[.obj rd [U9 bs,.i (p+1:Nat)]]/\kn<mx):=(W2 rd bs p mx ZH hp).mono fun r h ⟨z,hr,hh,hz⟩=>by
  have h0:=hz.lt om
  exact ⟨z.toNat,by rw [hr,Int.toNat_of_nonneg h0.1],hh,by omega⟩
theorem NG (rd:Nat) (bs:LI) (p:Nat) (n:Zk) (ZH:∀z∈bs,0<=z/\z<=255) (hp:p+4<=1000000000:=by exact ob) (hz:Uc n:=by exact ob) (hl1:1<=n.routines.length/\n.routines.length<=1000000:=by exact ob):Zl 116 [.p rd 0,Yn n] [Yx rd bs p] (fun r h=>∃(n2:Zk) (p2:Nat),r=Yn n2/\h=[Yx rd bs p2]/\H4 n n2/\p<=p2/\p2<=p+4):=by
 refine ZG 102 Tryz.func116 (ar (iA (YT n) fun b1=>iA [nl,nl] fun b2=>ie (Zv 3 [1] (iw (Uq n.routines) (ic [2] (JD rd bs p n.routines.length (ZH:=ob)) ?_)))))
 rintro _ _ ⟨YF,rfl,rfl,ZW⟩
 refine Z0 (Zv 3 [2] ?_)
 obtain ⟨x1,Z3⟩:=Zt n.routines YF om
 have hrm:=Y2 Z3
 have hbz:=hz.body _ hrm
 have ZH:=VS (x1).body
 have hpl:=hz.params _ hrm
 have hll:=hz.lent _ hrm
 have hrx:=Z3
 refine Zm (Zh none (YF:Int) 5 (Wv Z3)) (Z2 2 (iA [nl,.i 0] fun b3=>ZI 0 b3 (Xk x1.body) (ie (Zv 3 [0] (iw (VF x1.body.steps) (ia (((x1.body.steps.length+1:Nat):Int)) (((x1.body.steps.length:Int))+(1)) (ic [1] (JD rd bs (p+1) (x1.body.steps.length+1) (ZH:=ob)) ?_)))))))
 rintro _ _ ⟨X3,rfl,rfl,Yh⟩
 refine Z0 (Zv 3 [3] (ic [] (Z5b n YF X3 x1 (hr:=hrx)) ?_))
 rintro _ _ (⟨c1,wa1,wb1,wc1,wd1,we1,wf1,L1,q1,rfl,rfl,YE⟩|⟨rfl,rfl,YN⟩)
 ·obtain ⟨hLO,hLv,hLb,hLl⟩:=YE
  have hLn:=hLO.len
  obtain ⟨e1,e2,e3,e4,e5⟩:=hLO.len
  refine Z0 (Yb (We (ak (ar (iL (Z6 []) 0 1 fun v1=>?_)))))
  refine Z0 (Yb (ab 0 (Y4 (fun fz gz m F h=>∃(k:Nat) (vl:LI) (u:Value),(k<=L1.vars.length)/\(vl.length<=k)/\(∀v∈vl,0<=v/\v<(L1.vars.length:Int))/\F=sF [0,3,4,5,6,7,8] fz [(10,ZT vl u),(11,.i k)]/\h=[Zc gz 1,Zc gz 2,Zc gz 3,Zc gz 4,Zc gz 5,Zc gz 6,Zc gz 7,Zc gz 8,Zc gz 9,Zc gz 10,Zc gz 11,.tail u 1]/\m=L1.vars.length-k) _ _ _ ⟨0,[],v1,ob,ob,(fun v hv=>by cases hv),rfl,rfl,rfl⟩ (wk [1,1,1,1,1,1,1,1,1,1,1,0] (fr (Yd fl))) ?_)))
  rintro m F h ⟨k,vl,u,Yg,Zi,Zw,rfl,rfl,rfl⟩
  refine Yi 5 [0] (Zm (J0 1 wa1 L1.vars) (Y0 ((k:Int)<(L1.vars.length:Int)) (fun Za=>?_) (fun Za=>?_)))
  ·refine ak (aq (ab 1 (Zv 5 [0] (Zm (Wo 1 wa1 L1.vars (k:Int) k) ?_))))
   obtain ⟨x2,Zr⟩:=Zt L1.vars k om
   refine V6 (VQ 1 wa1 L1.vars k x2 Zr) (Z2 2 (ib (b:=(x2 != 0)) 59 (fun Zb=>?_) (fun Zb=>?_)))
   ·refine Z2 2 (Zz [0,0,0,0,0,0,0] (FP c1 wa1 wb1 wc1 wd1 we1 wf1 L1 x1.lent (k:Int) (hlk:=hLO.len) (hd:=hLO.down)) (YB (Wh L1 x1.lent (k:Int)) Iff.rfl (fun Zg=>?_) (fun Zg=>?_)))
    ·exact az (Z2 2 (iL (Z6 [(k:Int)]) 1 1 fun v2=>ZP 0 [(66,Z4 [(k:Int)])] (ip 12 (Z6 (vl++[(k:Int)])) (Z6 vl) (Z6 [(k:Int)]) u none 1 (YA _) (YA _) (W6 _) (by simp<;>omega) (by simp [W5,Z6]) fun v3=>Z0 (az (Z2 1 (ZK k (Z0 (ZL ⟨k+1,(vl++[(k:Int)]),v3,ob,ob,(by first|exact Zw|exact Xz Zw om),rfl,rfl,rfl⟩ (wk [2,2,2,2,2,2,2,2,2,2,2,0] (fr (ZO k fl)))))))))))
    exact ak (az (Z2 1 (ZK k (Z0 (ZL ⟨k+1,vl,u,ob,ob,(by first|exact Zw|exact Xz Zw om),rfl,rfl,rfl⟩ (ZE 12 (fr (ZO k fl))))))))
   exact Z0 (We (ak (az (Z2 1 (ZK k (Z0 (ZL ⟨k+1,vl,u,ob,ob,(by first|exact Zw|exact Xz Zw om),rfl,rfl,rfl⟩ (ZE 12 (fr (ZO k fl))))))))))
  refine ax 0 (YL 1 (iw (Y6 vl) (YB ((vl.length:Int)==0) Zp (fun ZC=>?_) (fun ZC=>?_))))
  ·exact Zv 1 [10] (ZI 9 b2 (YT n) (ie (ZD (r3 [8] [Yn n] [0] [(b2,b2)] ⟨n,(p+1)+1,rfl,rfl,(by first|exact ⟨.inl rfl,by omega,by omega⟩|(have hv:=Zw x3 (Y2 YI);exact ⟨.inr ⟨YF,x1,X3,X3+Q9,x3,hrx,by omega,by omega,hv.1,by omega,rfl⟩,by omega,by omega⟩))⟩ (lr _)))))
  refine ak (Y5 3 (iw (Y6 vl) (ic [7] (JD rd bs ((p+1)+1) vl.length (ZH:=ob)) ?_)))
  rintro _ _ ⟨OF,rfl,rfl,Wn⟩
  obtain ⟨x3,YI⟩:=Zt vl OF om
  refine Zm (Zh (some u) (OF:Int) 1 (ZY YI)) (Z0 (Zv 4 [8] (iw (VF x1.body.steps) (Z2 1 (ia ((((x1.body.steps.length-X3):Nat):Int)) (((x1.body.steps.length:Int))-((X3:Int))) (ia ((((x1.body.steps.length-X3)+1:Nat):Int)) (((((x1.body.steps.length-X3):Nat):Int))+(1)) (ic [0] (JD rd bs (((p+1)+1)+1) ((x1.body.steps.length-X3)+1) (ZH:=ob)) ?_)))))))
  rintro _ _ ⟨Q9,rfl,rfl,WL⟩
  exact ia (((X3+Q9:Nat):Int)) (((X3:Int))+((Q9:Int))) (Z0 (aD 6 (ZJ 3 6 [0,1,2] [8] (Z7 3 (Yp 3 [] [2] [b3] (JJ 15 x3) (Z7 4 (Yp 4 [] [] [] (Fs x1.body (X3+Q9) (Zx 15 x3) (hi:=(by first|omega|(show X3<=(WA _ _ _).length;rw [Pz om];omega))) (hz:=(by first|omega|(rw [Z9.sz,E9];have e:(Zx 15 x3).sz=2:=rfl;have e2:=x1.body.sz_eq;omega)))) (Z7 5 (YJ 5 8 [] [] b3 (Xk (Z9.mk (WA x1.body.steps (X3+Q9) (Zx 15 x3)) x1.body.result)) (de (aD 9 (ZJ 4 9 [0,1,2,3,4] [10,0] (Z7 5 (Yp 5 [] [0,4] [b3,b1] (JJ 14 x3) (Z7 6 (Yp 6 [] [4] [b1] (Fs (Z9.mk (WA x1.body.steps (X3+Q9) (Zx 15 x3)) x1.body.result) X3 (Zx 14 x3) (hi:=(by first|omega|(show X3<=(WA _ _ _).length;rw [Pz om];omega))) (hz:=(by first|omega|(rw [Z9.sz,E9];have e:(Zx 15 x3).sz=2:=rfl;have e2:=x1.body.sz_eq;omega)))) (Z7 7 (Yp 7 [] [] [] (NO n YF (Z9.mk (WA (Z9.mk (WA x1.body.steps (X3+Q9) (Zx 15 x3)) x1.body.result).steps X3 (Zx 14 x3)) (Z9.mk (WA x1.body.steps (X3+Q9) (Zx 15 x3)) x1.body.result).result) x1 (hr:=hrx)) (Z7 8 (YJ 8 9 [] [] b2 (YT (withR n YF x1 (Z9.mk (WA (Z9.mk (WA x1.body.steps (X3+Q9) (Zx 15 x3)) x1.body.result).steps X3 (Zx 14 x3)) (Z9.mk (WA x1.body.steps (X3+Q9) (Zx 15 x3)) x1.body.result).result))) (de (ZD (r3 [2] [Yn (withR n YF x1 (Z9.mk (WA (Z9.mk (WA x1.body.steps (X3+Q9) (Zx 15 x3)) x1.body.result).steps X3 (Zx 14 x3)) (Z9.mk (WA x1.body.steps (X3+Q9) (Zx 15 x3)) x1.body.result).result))] [0] [(b2,b2)] ⟨(withR n YF x1 (Z9.mk (WA (Z9.mk (WA x1.body.steps (X3+Q9) (Zx 15 x3)) x1.body.result).steps X3 (Zx 14 x3)) (Z9.mk (WA x1.body.steps (X3+Q9) (Zx 15 x3)) x1.body.result).result)),(((p+1)+1)+1)+1,rfl,rfl,(by first|exact ⟨.inl rfl,by omega,by omega⟩|(have hv:=Zw x3 (Y2 YI);exact ⟨.inr ⟨YF,x1,X3,X3+Q9,x3,hrx,by omega,by omega,hv.1,by omega,rfl⟩,by omega,by omega⟩))⟩ (lr _))))))))))))))))))))))))
 exact Z0 (Yb (XV (Zv 1 [3] (ZI 2 b2 (YT n) (ie (ZD (r3 [1] [Yn n] [0] [(b2,b2)] ⟨n,(p+1)+1,rfl,rfl,(by first|exact ⟨.inl rfl,by omega,by omega⟩|(have hv:=Zw x3 (Y2 YI);exact ⟨.inr ⟨YF,x1,X3,X3+Q9,x3,hrx,by omega,by omega,hv.1,by omega,rfl⟩,by omega,by omega⟩))⟩ (lr _))))))))
theorem Zcy (b:Z9) (hz:b.sz<=1000000000:=by exact ob):Zl 250 [ZZ b] [] (Yv (.i (((XT b.steps):Nat):Int))):=by
 have hbz:=VS b
 refine ZG 20 Tryz.func250 (ar (iA (Xk b) fun b1=>?_))
 refine Z0 (ZF (aq (ab 0 (Y4 (fun fz gz m F h=>∃(k:Nat),(k<=b.steps.length)/\(k+XT (b.steps.drop k)=XT b.steps)/\F=sF [1] fz [(3,.i k)]/\h=gz/\m=b.steps.length-k) _ _ _ ⟨0,ob,(by simp),rfl,rfl,rfl⟩ (wk [0] (Yd fl)) ?_))))
 rintro m F h ⟨k,Yg,Zi,rfl,rfl,rfl⟩
 refine Yi 3 [0] (iw (VF b.steps) (Z2 2 (ib (b:=(decide ((k:Int)<(b.steps.length:Int)))) 9 (fun Zb=>?_) (fun Zb=>?_))))
 ·have ZW:(k:Int)<(b.steps.length:Int):=(dq).1 Zb
  refine ZM 3 [0] ?_
  obtain ⟨x1,Z3⟩:=Zt b.steps k om
  refine Zm (Zh none (k:Int) 5 (WD Z3)) (Z2 1 (Zz [] (Ru x1) (YB ((x1.op==14)||(x1.op==15)) (p:=(x1.op=14)∨(x1.op=15)) (Yj Zp Zp) (fun Za=>?_) (fun Za=>?_))))
  ·exact ak (ab 1 (az (Z2 1 (ZK k (Z0 (ZL ⟨k+1,ob,(Zbf Z3 Za Zi),rfl,rfl,rfl⟩ (wk [0] (ZO k fl))))))))
  exact ax 0 (ar (Zq (Y1 (.i k) (li (by have:=Zbg Z3 Za Zi;omega)))))
 have Yh:¬((k:Int)<(b.steps.length:Int)):=Ya dq Zb
 exact Z0 (We (ax 0 (ar (Zq (Y1 (.i k) (li (by have:=Zbe om Zi;omega)))))))
theorem Rn (b:Z9) (mm:Nat) (op:Int) (hm:mm<=b.steps.length:=by exact ob) (ha:∀s∈b.steps.take mm,s.op=op->∃a,s.args=[a]) (hz:b.sz<=1000000000:=by exact ob):Zl 251 [ZZ b,.i mm,.i op] [] (fun r h=>∃(v:Value),r=ZT (WB op (b.steps.take mm)) v/\h=[.tail v 1]):=by
 have hbz:=VS b
 refine ZG 35 Tryz.func251 (ar (iA (Xk b) fun b1=>Z0 (ar (iL (Z6 []) 0 1 fun v1=>?_))))
 refine Z0 (Yb (ab 0 (Y4 (fun fz gz m F h=>∃(k:Nat) (acc:LI) (v:Value),(k<=mm)/\(acc.length<=k)/\(acc++WB op ((b.steps.take mm).drop k)=WB op (b.steps.take mm))/\F=sF [1,2,3] fz [(7,ZT acc v),(8,.i k)]/\h=[Zc gz 1,.tail v 1]/\m=mm-k) _ _ _ ⟨0,[],v1,ob,ob,(by simp),rfl,rfl,rfl⟩ (wk [1,0] (fr (Yd fl))) ?_)))
 rintro m F h ⟨k,acc,v,Yg,Zi,Zw,rfl,rfl,rfl⟩
 refine X0 (Y0 ((k:Int)<(mm:Int)) (fun Za=>?_) (fun Za=>?_))
 ·refine ak (aq (ab 1 (Zv 3 [0] ?_)))
  obtain ⟨x1,Z3⟩:=Zt b.steps k om
  have hxt:(b.steps.take mm)[k]? = some x1:=by rw [List.getElem?_take_of_lt om];exact Z3
  have hxm:=Y2 hxt
  refine Zm (Zh none (k:Int) 5 (WD Z3)) (YB (x1.op==op) Zp (fun Zg=>?_) (fun Zg=>?_))
  ·refine az (ZM 4 [0] (Zm (Zh none (k:Int) 5 (WD Z3)) (Z2 2 ?_)))
   obtain ⟨x2,Zr⟩:=Zt x1.args 0 (by obtain ⟨a,ha2⟩:=ha x1 hxm Zg;rw [ha2];simp)
   have hg0:=Jf Zr
   exact Zm (Zh none 0 1 (ZY Zr)) (Z2 1 (iL (Z6 [x2]) 1 1 fun v2=>ZP 0 [(32,Z4 [x2])] (ip 2 (Z6 (acc++[x2])) (Z6 acc) (Z6 [x2]) v none 1 (YA _) (YA _) (W6 _) (by simp<;>omega) (by simp [W5,Z6]) fun v3=>Z0 (az (Z2 1 (ZK k (Z0 (ZL ⟨k+1,(acc++[x2]),v3,ob,(by simp;omega),(by have h:=Z0a hxt Zg Zw;rw [hg0] at h;exact h),rfl,rfl,rfl⟩ (wk [2,0] (fr (ZO k fl)))))))))))
  exact ak (az (Z2 1 (ZK k (Z0 (ZL ⟨k+1,acc,v,ob,ob,(Z09 hxt Zg Zw),rfl,rfl,rfl⟩ (wk [0,0] (fr (ZO k fl))))))))
 exact ax 0 (ar (Zq (r2 [1] [ZT acc v] ⟨v,rfl,rfl⟩ (Zd.slh _ (Ym Z6 (Z08 (by rw [WH];omega) Zw))))))
theorem RC (xs:LI) (y:Int) (hl:xs.length<=1000000000:=by exact ob):Zl 252 [Z4 xs,.i y] [] (fun r h=>∃(v:Value),r=ZT (xs.erase y) v/\h=[.tail v 1]):=by
 refine ZG 33 Tryz.func252 (ZF (ar (iL (Z6 []) 0 1 fun v1=>?_)))
 refine Z0 (ZF (Yb (ab 0 (Y4 (fun fz gz m F h=>∃(k:Nat) (acc:LI) (d:Bool) (v:Value),(k<=xs.length)/\(acc.length<=k)/\(acc++(if d=true then xs.drop k else (xs.drop k).erase y)=xs.erase y)/\F=sF [0,1] fz [(5,ZT acc v),(6,.b d),(7,.i k)]/\h=[.tail v 1]/\m=xs.length-k) _ _ _ ⟨0,[],false,v1,ob,ob,(by simp),rfl,rfl,rfl⟩ (wk [0] (fw (Yd fl))) ?_))))
 rintro m F h ⟨k,acc,d,v,Yg,Zi,Zw,rfl,rfl,rfl⟩
 refine YL 2 (iw (Y6 xs) (Y0 ((k:Int)<(xs.length:Int)) (fun Za=>?_) (fun Za=>?_)))
 ·refine ak (aq (ab 1 (Y5 2 ?_)))
  obtain ⟨x1,Z3⟩:=Zt xs k om
  refine Zm (Zh none (k:Int) 1 (ZY Z3)) (Xo [0,1,5,6,7] [(24,.b ((x1==y)&&(!d)))] (fun gz=>gz) ?_ ?_)
  ·refine Z2 4 (ib (b:=(x1==y)) 21 (fun Zb=>?_) (fun Zb=>?_))
   ·exact Z0 (wk [0] (Zu (!d) Zb fl))
   exact Z0 (wk [0] (Zu false Zb fl))
  refine Jv (fun fz gz F h=>∃(w:Value),F=sF [0,1,7] fz [(5,ZT (if (x1=y)/\(¬(d=true)) then acc else (acc++[x1])) w),(6,.b (((x1==y)&&(!d))||d))]/\h=[.tail w 1]) (fun _ _=>rfl) ?_ ?_
  ·refine ac ((x1==y)&&(!d)) (p:=(x1=y)/\(¬(d=true))) (YH Zp (Yo Iff.rfl)) (fun Zg=>?_) (fun Zg=>?_)
   ·exact UW (ZQ ⟨v,rfl,rfl⟩ (wk [0] (fc (x:=ZT acc v) (Zd.slh _ (Ym Z6 (by first|rfl|(rw [Ze Zg])|(rw [Z8 Zg])|(simp [Zg];done)|(rw [Xs];simp [Zg];done)|omega))) (fc (x:=.b true) (lb (by first|rfl|(rw [Ze Zg])|(rw [Z8 Zg])|(simp [Zg];done)|(rw [Xs];simp [Zg];done)|omega)) fl))))
   exact az (Z2 3 (Zm (Zh none (k:Int) 1 (ZY Z3)) (Z2 1 (iL (Z6 [x1]) 1 1 fun v2=>ZP 0 [(30,Z4 [x1])] (ip 1 (Z6 (acc++[x1])) (Z6 acc) (Z6 [x1]) v none 1 (YA _) (YA _) (W6 _) (by simp<;>omega) (by simp [W5,Z6]) fun v3=>Z0 (ZQ ⟨v3,rfl,rfl⟩ (wk [0] (fc (x:=ZT (acc++[x1]) v3) (Zd.slh _ (Ym Z6 (by first|rfl|(rw [Ze Zg])|(rw [Z8 Zg])|(simp [Zg];done)|(rw [Xs];simp [Zg];done)|omega))) (fc (x:=.b d) (lb (by cases d<;>simp_all)) fl)))))))))
  rintro F h ⟨w,rfl,rfl⟩
  exact az (Z2 1 (ZK k (Z0 (ZL ⟨k+1,(if (x1=y)/\(¬(d=true)) then acc else (acc++[x1])),(((x1==y)&&(!d))||d),w,ob,(by split<;>(try simp)<;>omega),(Z3q Z3 Zw),rfl,rfl,rfl⟩ (wk [0] (fw (ZO k fl)))))))
 exact ax 0 (ar (Zq (r2 [0] [ZT acc v] ⟨v,rfl,rfl⟩ (Zd.slh _ (Ym Z6 (Z3p om Zw))))))
theorem Zcr (b:Z9) (x:Int) (fs:LI) (q:Nat) (ha:∀s∈b.steps,YC s.op=true->∃a,s.args=[a]) (hf:fs.length<=3:=by exact ob) (hq:q<=1000000000:=by exact ob) (hz:b.sz<=900000000:=by exact ob):Zl 198 [ZZ b,.i x,Z4 fs,.i q] [] (Yv (ZZ (Jq b x fs q))):=by
 have hbz:=VS b
 have hrl:=Gi b.steps
 have hal:=Hg (b.steps.take (XT b.steps))
 rw [WH] at hal
 have her:=List.length_erase_le (a:=x) (l:=WB 15 (b.steps.take (XT b.steps)))
 have har:∀op:Int,YC op=true->∀s∈b.steps.take (XT b.steps),s.op=op->∃a,s.args=[a]:=fun op ho s hs e=>ha s (TX hs) (by rw [e];exact ho)
 refine ZG 88 Tryz.func198 (ar (iA (Xk b) fun b1=>iA [nl,.i 0] fun b2=>ie (Zv 1 [1] (Zz [] (Zcy b) (Z0 (Zv 2 [1] (ic [] (Rn b (XT b.steps) 14 (ha:=(har _ rfl))) ?_)))))))
 rintro _ _ ⟨v1,rfl,rfl⟩
 refine Z0 (Zv 2 [2] (ic [] (Rn b (XT b.steps) 15 (ha:=(har _ rfl))) ?_))
 rintro _ _ ⟨v2,rfl,rfl⟩
 refine Z0 (X0 (ZP 2 [(22,Z4 (WB 15 (b.steps.take (XT b.steps))))] (Zz [] (UJ (WB 15 (b.steps.take (XT b.steps))) x) (Xo [1,2,3,4,8,9,10,11] [(30,.b ((!(decide (x∈(WB 15 (b.steps.take (XT b.steps))))))||((fs.length:Int)==0)))] (fun gz=>gz) ?_ ?_))))
 ·refine Z2 2 (ib (b:=(!(decide (x∈(WB 15 (b.steps.take (XT b.steps))))))) 26 (fun Zb=>?_) (fun Zb=>?_))
  ·exact Z0 (ZE 4 (Zu true Zb fl))
  exact Z2 1 (iw (Y6 fs) (Z0 (ZE 4 (Zu ((fs.length:Int)==0) Zb fl))))
 refine ac ((!(decide (x∈(WB 15 (b.steps.take (XT b.steps))))))||((fs.length:Int)==0)) (p:=(¬(x∈(WB 15 (b.steps.take (XT b.steps)))))∨((fs.length:Int)=0)) (Yj (Yo dq) Zp) (fun Za=>?_) (fun Za=>?_)
 ·exact Zv 1 [3] (ZI 2 b2 (Xk b) (ie (ZD (r3 [] [ZZ b] [0] [(b2,b2)] ⟨rfl,rfl⟩ (Zd.agg (.cons (Zd.sl _ (Ym Zy (SY (fun z=>Za.elim (fun e=>e z.1) (fun e=>z.2 om))).symm)) (.cons li .nil)))))))
 refine ak (ar (ZP 2 [(32,Z4 (WB 15 (b.steps.take (XT b.steps))))] (ic [] (RC (WB 15 (b.steps.take (XT b.steps))) x) ?_)))
 rintro _ _ ⟨v3,rfl,rfl⟩
 refine Z0 (Yb (ab 0 (Y4 (fun fz gz m F h=>∃(k:Nat) (D:LI) (R:LI) (v:Value),(k<=fs.length)/\(D.length<=b.steps.length)/\(R.length<=b.steps.length+k)/\(UZ (fs.drop k) (q+k) D R=Aj b.steps x fs q)/\F=sF [1,2,3,4,8,9] fz [(10,Z4 D),(11,ZT R v),(12,.i k)]/\h=[Zc gz 3,Zc gz 4,.tail v 1]/\m=fs.length-k) _ _ _ ⟨0,(WB 14 (b.steps.take (XT b.steps))),((WB 15 (b.steps.take (XT b.steps))).erase x),v3,ob,om,om,(by simp [Aj]),rfl,rfl,rfl⟩ (wk [3,3,0] (fc (x:=ZT (WB 14 (b.steps.take (XT b.steps))) v1) (Zd.forget _ _) (fr (Yd fl)))) ?_)))
 rintro m F h ⟨k,D,R,v,Yg,Zi,Zw,Yq,rfl,rfl,rfl⟩
 refine YL 2 (iw (Y6 fs) (Y0 ((k:Int)<(fs.length:Int)) (fun Zg=>?_) (fun Zg=>?_)))
 ·refine ak (aq (ab 1 (Y5 2 ?_)))
  obtain ⟨x1,Z3⟩:=Zt fs k om
  refine Zm (Zh none (k:Int) 1 (ZY Z3)) (Xo [1,2,3,4,8,9,10,11,12] [(52,.b ((x1 != 0)&&(decide (((q+k:Nat):Int)∈D))))] (fun gz=>gz) ?_ ?_)
  ·refine Z2 3 (ib (b:=(x1 != 0)) 46 (fun ZA=>?_) (fun ZA=>?_))
   ·exact Z2 3 (ia (((q+k:Nat):Int)) (((q:Int))+((k:Int))) (Zz [] (UJ D ((q+k:Nat):Int)) (Z0 (ZE 3 (Zu (decide (((q+k:Nat):Int)∈D)) ZA fl)))))
   exact Z0 (ZE 3 (Zu false ZA fl))
  refine Jv (fun fz gz F h=>∃(D2:LI) (R2:LI) (w:Value),(UZ (fs.drop (k+1)) (q+((k+1:Nat):Int)) D2 R2=Aj b.steps x fs q)/\(D2.length<=b.steps.length)/\(R2.length<=b.steps.length+(k+1))/\F=sF [1,2,3,4,8,9,12] fz [(10,Z4 D2),(11,ZT R2 w)]/\h=[Zc gz 0,Zc gz 1,.tail w 1]) (fun _ _=>rfl) ?_ ?_
  ·refine ac ((x1 != 0)&&(decide (((q+k:Nat):Int)∈D))) (p:=(x1≠0)/\(((q+k:Nat):Int)∈D)) (YH Yl dq) (fun ZC=>?_) (fun ZC=>?_)
   ·refine az (Z2 3 (ia (((q+k:Nat):Int)) (((q:Int))+((k:Int))) (ic [] (RC D ((q+k:Nat):Int)) ?_)))
    rintro _ _ ⟨v4,rfl,rfl⟩
    exact Z0 (ZQ ⟨(D.erase ((q+k:Nat):Int)),R,v,(Za8 Z3 ZC.1 ZC.2 Yq),(VK List.length_erase_le Zi),ob,rfl,rfl⟩ (wk [1,1,1] fl))
   refine Y5 2 (Zm (Zh none (k:Int) 1 (ZY Z3)) (YB (x1 != 0) Yl (fun Ye=>?_) (fun Ye=>?_)))
   ·exact az (Z2 3 (ia (((q+k:Nat):Int)) (((q:Int))+((k:Int))) (iL (Z6 [((q+k:Nat):Int)]) 1 1 fun v5=>ZP 0 [(67,Z4 [((q+k:Nat):Int)])] (ip 3 (Z6 (R++[((q+k:Nat):Int)])) (Z6 R) (Z6 [((q+k:Nat):Int)]) v none 1 (YA _) (YA _) (W6 _) (by simp<;>omega) (by simp [W5,Z6]) fun v6=>Z0 (ZQ ⟨D,(R++[((q+k:Nat):Int)]),v6,(Za9 Z3 Ye (fun z=>ZC ⟨Ye,z⟩) Yq),ob,(by simp;omega),rfl,rfl⟩ (wk [2,2,0] fl))))))
   exact ak (ZQ ⟨D,R,v,(Zaa Z3 Ye Yq),ob,ob,rfl,rfl⟩ (ZE 3 fl))
  rintro F h ⟨D2,R2,w,CM,CN,Ol,rfl,rfl⟩
  exact az (Z2 1 (ZK k (Z0 (ZL ⟨k+1,D2,R2,w,ob,ob,ob,ob,rfl,rfl,rfl⟩ (ZE 3 (fw (ZO k fl)))))))
 refine ax 0 (Y5 1 (ic [] (Kk 14 D) ?_))
 rintro _ _ ⟨v7,rfl,rfl⟩
 refine Z2 1 (Zz [] (JJ 16 x) (iL [YG (Zx 16 x)] 1 5 fun v8=>ZP 0 [(73,.sl [YG (Zx 16 x)] none)] (ip 1 (Zy ((D.map (Zx 14))++[Zx 16 x])) (Zy (D.map (Zx 14))) [YG (Zx 16 x)] v7 none 5 (Xj _) (Qk rfl) rfl (by simp<;>omega) (by simp [WW,VG]) fun v9=>Z0 (ar (ZP 2 [(76,Z4 R)] (ic [] (Kk 15 R) ?_))))))
 rintro _ _ ⟨v10,rfl,rfl⟩
 refine ZP 0 [(77,Wz (R.map (Zx 15)))] (ip 1 (Zy (((D.map (Zx 14))++[Zx 16 x])++(R.map (Zx 15)))) (Zy ((D.map (Zx 14))++[Zx 16 x])) (Zy (R.map (Zx 15))) v9 none 5 (Xj _) (Xj _) (VW _) (by simp<;>omega) (by simp [WW,Zy]) fun v11=>Z0 (aD 10 (ZJ 6 10 [0,1,2,3] [4] (dx 4 (KW (es:=Zy b.steps) (hv:=none) (l:=(((XT b.steps):Nat):Int)) (m:=(((Zy b.steps).length:Nat):Int)) (sz:=5) (es':=Zy (b.steps.drop (XT b.steps))) kr om (by simp<;>omega) (by simp<;>omega) (Xj _) (by first|(simp only [VT,VA,KC,KA];done)|(simp only [VT,VA,KC,KA];rfl)|(simp [KC,KA];done))) (ZJ 3 5 [6,7] [4] (Z7 5 (dp 5 0 [1] [b1] (Zy ((((D.map (Zx 14))++[Zx 16 x])++(R.map (Zx 15)))++(b.steps.drop (XT b.steps)))) (Zy (((D.map (Zx 14))++[Zx 16 x])++(R.map (Zx 15)))) (Zy (b.steps.drop (XT b.steps))) v11 none 5 (Xj _) (Xj _) (VW _) (by simp<;>omega) (by simp [WW,Zy]) fun v12=>Zj 1 2 [8] (Z7 9 (YJ 9 3 [] [] b2 [YY ((((D.map (Zx 14))++[Zx 16 x])++(R.map (Zx 15)))++(b.steps.drop (XT b.steps))) v12,.i b.result] (de ?_))))))))))
 have hE:=Z00 (Vp.1 fun z=>Za (.inl z)) (fun z=>Za (.inr om)) (Za7 om Yq)
 exact ZD (r3 [] [.agg [YY ((((D.map (Zx 14))++[Zx 16 x])++(R.map (Zx 15)))++(b.steps.drop (XT b.steps))) v12,.i b.result]] [0] [(b2,b2)] ⟨rfl,rfl⟩ (Zd.agg (.cons (Zd.sl _ (Ym Zy hE)) (.cons li .nil))))
theorem Zd2 (n:Zk) (b:Z9) (mm:Nat) (hn:X4 n) (hw:wB n.decls b) (hb:mm+9*b.sz<=900000000) (ih:∀(b2:Z9) (m2:Nat),(wB n.decls b2)->(m2+9*b2.sz<=900000000)->(b2.sz<b.sz)->Zl 151 [Yn n,ZZ b2,.i m2] [] (Yv (ZZ (Vg n.decls m2 b2)))):Zl 151 [Yn n,ZZ b,.i mm] [] (Yv (ZZ (Vg n.decls mm b))):=by
 have Xt:=hn.decls
 have hbz:=VS b
 have ZH:=(J4 b).1 hw
 refine ZG 107 Tryz.func151 (ar (iA (YT n) fun b1=>iA (Xk b) fun b2=>iA [nl,.i 0] fun b3=>ie (ar (iL (Zy []) 0 5 fun v1=>ZM 3 [2] (iA [nl,.i 0] fun b4=>?_)))))
 refine ZI 0 b4 [YY [] v1,.i b.result] (ie (Yb (ab 0 (Y4 (fun fz gz m F h=>∃(k:Nat) (q:Nat) (xs:List Z5) (v:Value),(k<=b.steps.length)/\(q<=mm+k)/\(xs.length=k)/\(xs++Tk n.decls q (b.steps.drop k)=Tk n.decls mm b.steps)/\F=sF [3,4,6,7] fz [(2,.i q),(8,.i k)]/\h=[.obj b4 [YY xs v,.i b.result],Zc gz 2,Zc gz 3,Zc gz 4,.tail v 5]/\m=b.steps.length-k) _ _ _ ⟨0,mm,[],v1,ob,ob,ob,rfl,rfl,rfl,rfl⟩ (wk [0,1,1,1,0] (fr (Yd fl))) ?_))))
 rintro m F h ⟨k,q,xs,v,Yg,Zi,Zw,Yq,rfl,rfl,rfl⟩
 refine Yi 3 [2] (iw (VF b.steps) (Y0 ((k:Int)<(b.steps.length:Int)) (fun Za=>?_) (fun Za=>?_)))
 ·refine ak (aq (ab 1 (Zv 3 [2] ?_)))
  obtain ⟨x1,Z3⟩:=Zt b.steps k om
  have Xm:=C8 Z3
  have hws:=Sk hw Z3
  have hkz:=Tv x1
  have haz:=Qf x1
  have hdf:=Zf9 hws
  refine Zm (Zh none (k:Int) 5 (WD Z3)) (Z2 1 (iA [.i 0,.i 0,.i 0,nl,nl] fun b5=>ZI 0 b5 (Xv x1) (ie (ar (iL (YK []) 0 2 fun v2=>Z0 (Zv 4 [5,1] (ic [] (JI n.decls x1.num) ?_)))))))
  rintro _ _ ⟨v3,rfl,rfl⟩
  refine Z0 (Yb (ab 2 (Y4 (fun fz gz m F h=>∃(j:Nat) (u:Value) (ks:List Z9),(j<=x1.kids.length)/\(ks.length=j)/\(ks++TV n.decls q x1.op x1.num x1.args (x1.kids.drop j) j=TV n.decls q x1.op x1.num x1.args x1.kids 0)/\F=sF [2,3,4,6,7,8,9,11] fz [(10,Ti ks u),(12,.i j)]/\h=[Zc gz 2,Zc gz 3,Zc gz 4,Zc gz 5,Zc gz 6,.tail u 2,Zc gz 7,Zc gz 0]/\m=x1.kids.length-j) _ _ _ ⟨0,v2,[],ob,ob,(by simp),rfl,rfl,rfl⟩ (wk [2,2,2,2,2,1,1,0] (fr (Yd fl))) ?_)))
  rintro m F h ⟨j,u,ks,Uo,XY,XS,rfl,rfl,rfl⟩
  refine Yi 3 [0] (iw (Ue x1.kids) (Y0 ((j:Int)<(x1.kids.length:Int)) (fun Zg=>?_) (fun Zg=>?_)))
  ·refine ak (aq (ab 3 (A7 [0] (ac (x1.op==8) Zp (fun ZC=>?_) (fun ZC=>?_)))))
   ·refine aD 8 (ZJ 4 8 [0,1,2,3] [4] ?_)
    obtain ⟨x2,Zr⟩:=Zt (ZX n.decls x1.num) j (by have h:=(Er hws (by assumption)).2;omega)
    have hfk:UU n.decls x1.num j=ZV n.decls x2:=Nl (by rw [T6,Zr];rfl)
    have hcf:=U6 Xt x2
    refine dx 4 (Zh (some v3) (j:Int) 1 (ZY Zr)) (Zj 2 3 [5] (Z7 6 (Yp 6 [] [] [] (Kj n.decls x2) (Zj 0 1 [7] (de (aE 22 (ZJ 17 22 [0,1,2,3,4] [4,0] ?_)))))))
    obtain ⟨x3,YI⟩:=Zt x1.kids j om
    have hkb:=YI
    have hks:=Tt YI
    have hwk:=LV hws YI
    have hpk:=Z9.pz_le x3
    refine dx 5 (Zh none (j:Int) 2 (UR YI)) (Zj 13 16 [6,7,8] (dn 9 (.i (((ZV n.decls x2).length:Nat):Int)) (.i (((Z6 (ZV n.decls x2)).length:Nat):Int)) (li (by rw [Y6])) (da 10 (((q+((ZV n.decls x2).length):Nat):Int)) (((q:Int))+((((ZV n.decls x2).length:Nat):Int))) (ZJ 9 11 [12,13] [0] ?_))))
    obtain ⟨x4,WE⟩:=Zt x1.args 0 (by obtain ⟨⟨a,ha2,_⟩,_⟩:=Er hws (by assumption);rw [ha2];simp)
    have hg1:=Jf WE
    exact dx 14 (Zh none 0 1 (ZY WE)) (Zj 5 8 [15,16,17] (Z7 11 (Yp 11 [] [0] [b5] (ih x3 (q+((ZV n.decls x2).length)) hwk ob ob) (Z7 18 (Yp 18 [] [] [] (Zcr (Vg n.decls (q+((ZV n.decls x2).length)) x3) x4 (ZV n.decls x2) q (ha:=(by rw [Gt];exact Zcd ((J4 _).1 hwk))) (hz:=(VK (Gu Xt _ hwk) om))) (Z7 19 (dL 19 [] [] [ZZ (Jq (Vg n.decls (q+((ZV n.decls x2).length)) x3) x4 (ZV n.decls x2) q)] 1 2 fun v4=>Yr 2 2 [] [(72,.sl [ZZ (Jq (Vg n.decls (q+((ZV n.decls x2).length)) x3) x4 (ZV n.decls x2) q)] none)] (Z7 20 (dp 20 6 [] [] (YK (ks++[Jq (Vg n.decls (q+((ZV n.decls x2).length)) x3) x4 (ZV n.decls x2) q])) (YK ks) [ZZ (Jq (Vg n.decls (q+((ZV n.decls x2).length)) x3) x4 (ZV n.decls x2) q)] u none 2 (TK _) (Qk rfl) rfl (by simp<;>omega) (by simp [A1,Tb]) fun v5=>Zj 0 1 [21] (de (az (Z2 1 (ZK j (Z0 (ZL ⟨j+1,v5,(ks++[Jq (Vg n.decls (q+((ZV n.decls x2).length)) x3) x4 (ZV n.decls x2) q]),ob,(by simp;omega),(by have h:=Rg hkb XS;rw [Gv,Ze (by assumption),hfk,hg1] at h;exact h),rfl,rfl,rfl⟩ (wk [2,2,2,2,2,0,1,1] (fr (ZO j fl))))))))))))))))))
   refine aE 12 (ZJ 7 12 [0,1,2,3,4] [4,0] ?_)
   obtain ⟨x5,Ug⟩:=Zt x1.kids j om
   have hkb:=Ug
   have hks:=Tt Ug
   have hwk:=LV hws Ug
   have hpk:=Z9.pz_le x5
   exact dx 5 (Zh none (j:Int) 2 (UR Ug)) (Zj 4 6 [6,7] (Z7 8 (Yp 8 [] [] [] (ih x5 q hwk ob ob) (Z7 9 (dL 9 [] [] [ZZ (Vg n.decls q x5)] 1 2 fun v6=>Yr 2 2 [] [(83,.sl [ZZ (Vg n.decls q x5)] none)] (Z7 10 (dp 10 6 [] [] (YK (ks++[Vg n.decls q x5])) (YK ks) [ZZ (Vg n.decls q x5)] u none 2 (TK _) (Qk rfl) rfl (by simp<;>omega) (by simp [A1,Tb]) fun v7=>Zj 0 1 [11] (de (az (Z2 1 (ZK j (Z0 (ZL ⟨j+1,v7,(ks++[Vg n.decls q x5]),ob,(by simp;omega),(by have h:=Rg hkb XS;rw [Gv,Z8 (by assumption)] at h;exact h),rfl,rfl,rfl⟩ (wk [2,2,2,2,2,0,1,1] (fr (ZO j fl))))))))))))))))
  have hK:=Zcb om XS
  refine ax 2 (aD 17 (ZJ 6 17 [0,1,2,3,4,5,6,7,8,9,11] [1,0,0,0,0] (Z7 10 (dc 10 [] [0,0,0,1] [b5,b5,b5,b4] (Ub x1.args) ?_))))
  rintro _ _ ⟨v8,rfl,rfl⟩
  refine Yr 4 5 [12] [(97,.agg [.i x1.op,.i x1.num,.i x1.into,Z4 x1.args,XZ ks])] (Z7 13 (dL 13 [1] [b4] [YG (Z5.mk x1.op x1.num x1.into x1.args ks)] 1 5 fun v9=>Yr 3 3 [] [(98,.sl [YG (Z5.mk x1.op x1.num x1.into x1.args ks)] none)] (Z7 14 (dp 14 8 [] [] (Zy (xs++[Z5.mk x1.op x1.num x1.into x1.args ks])) (Zy xs) [YG (Z5.mk x1.op x1.num x1.into x1.args ks)] v none 5 (Xj _) (Qk rfl) rfl (by simp<;>omega) (by simp [WW,VG]) fun v10=>?_))))
  refine Zj 1 2 [15] (Z7 16 (YJ 16 4 [] [] b4 [YY (xs++[Z5.mk x1.op x1.num x1.into x1.args ks]) v10,.i b.result] (de (Zv 2 [4] (Zz [] (KU x1.op) (ie (Jv (fun fz gz F h=>F=sF [3,4,6,7,8] fz [(2,.i (((if YC x1.op=true then q else q+1):Nat):Int))]/\h=[Zc gz 0,Zc gz 5,Zc gz 6,Zc gz 7,Zc gz 1]) (fun _ _=>rfl) ?_ ?_)))))))
  ·refine ac (XM x1.op) Iff.rfl (fun Ye=>?_) (fun Ye=>?_)
   ·exact az (Z2 1 (ZK q (Z0 (ZQ ⟨rfl,rfl⟩ (wk [0,4,4,4,0] (fc (x:=.i (q+1:Nat)) (li (by rw [Z8 (fun z=>by rw [hdf,z] at Ye;cases Ye)])) fl))))))
   exact ak (ZQ ⟨rfl,rfl⟩ (wk [0,4,4,4,0] (fc (x:=.i q) (li (by rw [Ze (Es fun z=>Ye (by rw [hdf,J5.2 z];rfl))])) fl)))
  rintro F h ⟨rfl,rfl⟩
  exact az (Z2 1 (ZK k (Z0 (ZL ⟨k+1,(if YC x1.op=true then q else q+1),(xs++[Z5.mk x1.op x1.num x1.into x1.args ks]),v10,ob,(by split<;>omega),(by simp;omega),(by have h:=Zcf Z3 Yq;rw [<-hK] at h;exact h),rfl,rfl,rfl⟩ (ZE 5 (fr (ZO k fl)))))))
 exact ax 0 (Zv 1 [0] (ZI 1 b3 [YY xs v,.i b.result] (ie (ZD (r3 [] [.agg [YY xs v,.i b.result]] [0] [(b3,b3)] ⟨rfl,rfl⟩ (Zd.agg (.cons (Zd.sl _ (Ym Zy (by rw [Gt];exact Zce om Yq))) (.cons (li (by rw [Gt];rfl)) .nil))))))))
theorem Zd0 (n:Zk) (hn:X4 n) (k:Nat):∀(b2:Z9) (m2:Nat),(wB n.decls b2)->(m2+9*b2.sz<=900000000)->(b2.sz<k)->Zl 151 [Yn n,ZZ b2,.i m2] [] (Yv (ZZ (Vg n.decls m2 b2))):=by
 induction k with
 | zero=>intro b mm _ _ h;omega
 | succ k ih=>intro b mm h1 h2 h3;exact Zd2 n b mm hn h1 h2 fun b2 m2 k1 k2 k3=>ih b2 m2 k1 k2 om
theorem Zd1 (n:Zk) (b:Z9) (mm:Nat) (hn:X4 n:=by exact ob) (hw:wB n.decls b:=by exact ob) (hb:mm+9*b.sz<=900000000:=by exact ob):Zl 151 [Yn n,ZZ b,.i mm] [] (Yv (ZZ (Vg n.decls mm b))):=Zd0 n hn (b.sz+1) b mm hw hb om
theorem Lx (b:Z9) (hz:b.sz<=1000000000:=by exact ob):Zl 254 [ZZ b] [] (Yv (.i (((YW b.steps):Nat):Int))):=by
 have hbz:=VS b
 refine ZG 21 Tryz.func254 (ar (iA (Xk b) fun b1=>?_))
 refine Z0 (ZF (aq (ab 0 (Y4 (fun fz gz m F h=>∃(k:Nat),(k<=b.steps.length)/\(k+YW (b.steps.drop k)=YW b.steps)/\F=sF [1] fz [(3,.i k)]/\h=gz/\m=b.steps.length-k) _ _ _ ⟨0,ob,(by simp),rfl,rfl,rfl⟩ (wk [0] (Yd fl)) ?_))))
 rintro m F h ⟨k,Yg,Zi,rfl,rfl,rfl⟩
 refine Yi 3 [0] (iw (VF b.steps) (Z2 2 (ib (b:=(decide ((k:Int)<(b.steps.length:Int)))) 9 (fun Zb=>?_) (fun Zb=>?_))))
 ·have ZW:(k:Int)<(b.steps.length:Int):=(dq).1 Zb
  refine ZM 3 [0] ?_
  obtain ⟨x1,Z3⟩:=Zt b.steps k om
  refine Zm (Zh none (k:Int) 5 (WD Z3)) (Z2 2 (Zz [] (Rt x1.op) (YB (YC x1.op) Iff.rfl (fun Za=>?_) (fun Za=>?_))))
  ·exact ak (ab 1 (az (Z2 1 (ZK k (Z0 (ZL ⟨k+1,ob,(Z8n Z3 Za Zi),rfl,rfl,rfl⟩ (wk [0] (ZO k fl))))))))
  exact ax 0 (ar (Zq (Y1 (.i k) (li (by have:=Z8o Z3 Za Zi;omega)))))
 have Yh:¬((k:Int)<(b.steps.length:Int)):=Ya dq Zb
 exact Z0 (We (ax 0 (ar (Zq (Y1 (.i k) (li (by have:=Z8m om Zi;omega)))))))
theorem Ry (b:Z9) (mm:Nat) (op:Int) (x:Int) (hm:mm<=b.steps.length:=by exact ob) (ha:∀s∈b.steps.take mm,s.op=op->∃a,s.args=[a]) (hz:b.sz<=1000000000:=by exact ob):Zl 255 [ZZ b,.i mm,.i op,.i x] [] (Yv (.i (W9 op x (b.steps.take mm) 0))):=by
 have hbz:=VS b
 refine ZG 36 Tryz.func255 (ar (iA (Xk b) fun b1=>?_))
 refine Z0 (Yb (ab 0 (Y4 (fun fz gz m F h=>∃(k:Nat),(k<=mm)/\(W9 op x ((b.steps.take mm).drop k) k=W9 op x (b.steps.take mm) 0)/\F=sF [1,2,3,4] fz [(9,.i k)]/\h=gz/\m=mm-k) _ _ _ ⟨0,ob,(by simp),rfl,rfl,rfl⟩ (wk [0] (Yd fl)) ?_)))
 rintro m F h ⟨k,Yg,Zi,rfl,rfl,rfl⟩
 refine X0 (Y0 ((k:Int)<(mm:Int)) (fun Za=>?_) (fun Za=>?_))
 ·refine ak (aq (ab 1 (Zv 3 [0] ?_)))
  obtain ⟨x1,Z3⟩:=Zt b.steps k om
  have hxt:(b.steps.take mm)[k]? = some x1:=by rw [List.getElem?_take_of_lt om];exact Z3
  have hxm:=Y2 hxt
  refine Zm (Zh none (k:Int) 5 (WD Z3)) (Z2 5 (ib (b:=(x1.op==op)) 23 (fun Zb=>?_) (fun Zb=>?_)))
  ·have ZW:x1.op=op:=(Zp).1 Zb
   refine ZM 3 [0] (Zm (Zh none (k:Int) 5 (WD Z3)) (Z2 2 ?_))
   obtain ⟨x2,Zr⟩:=Zt x1.args 0 (by obtain ⟨a,ha2⟩:=ha x1 hxm (by assumption);rw [ha2];simp)
   have hg0:=Jf Zr
   refine Zm (Zh none 0 1 (ZY Zr)) (YB (x2==x) Zp (fun Zg=>?_) (fun Zg=>?_))
   ·exact ar (Zq (Y1 (.i k) (li (by have h:=Z0j hxt ⟨by assumption,by rw [hg0];assumption⟩ Zi;omega))))
   exact ak (az (Z2 1 (ZK k (Z0 (ZL ⟨k+1,ob,(Mr hxt (fun z=>Zg (by rw [<-hg0];exact z.2)) Zi),rfl,rfl,rfl⟩ (wk [0] (ZO k fl)))))))
  have Yh:¬(x1.op=op):=Ya Zp Zb
  exact Z0 (We (ak (az (Z2 1 (ZK k (Z0 (ZL ⟨k+1,ob,(Mr hxt (fun z=>absurd z.1 (by assumption)) Zi),rfl,rfl,rfl⟩ (wk [0] (ZO k fl)))))))))
 exact ax 0 (ar (Zq (Y1 (.i (-1)) (li (by have h:=Z0i (by rw [WH];omega) Zi;omega)))))
theorem Zcl (b:Z9) (frm0:Nat) (many:Nat) (hm:frm0<=b.steps.length:=by exact ob) (hz:b.sz<=1000000000:=by exact ob):Zl 285 [ZZ b,.i frm0,.i many] [] (Yv (.i (Wu many (b.steps.drop frm0) frm0))):=by
 have hbz:=VS b
 refine ZG 44 Tryz.func285 (ar (iA (Xk b) fun b1=>?_))
 refine Z0 (Yb (ab 0 (Y4 (fun fz gz m F h=>∃(k:Nat),(k<=b.steps.length)/\(Wu many (b.steps.drop k) k=Wu many (b.steps.drop frm0) frm0)/\F=sF [2,3] fz [(7,.i k)]/\h=gz/\m=b.steps.length-k) _ _ _ ⟨frm0,ob,rfl,rfl,rfl,rfl⟩ (wk [0] fl) ?_)))
 rintro m F h ⟨k,Yg,Zi,rfl,rfl,rfl⟩
 refine Yi 3 [0] (iw (VF b.steps) (Y0 ((k:Int)<(b.steps.length:Int)) (fun Za=>?_) (fun Za=>?_)))
 ·refine ak (aq (ab 1 (Zv 3 [0] ?_)))
  obtain ⟨x1,Z3⟩:=Zt b.steps k om
  refine Zm (Zh none (k:Int) 5 (WD Z3)) (XK 16 [2,3,7] [(31,.b ((x1.op==6)&&(x1.into==0)))] (fun gz=>gz) ?_ (fun hj1=>?_))
  ·refine Xo [2,3,7] [(42,.b (((x1.op==6)&&(x1.into==0))&&((x1.args.length:Int)==(many:Int))))] (fun gz=>gz) ?_ ?_
   ·refine Z2 1 (ib (b:=((x1.op==6)&&(x1.into==0))) 32 (fun Zb=>?_) (fun Zb=>?_))
    ·exact ZM 3 [0] (Zm (Zh none (k:Int) 5 (WD Z3)) (Z2 2 (iw (Y6 x1.args) (Z0 (wk [0] (Zu ((x1.args.length:Int)==(many:Int)) Zb fl))))))
    exact Z0 (wk [0] (Zu false Zb fl))
   refine ac (((x1.op==6)&&(x1.into==0))&&((x1.args.length:Int)==(many:Int))) (p:=((x1.op=6)/\(x1.into=0))/\((x1.args.length:Int)=(many:Int))) (YH (YH Zp Zp) Zp) (fun Zg=>?_) (fun Zg=>?_)
   ·exact ar (Zq (Y1 (.i k) (li (by have h:=Z1x Z3 (show Ka many x1 from ⟨Zg.1,by omega⟩) Zi;omega))))
   exact ak (az (Z2 1 (ZK k (Z0 (ZL ⟨k+1,ob,(Z1w Z3 (fun z=>Zg ⟨z.1,by have:=z.2;omega⟩) Zi),rfl,rfl,rfl⟩ (wk [0] (ZO k fl)))))))
  refine Z2 4 (ib (b:=(x1.op==6)) 23 (fun ZA=>?_) (fun ZA=>?_))
  ·exact ZM 3 [0] (Zm (Zh none (k:Int) 5 (WD Z3)) (Z2 4 (Yu (wk [0] (Zu (x1.into==0) ZA fl)) hj1)))
  exact Z2 8 (Yu (wk [0] (Zu false ZA fl)) hj1)
 exact ax 0 (ar (Zq (Y1 (.i (-1)) (li (by have h:=Z1v om Zi;omega)))))
theorem Z28 (b:Z9) (hz:b.sz<=1000000000):Zl 97 [ZZ b] [] (fun r h=>∃(v:Hd),r=.agg [.h v,.i b.result]/\h=[rK v 5 (Zo (Zy b.steps))]):=by
 have hbz:=VS b
 refine ZG 28 Tryz.func97 (ar (iA (Xk b) fun b1=>iA [nl,.i 0] fun b2=>ie (ar (DP 5 fun g1=>ZM 3 [2] (iA [nl,.i 0] fun b3=>?_)))))
 refine ZI 0 b3 [.ms g1 0 0 0,.i b.result] (ie (Yb (ab 0 (Y4 (fun fz gz m F h=>∃(k:Nat) (v:Hd),(k<=b.steps.length)/\F=sF [1,2,3] fz [(4,.i k)]/\h=[.obj b3 [.h v,.i b.result],Zc gz 2,Zc gz 3,rK v 5 (Zo (Zy (b.steps.take k)))]/\m=b.steps.length-k) _ _ _ ⟨0,(⟨some ⟨g1,0,none⟩,0,0⟩:Hd),ob,rfl,rfl,rfl⟩ (wk [0,1,1,0] (Yd fl) (e:=(rc (rc (rc (rr (ls:=[]) ob rz)))))) ?_))))
 rintro m F h ⟨k,v,Yg,rfl,rfl,rfl⟩
 refine Yi 3 [2] (iw (VF b.steps) (Y0 ((k:Int)<(b.steps.length:Int)) (fun Za=>?_) (fun Za=>?_)))
 ·refine ak (aq (ab 1 (aE 12 (ZJ 7 12 [0,1,2,3,4] [0,2] ?_))))
  obtain ⟨x1,Z3⟩:=Zt b.steps k om
  have hss:=Kl Z3
  exact dx 5 (Zh none (k:Int) 5 (WD Z3)) (Zj 5 6 [6] (Z7 7 (Yp 7 [] [0] [b3] (Rr x1) (Z7 8 (dL 8 [0] [b3] [YG x1] 1 5 fun v1=>Yr 3 3 [] [(24,.sl [YG x1] none)] (Z7 9 (Hw 9 4 k [] [] v 5 (Zo (Zy (b.steps.take k))) [YG x1] none (by rw [QE,WH,VB om]) (Qk rfl) rfl (List.cons_ne_nil _ _) (by simp<;>omega) fun v2=>Zj 1 2 [10] (Z7 11 (YJ 11 2 [] [] b3 [.h v2,.i b.result] (de (az (Z2 1 (ZK k (Z0 (ZL ⟨k+1,v2,ob,rfl,rfl,rfl⟩ (wk [0,2,2,0] (ZO k fl) (e:=(rc (rc (rc (rr (ls:=Zo (Zy (b.steps.take k))++Zo [YG x1]) (Nr Z3) rz)))))))))))))))))))))
 exact ax 0 (Zv 1 [0] (ZI 1 b2 [.h v,.i b.result] (ie (ZD (r3 [3] [.agg [.h v,.i b.result]] [0] [(b2,b2)] ⟨v,rfl,rfl⟩ (lr _) (eq:=(rr (ls:=Zo (Zy (b.steps.take k))) (by rw [Vq om]) rz)))))))
theorem Z27 (b:Z9) (hz:b.sz<=1000000000:=by exact ob) (h0:0<b.steps.length:=by exact ob):Zl 97 [ZZ b] [] (fun r h=>∃(g:Nat) (c:Nat),r=.agg [.ms g 0 b.steps.length c,.i b.result]/\h=[.row (.slice (some ⟨g,0,none⟩) b.steps.length c) 5 (Zo (Zy b.steps))]):=(Z28 b hz).form (T:=fun v=>.agg [.h v,.i b.result]) (m:=b.steps.length) (QE _) om h0
theorem Zcs (ds:List Zf) (b:Z9) (x:Int) (many:Nat) (hw:wB ds b:=by exact ob) (hx:0<=x/\x<=900000000:=by exact ob) (hz:b.sz<=1000000000:=by exact ob):Zl 253 [ZZ b,.i x,.i many] [] (Yv (ZZ (Ui b x many))):=by
 have hbz:=VS b
 have ZH:=(J4 b).1 hw
 have hrl:=DV b.steps
 refine ZG 57 Tryz.func253 (ar (iA (Xk b) fun b1=>iA [nl,.i 0] fun b2=>ie (aD 6 (ZJ 3 6 [0,1,3] [1,1] (Z7 2 (Yp 2 [] [1] [b1] (Lx b) (Z7 4 (Yp 4 [] [] [] (Ry b (YW b.steps) 16 x (ha:=(fun s hs h16=>M3 (H0 ZH s (TX hs) (by rw [h16];rfl))))) (Zj 0 1 [5] (de (aD 6 (ZJ 3 6 [0,1,3] [1,1] (Z7 2 (Yp 2 [] [1] [b1] (Lx b) (Z7 4 (Yp 4 [] [] [] (Zcl b (YW b.steps) many) (Zj 0 1 [5] (de (X0 (Xo [1,3,6,7,8] [(26,.b ((decide ((W9 16 x (b.steps.take (YW b.steps)) 0)<0))||(decide ((Wu many (b.steps.drop (YW b.steps)) (YW b.steps))<0))))] (fun gz=>gz) ?_ ?_))))))))))))))))))))
 ·refine Z2 3 (ib (b:=(decide ((W9 16 x (b.steps.take (YW b.steps)) 0)<0))) 23 (fun Zb=>?_) (fun Zb=>?_))
  ·exact Z0 (wk [0,0] (Zu true Zb fl))
  exact Z0 (wk [0,0] (Zu (decide ((Wu many (b.steps.drop (YW b.steps)) (YW b.steps))<0)) Zb fl))
 refine ac ((decide ((W9 16 x (b.steps.take (YW b.steps)) 0)<0))||(decide ((Wu many (b.steps.drop (YW b.steps)) (YW b.steps))<0))) (p:=((W9 16 x (b.steps.take (YW b.steps)) 0)<0)∨((Wu many (b.steps.drop (YW b.steps)) (YW b.steps))<0)) (Yj dq dq) (fun Za=>?_) (fun Za=>?_)
 ·exact Zv 1 [1] (ZI 0 b2 (Xk b) (ie (ZD (r3 [] [ZZ b] [0] [(b2,b2)] ⟨rfl,rfl⟩ (Zd.agg (.cons (Zd.sl _ (Ym Zy (Zas Za).symm)) (.cons li .nil)))))))
 obtain ⟨o1,o2,so,o3,o4⟩:=E5 (xs:=b.steps) (x:=x) (fun z=>Za (.inl z))
 obtain ⟨p1,p2,sc,p3,p4,p5⟩:=AK (xs:=b.steps) (many:=many) (fun z=>Za (.inr z))
 rw [show Vx b.steps x=(W9 16 x (b.steps.take (YW b.steps)) 0) from rfl] at o1 o2
 rw [show WJ b.steps many=(Wu many (b.steps.drop (YW b.steps)) (YW b.steps)) from rfl] at p1 p2
 refine ak (Zv 1 [1] (ic [] (Z27 b) ?_))
 rintro _ _ ⟨g1,c1,rfl,rfl⟩
 exact iA [nl,.i 0] fun b3=>ZI 0 b3 [.ms g1 0 b.steps.length c1,.i b.result] (ie (aD 7 (ZJ 3 7 [0,1,2,3] [0] (Z7 4 (Yp 4 [] [0] [b3] (JJ 17 x) (dx 5 (Wp g1 b.steps.length c1 ((W9 16 x (b.steps.take (YW b.steps)) 0).toNat) 5 (W9 16 x (b.steps.take (YW b.steps)) 0)) (Z7 6 (BG 6 1 [] [] g1 b.steps.length c1 5 (((W9 16 x (b.steps.take (YW b.steps)) 0).toNat)*5) (Xv (Zx 17 x)) (Zo (Zy b.steps)) (Zo (Zy (b.steps.set (W9 16 x (b.steps.take (YW b.steps)) 0).toNat (Zx 17 x)))) (by have:(Xv (Zx 17 x)).length=5:=rfl;rw [QE];omega) (Fj o3) (de (Zv 3 [1] (Zm (Wp g1 b.steps.length c1 ((Wu many (b.steps.drop (YW b.steps)) (YW b.steps)).toNat) 5 (Wu many (b.steps.drop (YW b.steps)) (YW b.steps))) (V6 (Vl 0 g1 b.steps.length c1 5 (((Wu many (b.steps.drop (YW b.steps)) (YW b.steps)).toNat)*5) (Zo (Zy (b.steps.set (W9 16 x (b.steps.take (YW b.steps)) 0).toNat (Zx 17 x)))) (Xv sc) 52 (YG sc) (HZ (Ge Za p3))) (iA [.i 0,.i 0,.i 0,nl,nl] fun b4=>ZI 0 b4 (Xv sc) (ie (Zv 8 [2,0,0] (ia ((1+x)) ((1)+(x)) (ZM 5 [0,0] (Zm (Wp g1 b.steps.length c1 ((Wu many (b.steps.drop (YW b.steps)) (YW b.steps)).toNat) 5 (Wu many (b.steps.drop (YW b.steps)) (YW b.steps))) (DQ 1 g1 b.steps.length c1 5 (((Wu many (b.steps.drop (YW b.steps)) (YW b.steps)).toNat)*5) [.i sc.op,.i sc.num,.i (1+x),Z4 sc.args,XZ sc.kids] (Zo (Zy (b.steps.set (W9 16 x (b.steps.take (YW b.steps)) 0).toNat (Zx 17 x)))) (Zo (Zy ((b.steps.set (W9 16 x (b.steps.take (YW b.steps)) 0).toNat (Zx 17 x)).set (Wu many (b.steps.drop (YW b.steps)) (YW b.steps)).toNat (QJ (1+x) sc)))) (by rw [QE,Uw];simp only [YR,Xu];omega) (Fj (t:=QJ (1+x) sc) (Ge Za p3)) (XW (Tl 0 1 0 (.slice (some ⟨g1,0,none⟩) b.steps.length c1) 5 b3 (Zy ((b.steps.set (W9 16 x (b.steps.take (YW b.steps)) 0).toNat (Zx 17 x)).set (Wu many (b.steps.drop (YW b.steps)) (YW b.steps)).toNat (QJ (1+x) sc))) [.ms g1 0 b.steps.length c1,.i b.result] (Xj _) rfl) (ie (Zv 1 [0] (ZI 3 b2 [YY ((b.steps.set (W9 16 x (b.steps.take (YW b.steps)) 0).toNat (Zx 17 x)).set (Wu many (b.steps.drop (YW b.steps)) (YW b.steps)).toNat (QJ (1+x) sc)) (.slice (some ⟨g1,0,none⟩) b.steps.length c1),.i b.result] (ie (ZD (r3 [] [.agg [YY ((b.steps.set (W9 16 x (b.steps.take (YW b.steps)) 0).toNat (Zx 17 x)).set (Wu many (b.steps.drop (YW b.steps)) (YW b.steps)).toNat (QJ (1+x) sc)) (.slice (some ⟨g1,0,none⟩) b.steps.length c1),.i b.result]] [0] [(b2,b2)] ⟨rfl,rfl⟩ (Zd.agg (.cons (Zd.sl _ (Ym Zy (Zat Za p5))) (.cons li .nil)))))))))))))))))))))))))))))
theorem Zcq (xs:LI) (y:Int) (hl:xs.length<=1000000000:=by exact ob):Zl 256 [Z4 xs,.i y] [] (fun r h=>∃(ys:LI),r=Z4 ys/\h=[]/\(ys.length<=xs.length+1/\∀z,z∈ys↔z∈xs∨z=y)):=by
 refine ZG 49 Tryz.func256 (ZF (ar (iL (Z6 []) 0 1 fun v1=>?_)))
 refine Z0 (ZF (Yb (ab 0 (Y4 (fun fz gz m F h=>∃(k:Nat) (acc:LI) (d:Bool) (v:Value),(k<=xs.length)/\(Kq xs y k acc d)/\F=sF [0,1] fz [(5,ZT acc v),(6,.b d),(7,.i k)]/\h=[.tail v 1]/\m=xs.length-k) _ _ _ ⟨0,[],false,v1,ob,(Kq.zero xs y),rfl,rfl,rfl⟩ (wk [0] (fw (Yd fl))) ?_))))
 rintro m F h ⟨k,acc,d,v,Yg,Zi,rfl,rfl,rfl⟩
 refine YL 2 (iw (Y6 xs) (Y0 ((k:Int)<(xs.length:Int)) (fun Za=>?_) (fun Za=>?_)))
 ·obtain ⟨x1,Z3⟩:=Zt xs k om
  have hil:acc.length<=k+1:=VK Zi.len (by split<;>omega)
  refine ak (aq (ab 1 (X0 (Xo [0,1,5,6,7] [(24,.b ((!d)&&(decide (x1>=y))))] (fun gz=>gz) ?_ ?_))))
  ·refine Z2 3 (ib (b:=(!d)) 17 (fun Zb=>?_) (fun Zb=>?_))
   ·exact Z2 2 (Zm (Zh none (k:Int) 1 (ZY Z3)) (Z0 (wk [0] (Zu (decide (x1>=y)) Zb fl))))
   exact Z0 (wk [0] (Zu false Zb fl))
  refine XP (fun fz gz F h=>∃(acc2:LI) (d2:Bool) (w:Value),((acc2=acc/\d2=d)∨(acc2=acc++[y]/\d2=true/\¬d=true)∨(acc2=acc/\d2=true/\x1=y))/\(acc2.length<=acc.length+1)/\F=sF [0,1,7] fz [(5,ZT acc2 w),(6,.b d2)]/\h=[.tail w 1]) ?_ ?_
  ·refine ac ((!d)&&(decide (x1>=y))) (p:=(¬(d=true))/\(x1>=y)) (YH (Yo Iff.rfl) dq) (fun Zg=>?_) (fun Zg=>?_)
   ·refine YL 2 (Zm (Zh none (k:Int) 1 (ZY Z3)) (Z0 (XP (fun fz gz F h=>∃(w3:Value),F=sF [0,1,7] fz [(5,ZT (if x1>y then (acc++[y]) else acc) w3)]/\h=[.tail w3 1]) ?_ ?_)))
    ·refine W4 (x1>y) (fun ZC=>?_) (fun ZC=>?_)
     ·exact az (Z2 2 (iL (Z6 [y]) 1 1 fun v2=>ZP 0 [(33,Z4 [y])] (ip 1 (Z6 (acc++[y])) (Z6 acc) (Z6 [y]) v none 1 (YA _) (YA _) (W6 _) (by simp<;>omega) (by simp [W5,Z6]) fun v3=>Z0 (ZQ ⟨v3,rfl,rfl⟩ (wk [0] (fc (x:=ZT (acc++[y]) v3) (Zd.slh _ (Ym Z6 (by first|rfl|(rw [Ze ZC])|(rw [Z8 ZC])|(simp [ZC];done)|(rw [Xs];simp [ZC];done)|omega))) fl))))))
     exact ak (ZQ ⟨v,rfl,rfl⟩ (wk [0] (fc (x:=ZT acc v) (Zd.slh _ (Ym Z6 (by first|rfl|(rw [Ze ZC])|(rw [Z8 ZC])|(simp [ZC];done)|(rw [Xs];simp [ZC];done)|omega))) fl)))
    rintro F h ⟨w3,rfl,rfl⟩
    exact UW (ZQ ⟨(if x1>y then (acc++[y]) else acc),true,w3,(if h:x1>y then (by rw [Ze h];exact .inr (.inl ⟨rfl,rfl,Zg.1⟩)) else (by rw [Z8 h];exact .inr (.inr ⟨rfl,rfl,by have:=Zg.2;omega⟩))),(by split<;>simp),rfl,rfl⟩ (wk [0] fl))
   exact ak (ZQ ⟨acc,d,v,(.inl ⟨rfl,rfl⟩),ob,rfl,rfl⟩ (wk [0] fl))
  rintro F h ⟨acc2,d2,w,VY,Af,rfl,rfl⟩
  exact az (Z2 3 (Zm (Zh none (k:Int) 1 (ZY Z3)) (Z2 1 (iL (Z6 [x1]) 1 1 fun v4=>ZP 0 [(40,Z4 [x1])] (ip 1 (Z6 (acc2++[x1])) (Z6 acc2) (Z6 [x1]) w none 1 (YA _) (YA _) (W6 _) (by simp<;>omega) (by simp [W5,Z6]) fun v5=>Z0 (az (Z2 1 (ZK k (Z0 (ZL ⟨k+1,(acc2++[x1]),d2,v5,ob,(Zi.go Z3 VY),rfl,rfl,rfl⟩ (wk [0] (fw (ZO k fl)))))))))))))
 have hil:acc.length<=k+1:=VK Zi.len (by split<;>omega)
 refine ax 0 (Yb (XP (fun fz gz F h=>∃(w4:Value),F=sF [] fz [(5,ZT (if d=true then acc else (acc++[y])) w4)]/\h=[.tail w4 1]) ?_ ?_))
 ·refine ac (!d) (p:=¬(d=true)) (Yo Iff.rfl) (fun Ye=>?_) (fun Ye=>?_)
  ·exact az (Z2 2 (iL (Z6 [y]) 1 1 fun v6=>ZP 0 [(46,Z4 [y])] (ip 1 (Z6 (acc++[y])) (Z6 acc) (Z6 [y]) v none 1 (YA _) (YA _) (W6 _) (by simp<;>omega) (by simp [W5,Z6]) fun v7=>Z0 (ZQ ⟨v7,rfl,rfl⟩ (wk [0] (fc (x:=ZT (acc++[y]) v7) (Zd.slh _ (Ym Z6 (by first|rfl|(rw [Ze Ye])|(rw [Z8 Ye])|(simp [Ye];done)|(rw [Xs];simp [Ye];done)|omega))) fl))))))
  exact ak (ZQ ⟨v,rfl,rfl⟩ (wk [0] (fc (x:=ZT acc v) (Zd.slh _ (Ym Z6 (by first|rfl|(rw [Ze Ye])|(rw [Z8 Ye])|(simp [Ye];done)|(rw [Xs];simp [Ye];done)|omega))) fl)))
 rintro F h ⟨w4,rfl,rfl⟩
 exact ar (Zq (r2 [] [ZT (if d=true then acc else (acc++[y])) w4] ⟨(if d=true then acc else (acc++[y])),rfl,rfl,(if hd:d=true then (by rw [Ze hd];exact (Zi.fin om).1 hd) else (by rw [Z8 hd];exact (Zi.fin om).2 hd))⟩ (Zd.forget _ _)))
theorem Zcv (n:Zk) (s:Z5) (j:Nat) (kept:LI) (kd:Z9) (hn:X4 n) (hws:wS n.decls s) (hkd:s.kids[j]? = some kd) (hnk:QN kd) (hK:kept.length+s.sz<=900000000) (ih:∀(b2:Z9) (K2:LI),(wB n.decls b2)->(B3 b2)->(K2.length+b2.sz<=900000000)->(b2.sz<s.sz)->Zl 152 [Yn n,ZZ b2,Z4 K2] [] (Yv (ZZ (WP n.decls K2 b2)))):Zl 199 [Yn n,YG s,.i j,Z4 kept] [] (Yv (ZZ (TS n.decls kept s.op s.num s.args j kd))):=by
 have Xt:=hn.decls
 have hks:=Tt hkd
 have hwk:=LV hws hkd
 have haz:=Qf s
 have hjl:=(Xp.1 hkd).1
 refine ZG 65 Tryz.func199 (ar (iA (YT n) fun b1=>iA (Xv s) fun b2=>iA [nl,.i 0] fun b3=>ie (X0 (Vo [1] (ac (s.op != 8) Yl (fun Za=>?_) (fun Za=>?_))))))
 ·refine aD 9 (ZJ 5 9 [0,1,2,3] [2,1] (dx 4 (Zh none (j:Int) 2 (UR hkd)) (Zj 2 4 [5,6] (Z7 7 (Yp 7 [] [] [] (ih kd kept (by first|exact hwk|exact Af) (by first|exact BY hnk|exact It) ob ob) (Z7 8 (YJ 8 0 [] [] b3 (Xk (WP n.decls kept kd)) (de ?_))))))))
  have hE:=PQ (ds:=n.decls) (kept:=kept) (op:=s.op) (num:=s.num) (args:=s.args) (j:=j) (kd:=kd) (fun z=>Za z.1)
  exact ZD (r3 [] [ZZ (WP n.decls kept kd)] [0] [(b3,b3)] ⟨rfl,rfl⟩ (Zd.agg (.cons (Zd.sl _ (Ym Zy (by rw [hE]))) (.cons (li (by rw [hE])) .nil))))
 refine ak (Zv 2 [1] ?_)
 obtain ⟨x1,Z3⟩:=Zt s.args 0 (by obtain ⟨⟨a,ha2,_⟩,_⟩:=Er hws om;rw [ha2];simp)
 have hg1:=Jf Z3
 have hxb:0<=x1/\x1<=900000000:=by obtain ⟨⟨a,ha2,ha3⟩,_⟩:=Er hws om;rw [ha2] at hg1;have:a=x1:=hg1;omega
 refine Zm (Zh none 0 1 (ZY Z3)) (Z0 (Zv 3 [1] (Zm (Zh none (j:Int) 2 (UR hkd)) (Z2 1 (iA [nl,.i 0] fun b4=>?_)))))
 refine ZI 0 b4 (Xk kd) (ie (YL 2 (Zz [] (UJ kept x1) (Z0 (XP (fun fz gz F h=>∃(B2:Z9) (K2:LI),(WP n.decls K2 B2=TS n.decls kept s.op s.num s.args j kd)/\(wB n.decls B2)/\(B3 B2)/\(B2.sz<=kd.sz)/\(K2.length<=kept.length+1)/\F=sF [4,8,10] fz [(3,Z4 K2)]/\h=[.obj b4 (Xk B2),Zc gz 1,Zc gz 3]) ?_ ?_)))))
 ·refine ac (!(decide (x1∈kept))) (p:=¬(x1∈kept)) (Yo dq) (fun Zg=>?_) (fun Zg=>?_)
  ·refine aD 16 (ZJ 7 16 [0,1,2,3,4,5,6,7,9] [0,3,3,2] (Z7 8 (dc 8 [] [3,0] [b1,b4] (JI n.decls s.num) ?_)))
   rintro _ _ ⟨v1,rfl,rfl⟩
   obtain ⟨x2,Zr⟩:=Zt (ZX n.decls s.num) j (by have h:=(Er hws om).2;omega)
   have hfl:(UU n.decls s.num j).length=(ZV n.decls x2).length:=by rw [Nl (by rw [T6,Zr];rfl)]
   have hcf:=U6 Xt x2
   refine dx 10 (Zh (some v1) (j:Int) 1 (ZY Zr)) (Zj 4 5 [11] (Z7 12 (Yp 12 [] [0] [b4] (Kj n.decls x2) (dn 13 (.i (((ZV n.decls x2).length:Nat):Int)) (.i (((Z6 (ZV n.decls x2)).length:Nat):Int)) (li (by rw [Y6])) (Z7 14 (Yp 14 [] [] [] (Zcs n.decls kd x1 ((ZV n.decls x2).length) (hw:=hwk) (hx:=hxb)) ?_))))))
   have hwr:=Zf5 (x:=x1) (many:=(ZV n.decls x2).length) hwk
   have hsr:=Zaq (x:=x1) (many:=(ZV n.decls x2).length) hwk
   refine Z7 15 (YJ 15 1 [] [] b4 (Xk (Ui kd x1 ((ZV n.decls x2).length))) (de (Zv 1 [0] (Zz [] (Lx (Ui kd x1 ((ZV n.decls x2).length))) (Z0 (Zv 3 [0] (Zz [] (Ry (Ui kd x1 ((ZV n.decls x2).length)) (YW (Ui kd x1 ((ZV n.decls x2).length)).steps) 17 x1 (hm:=(DV _)) (ha:=(fun s2 hs2 h17=>M3 (H0 ((J4 _).1 hwr) s2 (TX hs2) (by rw [h17];rfl))))) (Y0 ((W9 17 x1 ((Ui kd x1 ((ZV n.decls x2).length)).steps.take (YW (Ui kd x1 ((ZV n.decls x2).length)).steps)) 0)>=0) (fun ZC=>?_) (fun ZC=>?_)))))))))
   ·refine az (Z2 2 (ic [] (Zcq kept x1) ?_))
    rintro _ _ ⟨ys1,rfl,rfl,ZW⟩
    have hin:=ZW
    exact Z0 (ZQ ⟨_,_,(Zb8 om hg1 Zg hfl ((S1 ((E0 kd).1 hnk)).1 ZC) hin.2),hwr,(P9 hnk),ob,hin.1,rfl,rfl⟩ (wk [0,1,2] (fc (x:=Z4 ys1) (Zd.sl _ (Ym Z6 (by first|rfl|(rw [Ze Zg])|(rw [Z8 Zg])|(simp [Zg,ZC,ZW];done)|(rw [Xs];simp [Zg,ZC,ZW];done)|omega))) fl)))
   exact ak (ZQ ⟨_,_,(Zb9 om hg1 Zg hfl (Es fun z=>ZC ((S1 ((E0 kd).1 hnk)).2 z))),hwr,(P9 hnk),ob,ob,rfl,rfl⟩ (wk [0,1,2] (fc (x:=Z4 kept) (Zd.sl _ (Ym Z6 (by first|rfl|(rw [Ze Zg])|(rw [Z8 Zg])|(simp [Zg,ZC];done)|(rw [Xs];simp [Zg,ZC];done)|omega))) fl)))
  exact ak (ZQ ⟨_,_,(PQ (fun z=>Zg (hg1▸z.2))),hwk,(BY hnk),ob,ob,rfl,rfl⟩ (wk [0,0,1] (fc (x:=Z4 kept) (Zd.sl _ (Ym Z6 (by first|rfl|(rw [Ze Zg])|(rw [Z8 Zg])|(simp [Zg];done)|(rw [Xs];simp [Zg];done)|omega))) fl)))
 rintro F h ⟨B2,K2,VY,Af,It,Zfp,Zfq,rfl,rfl⟩
 exact Zv 3 [2,0] (Zz [] (ih B2 K2 (by first|exact hwk|exact Af) (by first|exact BY hnk|exact It) ob ob) (ZI 1 b3 (Xk (WP n.decls K2 B2)) (ie (ZD (r3 [] [ZZ (WP n.decls K2 B2)] [0] [(b3,b3)] ⟨rfl,rfl⟩ (Zd.agg (.cons (Zd.sl _ (Ym Zy (by rw [VY]))) (.cons (li (by rw [VY])) .nil))))))))
theorem Zcu (n:Zk) (b:Z9) (kept:LI) (hn:X4 n) (hw:wB n.decls b) (hn2:B3 b) (hK:kept.length+b.sz<=900000000) (ih:∀(s:Z5) (j:Nat) (kept:LI) (kd:Z9),(wS n.decls s)->(s.kids[j]? = some kd)->(QN kd)->(kept.length+s.sz<=900000000)->(s.sz<b.sz)->Zl 199 [Yn n,YG s,.i j,Z4 kept] [] (Yv (ZZ (TS n.decls kept s.op s.num s.args j kd)))):Zl 152 [Yn n,ZZ b,Z4 kept] [] (Yv (ZZ (WP n.decls kept b))):=by
 have Xt:=hn.decls
 have hbz:=VS b
 refine ZG 61 Tryz.func152 (ar (iA (YT n) fun b1=>iA (Xk b) fun b2=>iA [nl,.i 0] fun b3=>ie (ar (iL (Zy []) 0 5 fun v1=>ZM 3 [2] (iA [nl,.i 0] fun b4=>?_)))))
 refine ZI 0 b4 [YY [] v1,.i b.result] (ie (Yb (ab 0 (Y4 (fun fz gz m F h=>∃(k:Nat) (xs:List Z5) (v:Value),(k<=b.steps.length)/\(xs.length=k)/\(xs++T1 n.decls kept (b.steps.drop k)=T1 n.decls kept b.steps)/\F=sF [2,3,4,6,7] fz [(8,.i k)]/\h=[.obj b4 [YY xs v,.i b.result],Zc gz 2,Zc gz 3,Zc gz 4,.tail v 5]/\m=b.steps.length-k) _ _ _ ⟨0,[],v1,ob,ob,rfl,rfl,rfl,rfl⟩ (wk [0,1,1,1,0] (Yd fl)) ?_))))
 rintro m F h ⟨k,xs,v,Yg,Zi,Zw,rfl,rfl,rfl⟩
 refine Yi 3 [2] (iw (VF b.steps) (Y0 ((k:Int)<(b.steps.length:Int)) (fun Za=>?_) (fun Za=>?_)))
 ·refine ak (aq (ab 1 (Zv 3 [2] ?_)))
  obtain ⟨x1,Z3⟩:=Zt b.steps k om
  have Xm:=C8 Z3
  have hws:=Sk hw Z3
  have hkz:=Tv x1
  have haz:=Qf x1
  refine Zm (Zh none (k:Int) 5 (WD Z3)) (Z2 1 (iA [.i 0,.i 0,.i 0,nl,nl] fun b5=>ZI 0 b5 (Xv x1) (ie (ar (iL (YK []) 0 2 fun v2=>?_)))))
  refine Z0 (Yb (ab 2 (Y4 (fun fz gz m F h=>∃(j:Nat) (u:Value) (ks:List Z9),(j<=x1.kids.length)/\(ks.length=j)/\(ks++T0 n.decls kept x1.op x1.num x1.args (x1.kids.drop j) j=T0 n.decls kept x1.op x1.num x1.args x1.kids 0)/\F=sF [2,3,4,6,7,8,9] fz [(10,Ti ks u),(11,.i j)]/\h=[Zc gz 1,Zc gz 2,Zc gz 3,Zc gz 4,Zc gz 5,.tail u 2,Zc gz 6]/\m=x1.kids.length-j) _ _ _ ⟨0,v2,[],ob,ob,(by simp),rfl,rfl,rfl⟩ (wk [1,1,1,1,1,0,0] (fr (Yd fl))) ?_)))
  rintro m F h ⟨j,u,ks,Uo,XY,XS,rfl,rfl,rfl⟩
  refine Yi 3 [0] (iw (Ue x1.kids) (Y0 ((j:Int)<(x1.kids.length:Int)) (fun Zg=>?_) (fun Zg=>?_)))
  ·obtain ⟨kd,hkd⟩:=Zt x1.kids j om
   exact ak (aq (ab 3 (az (ZM 5 [4,0] (Zz [] (ih x1 j kept kd hws hkd (Z9l hn2 Z3 hkd) ob ob) (iL [ZZ (TS n.decls kept x1.op x1.num x1.args j kd)] 1 2 fun v3=>ZP 0 [(42,.sl [ZZ (TS n.decls kept x1.op x1.num x1.args j kd)] none)] (ip 6 (YK (ks++[TS n.decls kept x1.op x1.num x1.args j kd])) (YK ks) [ZZ (TS n.decls kept x1.op x1.num x1.args j kd)] u none 2 (TK _) (Qk rfl) rfl (by simp<;>omega) (by simp [A1,Tb]) fun v4=>Z0 (az (Z2 1 (ZK j (Z0 (ZL ⟨j+1,v4,(ks++[TS n.decls kept x1.op x1.num x1.args j kd]),ob,(by simp;omega),(Zb7 hkd XS),rfl,rfl,rfl⟩ (wk [2,2,2,2,2,0,1] (fr (ZO j fl)))))))))))))))
  have hK:=Zb6 om XS
  refine ax 2 (aE 17 (ZJ 6 17 [0,1,2,3,4,5,6,7,8,9,11] [1,0,0,0,0] (Z7 10 (dc 10 [] [0,0,0,1] [b5,b5,b5,b4] (Ub x1.args) ?_))))
  rintro _ _ ⟨v5,rfl,rfl⟩
  exact Yr 4 5 [12] [(56,.agg [.i x1.op,.i x1.num,.i x1.into,Z4 x1.args,XZ ks])] (Z7 13 (dL 13 [1] [b4] [YG (Z5.mk x1.op x1.num x1.into x1.args ks)] 1 5 fun v6=>Yr 3 3 [] [(57,.sl [YG (Z5.mk x1.op x1.num x1.into x1.args ks)] none)] (Z7 14 (dp 14 8 [] [] (Zy (xs++[Z5.mk x1.op x1.num x1.into x1.args ks])) (Zy xs) [YG (Z5.mk x1.op x1.num x1.into x1.args ks)] v none 5 (Xj _) (Qk rfl) rfl (by simp<;>omega) (by simp [WW,VG]) fun v7=>Zj 1 2 [15] (Z7 16 (YJ 16 4 [] [] b4 [YY (xs++[Z5.mk x1.op x1.num x1.into x1.args ks]) v7,.i b.result] (de (az (Z2 1 (ZK k (Z0 (ZL ⟨k+1,(xs++[Z5.mk x1.op x1.num x1.into x1.args ks]),v7,ob,(by simp;omega),(by have h:=Zbd Z3 Zw;rw [<-hK] at h;exact h),rfl,rfl,rfl⟩ (wk [0,4,4,4,0] (ZO k fl))))))))))))))
 exact ax 0 (Zv 1 [0] (ZI 1 b3 [YY xs v,.i b.result] (ie (ZD (r3 [] [.agg [YY xs v,.i b.result]] [0] [(b3,b3)] ⟨rfl,rfl⟩ (Zd.agg (.cons (Zd.sl _ (Ym Zy (by rw [Gf];exact Zbc om Zw))) (.cons (li (by rw [Gf];rfl)) .nil))))))))
theorem Zcw (n:Zk) (hn:X4 n) (k:Nat):(∀(s:Z5) (j:Nat) (kept:LI) (kd:Z9),(wS n.decls s)->(s.kids[j]? = some kd)->(QN kd)->(kept.length+s.sz<=900000000)->(s.sz<=k)->Zl 199 [Yn n,YG s,.i j,Z4 kept] [] (Yv (ZZ (TS n.decls kept s.op s.num s.args j kd))))/\(∀(b:Z9) (kept:LI),(wB n.decls b)->(B3 b)->(kept.length+b.sz<=900000000)->(b.sz<=k)->Zl 152 [Yn n,ZZ b,Z4 kept] [] (Yv (ZZ (WP n.decls kept b)))):=by
 induction k with
 | zero=>exact ⟨fun s j K kd h1 h2 h3 h4 h5=>by have:=s.sz_pos;omega,fun b K h1 h2 h3 h4=>by have:=b.sz_eq;omega⟩
 | succ k ih=>exact ⟨fun s j K kd h1 h2 h3 h4 h5=>Zcv n s j K kd hn h1 h2 h3 h4 fun b2 K2 q1 q2 q3 q4=>ih.2 b2 K2 q1 q2 q3 om,fun b K h1 h2 h3 h4=>Zcu n b K hn h1 h2 h3 fun s j K2 kd q1 q2 q3 q4 q5=>ih.1 s j K2 kd q1 q2 q3 q4 om⟩
theorem Zct (n:Zk) (b:Z9) (kept:LI) (hn:X4 n:=by exact ob) (hw:wB n.decls b:=by exact ob) (hn2:B3 b:=by exact ob) (hK:kept.length+b.sz<=900000000:=by exact ob):Zl 152 [Yn n,ZZ b,Z4 kept] [] (Yv (ZZ (WP n.decls kept b))):=(Zcw n hn b.sz).2 b kept hw hn2 hK (X5 _)
theorem Z60 (n:Zk) (hn:X4 n:=by exact ob) (hz:Uc n:=by exact ob) (hwb:∀r∈n.routines,wB n.decls r.body):Zl 118 [Yn n] [] (Yv (Yn (Gw n))):=by
 have hzl:=hn.len
 refine ZG 38 Tryz.func118 (ar (iA (YT n) fun b1=>iA [nl,nl] fun b2=>ie (Zv 2 [1] (Zz [] (C7 n.decls (hd:=hn.decls)) (iL (YP []) 0 5 fun v1=>Z2 1 (iA [nl,nl] fun b3=>?_))))))
 refine ZI 0 b3 [ZU n.decls,WF [] v1] (ie (Yb (ab 0 (Y4 (fun fz gz m F h=>∃(k:Nat) (v:Value),(k<=n.routines.length)/\F=sF [1,2,3] fz [(4,.i k)]/\h=[.obj b3 [ZU n.decls,WF ((n.routines.take k).map (Be n.decls)) v],Zc gz 2,Zc gz 3,.tail v 5]/\m=n.routines.length-k) _ _ _ ⟨0,v1,ob,rfl,rfl,rfl⟩ (wk [0,1,1,0] (Yd fl)) ?_))))
 rintro m F h ⟨k,v,Yg,rfl,rfl,rfl⟩
 refine Yi 3 [2] (iw (Uq n.routines) (Y0 ((k:Int)<(n.routines.length:Int)) (fun Za=>?_) (fun Za=>?_)))
 ·refine ak (aq (ab 1 (Zv 3 [2] ?_)))
  obtain ⟨x1,Z3⟩:=Zt n.routines k om
  have hrm:=Y2 Z3
  have hbz:=hz.body _ hrm
  have hpl:=hn.params_at Z3
  have hll:=hn.lent_at Z3
  have hww:=hwb _ hrm
  exact Zm (Zh none (k:Int) 5 (Wv Z3)) (Z2 1 (iA [nl,nl,.i 0,nl,.i 0] fun b4=>ZI 0 b4 (KM x1) (ie (aE 15 (ZJ 7 15 [0,1,2,3,4,5,6,7] [1,0,3,0,0] (dw 8 (Y6 x1.params) (Z7 9 (Yp 9 [] [0,1] [b4,b3] (Zd1 n x1.body x1.params.length (hw:=hww)) (Z7 10 (Yp 10 [] [1] [b3] (D5 x1 (Vg n.decls x1.params.length x1.body)) (Z7 11 (dL 11 [1] [b3] (YP [Yf.mk x1.params x1.lent x1.result (Vg n.decls x1.params.length x1.body)]) 1 5 fun v2=>Yr 3 3 [] [(34,Kg [Yf.mk x1.params x1.lent x1.result (Vg n.decls x1.params.length x1.body)])] (Z7 12 (dp 12 5 [] [] (YP ((n.routines.take (k+1)).map (Be n.decls))) (YP ((n.routines.take k).map (Be n.decls))) (YP [Yf.mk x1.params x1.lent x1.result (Vg n.decls x1.params.length x1.body)]) v none 5 (UT _) (UT _) (AN _) (by simp<;>omega) (by rw [V7 Z3];simp [YP,Be]) fun v3=>Zj 1 2 [13] (Z7 14 (YJ 14 3 [] [] b3 [ZU n.decls,WF ((n.routines.take (k+1)).map (Be n.decls)) v3] (de (az (Z2 1 (ZK k (Z0 (ZL ⟨k+1,v3,ob,rfl,rfl,rfl⟩ (wk [0,3,3,0] (ZO k fl))))))))))))))))))))))))
 exact ax 0 (Zv 1 [0] (ZI 1 b2 [ZU n.decls,WF ((n.routines.take k).map (Be n.decls)) v] (ie (ZD (r3 [] [.agg [ZU n.decls,WF ((n.routines.take k).map (Be n.decls)) v]] [0] [(b2,b2)] ⟨rfl,rfl⟩ (Zd.agg (.cons (Zd.sl _ (Ym X2 ob)) (.cons (Zd.sl _ (Ym YP (by rw [Vq om];rfl))) .nil))))))))
theorem Z5x (n:Zk) (hn:X4 n:=by exact ob) (hz:Uc n:=by exact ob) (hwb:∀r∈n.routines,wB n.decls r.body) (hnr:∀r∈n.routines,QN r.body):Zl 119 [Yn n] [] (Yv (Yn (Gg n))):=by
 have hzl:=hn.len
 refine ZG 38 Tryz.func119 (ar (iA (YT n) fun b1=>iA [nl,nl] fun b2=>ie (Zv 2 [1] (Zz [] (C7 n.decls (hd:=hn.decls)) (iL (YP []) 0 5 fun v1=>Z2 1 (iA [nl,nl] fun b3=>?_))))))
 refine ZI 0 b3 [ZU n.decls,WF [] v1] (ie (Yb (ab 0 (Y4 (fun fz gz m F h=>∃(k:Nat) (v:Value),(k<=n.routines.length)/\F=sF [1,2,3] fz [(4,.i k)]/\h=[.obj b3 [ZU n.decls,WF ((n.routines.take k).map (Ba n.decls)) v],Zc gz 2,Zc gz 3,.tail v 5]/\m=n.routines.length-k) _ _ _ ⟨0,v1,ob,rfl,rfl,rfl⟩ (wk [0,1,1,0] (Yd fl)) ?_))))
 rintro m F h ⟨k,v,Yg,rfl,rfl,rfl⟩
 refine Yi 3 [2] (iw (Uq n.routines) (Y0 ((k:Int)<(n.routines.length:Int)) (fun Za=>?_) (fun Za=>?_)))
 ·refine ak (aq (ab 1 (aE 21 (ZJ 16 21 [0,1,2,3,4] [0,2] ?_))))
  obtain ⟨x1,Z3⟩:=Zt n.routines k om
  have hrm:=Y2 Z3
  have hbz:=hz.body _ hrm
  have hpl:=hn.params_at Z3
  have hll:=hn.lent_at Z3
  have hww:=hwb _ hrm
  exact dx 5 (Zh none (k:Int) 5 (Wv Z3)) (ZJ 10 15 [6,7,8,9,10] [2,2] (dx 11 (Zh none (k:Int) 5 (Wv Z3)) (Zj 7 9 [12,13] (Z7 14 (dL 14 [2,2,2,0] [b1,b1,b1,b3] (Z6 []) 0 1 fun v2=>Yr 6 6 [] [(31,Z4 [])] (Z7 15 (Yp 15 [] [2,0] [b1,b3] (Zct n x1.body [] (hw:=hww) (hn2:=(BY (hnr _ hrm)))) (Z7 16 (Yp 16 [] [0] [b3] (D5 x1 (WP n.decls [] x1.body)) (Z7 17 (dL 17 [0] [b3] (YP [Yf.mk x1.params x1.lent x1.result (WP n.decls [] x1.body)]) 1 5 fun v3=>Yr 3 3 [] [(34,Kg [Yf.mk x1.params x1.lent x1.result (WP n.decls [] x1.body)])] (Z7 18 (dp 18 5 [] [] (YP ((n.routines.take (k+1)).map (Ba n.decls))) (YP ((n.routines.take k).map (Ba n.decls))) (YP [Yf.mk x1.params x1.lent x1.result (WP n.decls [] x1.body)]) v none 5 (UT _) (UT _) (AN _) (by simp<;>omega) (by rw [V7 Z3];simp [YP,Ba]) fun v4=>Zj 1 2 [19] (Z7 20 (YJ 20 3 [] [] b3 [ZU n.decls,WF ((n.routines.take (k+1)).map (Ba n.decls)) v4] (de (az (Z2 1 (ZK k (Z0 (ZL ⟨k+1,v4,ob,rfl,rfl,rfl⟩ (wk [0,3,3,0] (ZO k fl)))))))))))))))))))))))
 exact ax 0 (Zv 1 [0] (ZI 1 b2 [ZU n.decls,WF ((n.routines.take k).map (Ba n.decls)) v] (ie (ZD (r3 [] [.agg [ZU n.decls,WF ((n.routines.take k).map (Ba n.decls)) v]] [0] [(b2,b2)] ⟨rfl,rfl⟩ (Zd.agg (.cons (Zd.sl _ (Ym X2 ob)) (.cons (Zd.sl _ (Ym YP (by rw [Vq om];rfl))) .nil))))))))
theorem Z5w (rd:Nat) (bs:LI) (p:Nat) (ZH:∀z∈bs,0<=z/\z<=255) (hp:p+400001<=1000000000:=by exact ob):Zl 90 [.p rd 0] [Yx rd bs p] (fun r h=>∃(n:Zk) (p2:Nat),r=Yn n/\h=[Yx rd bs p2]/\FO n 181 WR/\p<=p2/\p2<=p+400001):=by
 refine ZG 13 Tryz.func90 (ar (iA [nl,nl] fun b1=>ie (Y5 1 (ic [1] (Z53 rd bs p (ZH:=ob)) ?_))))
 rintro _ _ ⟨g1,p21,rfl,rfl,ZW⟩
 have QG:=ZW
 refine ic [] (Z5o g1 (hg:=QG.1)) ?_
 rintro _ _ ⟨n1,rfl,rfl,Yh⟩
 have hnm:=Yh
 refine iA [nl,nl] fun b2=>ZI 0 b2 (YT n1) (ie (YL 1 (ic [1] (W2 rd bs p21 3 (ZH:=ob)) ?_)))
 rintro _ _ ⟨k1,rfl,rfl,YE⟩
 refine YB (k1==0) Zp (fun Za=>?_) (fun Za=>?_)
 ·refine Zv 1 [1] (ic [] (Z5e n1 181 (hn:=hnm)) ?_)
  rintro _ _ ⟨n21,rfl,rfl,YN⟩
  have hlm:=YN
  exact ZI 2 b1 (YT n21) (ie (ZD (r3 [1] [Yn n21] [0] [(b1,b1)] ⟨n21,p21+1,rfl,rfl,(by first|exact ⟨hlm,by omega,by omega⟩|exact ⟨hnm,by omega,by omega⟩)⟩ (lr _))))
 exact ak (Zv 1 [1] (ZI 2 b1 (YT n1) (ie (ZD (r3 [1] [Yn n1] [0] [(b1,b1)] ⟨n1,p21+1,rfl,rfl,(by first|exact ⟨hlm,by omega,by omega⟩|exact ⟨hnm,by omega,by omega⟩)⟩ (lr _))))))
theorem Z4x (rd:Nat) (bs:LI) (p:Nat) (ZH:∀z∈bs,0<=z/\z<=255) (hp:p+400002<=1000000000:=by exact ob):Zl 115 [.p rd 0] [Yx rd bs p] (fun r h=>∃(n:Zk) (p2:Nat),r=Yn n/\h=[Yx rd bs p2]/\FO n 814510 VC/\p<=p2/\p2<=p+400002):=by
 refine ZG 15 Tryz.func115 (ar (iA [nl,nl] fun b1=>ie (Y5 1 (ic [1] (Z5w rd bs p (ZH:=ob)) ?_))))
 rintro _ _ ⟨n1,p21,rfl,rfl,ZW⟩
 have hpf:=ZW
 refine iA [nl,nl] fun b2=>ZI 0 b2 (YT n1) (ie (Zv 1 [0] (ic [] (Z4w n1 181 (hn:=hpf.1)) ?_)))
 rintro _ _ ⟨n21,rfl,rfl,Yh⟩
 have hcf:=FO.le Yh (show 4500*181+10<=814510 by omega)
 refine iA [nl,nl] fun b3=>ZI 0 b3 (YT n21) (ie (YL 1 (ic [2] (W2 rd bs p21 4 (ZH:=ob)) ?_)))
 rintro _ _ ⟨k1,rfl,rfl,YE⟩
 refine YB (k1==0) Zp (fun Za=>?_) (fun Za=>?_)
 ·refine az (ZM 1 [2] (ic [] (Z57 n1 181 (hn:=hpf.1)) ?_))
  rintro _ _ ⟨n22,rfl,rfl,YN⟩
  have hlf:=FO.le YN (show 60*181<=814510 by omega)
  exact ZI 1 b3 (YT n22) (ie (Zv 1 [0] (ZI 3 b1 (YT n22) (ie (ZD (r3 [2] [Yn n22] [0] [(b1,b1)] ⟨n22,p21+1,rfl,rfl,(by first|exact ⟨hlf,by omega,by omega⟩|exact ⟨hcf,by omega,by omega⟩)⟩ (lr _)))))))
 exact ak (Zv 1 [1] (ZI 3 b1 (YT n21) (ie (ZD (r3 [1] [Yn n21] [0] [(b1,b1)] ⟨n21,p21+1,rfl,rfl,(by first|exact ⟨hlf,by omega,by omega⟩|exact ⟨hcf,by omega,by omega⟩)⟩ (lr _))))))
theorem Z4f (rd:Nat) (bs:LI) (p:Nat) (ZH:∀z∈bs,0<=z/\z<=255) (hp:p+400030<=1000000000:=by exact ob):Zl 73 [.p rd 0] [Yx rd bs p] (fun r h=>∃(n:Zk) (p2:Nat),r=Yn n/\h=[Yx rd bs p2]/\ZN n 7330630/\p<=p2/\p2<=p+400030):=by
 refine ZG 35 Tryz.func73 (ar (iA [nl,nl] fun b1=>ie (Y5 1 (ic [1] (Z4x rd bs p (ZH:=ob)) ?_))))
 rintro _ _ ⟨n1,p21,rfl,rfl,ZW⟩
 have hcf:=FO.le ZW.1 (show 814510<=814514 by omega)
 have hcp:=ZW
 refine iA [nl,nl] fun b2=>ZI 0 b2 (YT n1) (ie (YL 1 (ic [1] (W2 rd bs p21 4 (ZH:=ob)) ?_)))
 rintro _ _ ⟨k1,rfl,rfl,Yh⟩
 refine Z0 (XP (fun fz gz F h=>∃(na:Zk) (pa:Nat),(FO na 814514 VC)/\(p<=pa/\pa<=p+400010)/\F=sF [0,2,3] fz []/\h=[Yx rd bs pa,.obj b2 (YT na),Zc gz 2]) ?_ ?_)
 ·refine ac (k1==0) Zp (fun Za=>?_) (fun Za=>?_)
  ·refine az (ZM 2 [1] (ic [0] (NG rd bs (p21+1) n1 (ZH:=ob) (hz:=(by first|exact (FO.zn hcp.1).sz om|exact QK.sz om)) (hl1:=(by first|(have:=hcp.1.fn.len;omega)|(have:=QK.len;omega)))) ?_))
   rintro _ _ ⟨n21,p22,rfl,rfl,YE⟩
   have hho:=YE
   exact ZI 1 b2 (YT n21) (ie (ZQ ⟨n21,p22,(FO.held hcp.1 hho.1),ob,rfl,rfl⟩ (wk [1,0,0] fl)))
  exact ak (ZQ ⟨n1,p21+1,hcf,ob,rfl,rfl⟩ (ZE 3 fl))
 rintro F h ⟨na,pa,KL,Is,rfl,rfl⟩
 refine YL 1 (ic [0] (W2 rd bs pa 4 (ZH:=ob)) ?_)
 rintro _ _ ⟨k2,rfl,rfl,YN⟩
 refine Z0 (XP (fun fz gz F h=>∃(nb:Zk) (pb:Nat),(FO nb 814514 VC)/\(p<=pb/\pb<=p+400012)/\F=sF [0,2,3] fz []/\h=[Yx rd bs pb,.obj b2 (YT nb),Zc gz 2]) ?_ ?_)
 ·refine ac (k2==0) Zp (fun Zg=>?_) (fun Zg=>?_)
  ·refine az (ZM 1 [1] (ic [] (Z4l na 814514 (hn:=KL)) ?_))
   rintro _ _ ⟨n22,rfl,rfl,X8⟩
   have hca:=X8
   exact ZI 1 b2 (YT n22) (ie (ZQ ⟨n22,pa+1,hca,ob,rfl,rfl⟩ (wk [1,0,0] fl)))
  exact ak (ZQ ⟨na,pa+1,KL,ob,rfl,rfl⟩ (ZE 3 fl))
 rintro F h ⟨nb,pb,VY,Af,rfl,rfl⟩
 refine Y5 1 (ic [0] (W2 rd bs pb 3 (ZH:=ob)) ?_)
 rintro _ _ ⟨k3,rfl,rfl,XJ⟩
 refine Z0 (Yb (XP (fun fz gz F h=>∃(nc:Zk) (pc:Nat),(ZN nc 7330626)/\(k3>1->WN nc 7330626)/\(p<=pc/\pc<=p+400014)/\F=sF [0,2,3,4] fz []/\h=[Yx rd bs pc,.obj b2 (YT nc),Zc gz 2]) ?_ ?_))
 ·refine W4 (k3>0) (fun ZC=>?_) (fun ZC=>?_)
  ·exact az (ZM 1 [1] (Zz [] (Z60 nb (hn:=VY.fn.ok) (hz:=(VY.zn.sz om)) (hwb:=(fun r hr=>(VY.wl om r hr).w))) (ZI 1 b2 (YT (Gw nb)) (ie (ZQ ⟨(Gw nb),pb+1,((VY.wn om).sp.zn),(fun _=>(VY.wn om).sp),ob,rfl,rfl⟩ (wk [1,0,0] fl))))))
  exact ak (ZQ ⟨nb,pb+1,(VY.zn.le om),(fun h=>by omega),ob,rfl,rfl⟩ (ZE 3 fl))
 rintro F h ⟨nc,pc,CM,CN,Ol,rfl,rfl⟩
 refine Yb (XP (fun fz gz F h=>∃(nd:Zk) (pd:Nat),(ZN nd 7330626)/\(p<=pd/\pd<=p+400014)/\F=sF [0,2,3] fz []/\h=[Yx rd bs pd,.obj b2 (YT nd),Zc gz 2]) ?_ ?_)
 ·refine W4 (k3>1) (fun Ye=>?_) (fun Ye=>?_)
  ·exact az (ZM 1 [1] (Zz [] (Z5x nc (hn:=(CN (by assumption)).ok) (hz:=(CM.sz om)) (hwb:=(fun r hr=>((CN (by assumption)).wl r hr).w)) (hnr:=(fun r hr=>((CN (by assumption)).wl r hr).nr))) (ZI 1 b2 (YT (Gg nc)) (ie (ZQ ⟨(Gg nc),pc,(CN (by assumption)).ru,ob,rfl,rfl⟩ (wk [1,0,0] fl))))))
  exact ak (ZQ ⟨nc,pc,CM,ob,rfl,rfl⟩ (ZE 3 fl))
 rintro F h ⟨nd,pd,QK,Z84,rfl,rfl⟩
 refine YL 1 (ic [0] (W2 rd bs pd 6 (ZH:=ob)) ?_)
 rintro _ _ ⟨k4,rfl,rfl,Wn⟩
 refine YB (k4==0) Zp (fun Xf=>?_) (fun Xf=>?_)
 ·refine az (ZM 2 [1] (ic [0] (NG rd bs (pd+1) nd (ZH:=ob) (hz:=(by first|exact (FO.zn hcp.1).sz om|exact QK.sz om)) (hl1:=(by first|(have:=hcp.1.fn.len;omega)|(have:=QK.len;omega)))) ?_))
  rintro _ _ ⟨n23,p23,rfl,rfl,WL⟩
  have hho:=WL
  exact ZI 1 b2 (YT n23) (ie (Zv 1 [0] (ZI 2 b1 (YT n23) (ie (ZD (r3 [2] [Yn n23] [0] [(b1,b1)] ⟨n23,p23,rfl,rfl,(by first|exact ⟨QK.held hho.1,by omega,by omega⟩|exact ⟨QK.le om,by omega,by omega⟩)⟩ (lr _)))))))
 exact ak (Zv 1 [1] (ZI 2 b1 (YT nd) (ie (ZD (r3 [1] [Yn nd] [0] [(b1,b1)] ⟨nd,pd+1,rfl,rfl,(by first|exact ⟨QK.held hho.1,by omega,by omega⟩|exact ⟨QK.le om,by omega,by omega⟩)⟩ (lr _))))))
theorem Z65 (rd:Nat) (bs:LI) (p:Nat) (xs:LI) (ZH:∀z∈bs,0<=z/\z<=255) (hp:p+3<=1000000000:=by exact ob) (hl:xs.length<=1000000:=by exact ob):Zl 112 [.p rd 0,Z4 xs] [Yx rd bs p] (fun r h=>∃(zs:LI) (p2:Nat),r=Z4 zs/\h=[Yx rd bs p2]/\zs.length<=xs.length+1/\p<=p2/\p2<=p+3):=by
 refine ZG 32 Tryz.func112 (ZF (Y5 1 (ic [] (Bf xs) ?_)))
 rintro _ _ ⟨v1,rfl,rfl⟩
 refine Z0 (YL 1 (Zm (J0 0 v1 xs) (Z2 2 (ib (b:=(decide ((xs.length:Int)>0))) 11 (fun Zb=>?_) (fun Zb=>?_)))))
 ·have ZW:(xs.length:Int)>0:=(dq).1 Zb
  refine Z2 1 (ic [1] (W2 rd bs p 2 (ZH:=ob)) ?_)
  rintro _ _ ⟨k1,rfl,rfl,Yh⟩
  refine YB (k1==0) Zp (fun Za=>?_) (fun Za=>?_)
  ·refine Y5 3 (Zm (J0 1 v1 xs) (ic [0] (JD rd bs (p+1) xs.length (ZH:=ob)) ?_))
   rintro _ _ ⟨YF,rfl,rfl,YE⟩
   refine Z2 1 (iL (Z6 [0,1,-1,7,1000,1001]) 6 1 fun v2=>ZP 0 [(22,Z4 [0,1,-1,7,1000,1001])] (ic [1] (VO rd bs ((p+1)+1) [0,1,-1,7,1000,1001] (ZH:=ob)) ?_))
   rintro _ _ ⟨z1,rfl,rfl,YN⟩
   exact Zm (Wo 2 v1 xs (YF:Int) YF) (CH 2 v1 xs YF z1 (ie (ZF (Do 4 0 (v:=v1) (xs:=(xs.set YF z1)) (ZD (r2 [1] [ZT (xs.set YF z1) v1.v] ⟨(xs.set YF z1),((p+1)+1)+1,rfl,rfl,⟨by simp,by omega,by omega⟩⟩ (Zd.forget _ _)))))))
  refine ak (Y5 2 (iL (Z6 [0,1,2,-1,1000]) 5 1 fun v3=>ZP 0 [(28,Z4 [0,1,2,-1,1000])] (ic [1] (VO rd bs (p+1) [0,1,2,-1,1000] (ZH:=ob)) ?_)))
  rintro _ _ ⟨z2,rfl,rfl,X8⟩
  exact iL (Z6 [z2]) 1 1 fun v4=>ZP 0 [(30,Z4 [z2])] (QI 3 v1 xs [z2] none fun v5=>Z0 (Do 4 0 (v:=v5) (xs:=(xs++[z2])) (ZD (r2 [2] [ZT (xs++[z2]) v5.v] ⟨(xs++[z2]),(p+1)+1,rfl,rfl,⟨by simp,by omega,by omega⟩⟩ (Zd.forget _ _)))))
 have XJ:¬((xs.length:Int)>0):=Ya dq Zb
 refine Z0 (We (ak (Y5 2 (iL (Z6 [0,1,2,-1,1000]) 5 1 fun v6=>ZP 0 [(28,Z4 [0,1,2,-1,1000])] (ic [2] (VO rd bs p [0,1,2,-1,1000] (ZH:=ob)) ?_)))))
 rintro _ _ ⟨z3,rfl,rfl,Wn⟩
 exact iL (Z6 [z3]) 1 1 fun v7=>ZP 0 [(30,Z4 [z3])] (QI 3 v1 xs [z3] none fun v8=>Z0 (Do 4 0 (v:=v8) (xs:=(xs++[z3])) (ZD (r2 [2] [ZT (xs++[z3]) v8.v] ⟨(xs++[z3]),p+1,rfl,rfl,⟨by simp,by omega,by omega⟩⟩ (Zd.forget _ _)))))
theorem Z2b (s:Z5) (hz:s.sz<=1000000000:=by exact ob):Zl 139 [YG s] [] (fun r h=>∃(v:Hd),r=.agg [.i s.op,.i s.num,.i s.into,.h v,XZ s.kids]/\h=[rV v s.args]):=by
 have hkz:=Tv s
 have haz:=Qf s
 refine ZG 33 Tryz.func139 (ar (iA (Xv s) fun b1=>iA [.i 0,.i 0,.i 0,nl,nl] fun b2=>ie (ar (iL (YK []) 0 2 fun v1=>?_))))
 refine Z0 (Yb (ab 0 (Y4 (fun fz gz m F h=>∃(k:Nat) (v:Value),(k<=s.kids.length)/\F=sF [1,2] fz [(3,Ti (s.kids.take k) v),(4,.i k)]/\h=[Zc gz 1,Zc gz 2,.tail v 2]/\m=s.kids.length-k) _ _ _ ⟨0,v1,ob,rfl,rfl,rfl⟩ (wk [1,1,0] (fc (x:=Ti [] v1) (Zd.slh _ (Ym YK rfl)) (Yd fl))) ?_)))
 rintro m F h ⟨k,v,Yg,rfl,rfl,rfl⟩
 refine Yi 3 [1] (iw (Ue s.kids) (Y0 ((k:Int)<(s.kids.length:Int)) (fun Za=>?_) (fun Za=>?_)))
 ·refine ak (aq (ab 1 (az (ZM 4 [1] ?_))))
  obtain ⟨x1,Z3⟩:=Zt s.kids k om
  have hks:=Tt Z3
  exact Zm (Zh none (k:Int) 2 (UR Z3)) (Z2 1 (Zz [] (Gx x1) (iL [ZZ x1] 1 2 fun v2=>ZP 0 [(20,.sl [ZZ x1] none)] (ip 3 (YK (s.kids.take (k+1))) (YK (s.kids.take k)) [ZZ x1] v none 2 (TK _) (Qk rfl) rfl (by simp<;>omega) (by rw [V7 Z3];simp [Tb]) fun v3=>Z0 (az (Z2 1 (ZK k (Z0 (ZL ⟨k+1,v3,ob,rfl,rfl,rfl⟩ (wk [2,2,0] (fr (ZO k fl))))))))))))
 refine ax 0 (aD 12 (ZJ 3 12 [0,1,2,3,4,5,6,7,9] [1,1,1,1] (Z7 8 (dc 8 [] [1,1,1] [b1,b1,b1] (Bf s.args) ?_))))
 rintro _ _ ⟨v4,rfl,rfl⟩
 exact Zj 1 2 [10] (Z7 11 (YJ 11 1 [] [] b2 [.i s.op,.i s.num,.i s.into,.h v4,Ti (s.kids.take k) v] (de (ZD (r3 [1] [.agg [.i s.op,.i s.num,.i s.into,.h v4,Ti (s.kids.take k) v]] [0] [(b2,b2)] ⟨v4,rfl,rfl⟩ (Zd.agg (.cons (lr _) (.cons (lr _) (.cons (lr _) (.cons (lr _) (.cons (Zd.sl _ (Ym YK (by rw [Vq om]))) .nil)))))))))))
theorem NN (rd:Nat) (bs:LI) (p:Nat) (s:Z5) (ZH:∀z∈bs,0<=z/\z<=255) (hp:p+3<=1000000000:=by exact ob) (hz:s.sz<=100000000:=by exact ob) (hg:s.rng:=by exact ob):Zl 147 [.p rd 0,YG s] [Yx rd bs p] (fun r h=>∃(y:Z5) (p2:Nat),r=YG y/\h=[Yx rd bs p2]/\U5 s y/\p<=p2/\p2<=p+3):=by
 have haz:=Qf s
 have hkz:=Tv s
 refine ZG 66 Tryz.func147 (ar (iA (Xv s) fun b1=>iA [.i 0,.i 0,.i 0,nl,nl] fun b2=>ie (Zv 1 [1] (ic [] (Z2b s) ?_))))
 rintro _ _ ⟨v1,rfl,rfl⟩
 refine iA [.i 0,.i 0,.i 0,nl,nl] fun b3=>ZI 0 b3 [.i s.op,.i s.num,.i s.into,.h v1,XZ s.kids] (ie (YL 1 (ic [4] (W2 rd bs p 6 (ZH:=ob)) ?_)))
 rintro _ _ ⟨k1,rfl,rfl,ZW⟩
 refine ie (ab 0 (ar (YB (k1==0) Zp (fun Za=>?_) (fun Za=>?_))))
 ·refine az (Z2 1 (iL (Z6 [14,15,16,17,6,9,12,0,1]) 9 1 fun v2=>ZP 0 [(13,Z4 [14,15,16,17,6,9,12,0,1])] (ic [1] (VO rd bs (p+1) [14,15,16,17,6,9,12,0,1] (ZH:=ob)) ?_)))
  rintro _ _ ⟨z1,rfl,rfl,Yh⟩
  have hon:=Yh
  exact Z2 1 (ZI 2 b3 [.i z1,.i s.num,.i s.into,.h v1,XZ s.kids] (ie (ar (XW (JK 3 v1 s.args) (XW (Tl 0 0 3 v1.v 1 b3 (Z6 s.args) [.i z1,.i s.num,.i s.into,.h v1,XZ s.kids] (YA _) rfl) (ZM 1 [0] (ZI 4 b2 [.i z1,.i s.num,.i s.into,ZT s.args v1.v,XZ s.kids] (ie (ZD (r3 [3] [.agg [.i z1,.i s.num,.i s.into,ZT s.args v1.v,XZ s.kids]] [0] [(b2,b2)] ⟨(Z5.mk z1 s.num s.into s.args s.kids),(p+1)+1,rfl,rfl,⟨by first|exact U5.refl hg|exact U5.of hg (by first|exact .inl rfl|exact .inr hon) (by first|exact Nat.le_succ _|(simp<;>omega)) (by first|exact .inl rfl|exact .inr rfl),by omega,by omega⟩⟩ (Zd.agg (.cons (lr _) (.cons (lr _) (.cons (lr _) (.cons (Zd.forget _ _) (.cons (lr _) .nil))))))))))))))))
 refine ar (YB (k1==1) Zp (fun Zg=>?_) (fun Zg=>?_))
 ·refine az (Z2 1 (iL (Z6 [0,1,2,3,-1,1000]) 6 1 fun v3=>ZP 0 [(19,Z4 [0,1,2,3,-1,1000])] (ic [1] (VO rd bs (p+1) [0,1,2,3,-1,1000] (ZH:=ob)) ?_)))
  rintro _ _ ⟨z2,rfl,rfl,YE⟩
  have hon:=YE
  exact Z2 1 (ZI 2 b3 [.i s.op,.i z2,.i s.into,.h v1,XZ s.kids] (ie (ar (XW (JK 3 v1 s.args) (XW (Tl 0 0 3 v1.v 1 b3 (Z6 s.args) [.i s.op,.i z2,.i s.into,.h v1,XZ s.kids] (YA _) rfl) (ZM 1 [0] (ZI 4 b2 [.i s.op,.i z2,.i s.into,ZT s.args v1.v,XZ s.kids] (ie (ZD (r3 [3] [.agg [.i s.op,.i z2,.i s.into,ZT s.args v1.v,XZ s.kids]] [0] [(b2,b2)] ⟨(Z5.mk s.op z2 s.into s.args s.kids),(p+1)+1,rfl,rfl,⟨by first|exact U5.refl hg|exact U5.of hg (by first|exact .inl rfl|exact .inr hon) (by first|exact Nat.le_succ _|(simp<;>omega)) (by first|exact .inl rfl|exact .inr rfl),by omega,by omega⟩⟩ (Zd.agg (.cons (lr _) (.cons (lr _) (.cons (lr _) (.cons (Zd.forget _ _) (.cons (lr _) .nil))))))))))))))))
 refine ar (YB (k1==2) Zp (fun ZC=>?_) (fun ZC=>?_))
 ·refine az (Z2 1 (iL (Z6 [1,2,0,-1,90]) 5 1 fun v4=>ZP 0 [(25,Z4 [1,2,0,-1,90])] (ic [1] (VO rd bs (p+1) [1,2,0,-1,90] (ZH:=ob)) ?_)))
  rintro _ _ ⟨z3,rfl,rfl,YN⟩
  have hon:=YN
  exact Z2 1 (ZI 2 b3 [.i s.op,.i s.num,.i z3,.h v1,XZ s.kids] (ie (ar (XW (JK 3 v1 s.args) (XW (Tl 0 0 3 v1.v 1 b3 (Z6 s.args) [.i s.op,.i s.num,.i z3,.h v1,XZ s.kids] (YA _) rfl) (ZM 1 [0] (ZI 4 b2 [.i s.op,.i s.num,.i z3,ZT s.args v1.v,XZ s.kids] (ie (ZD (r3 [3] [.agg [.i s.op,.i s.num,.i z3,ZT s.args v1.v,XZ s.kids]] [0] [(b2,b2)] ⟨(Z5.mk s.op s.num z3 s.args s.kids),(p+1)+1,rfl,rfl,⟨by first|exact U5.refl hg|exact U5.of hg (by first|exact .inl rfl|exact .inr hon) (by first|exact Nat.le_succ _|(simp<;>omega)) (by first|exact .inl rfl|exact .inr rfl),by omega,by omega⟩⟩ (Zd.agg (.cons (lr _) (.cons (lr _) (.cons (lr _) (.cons (Zd.forget _ _) (.cons (lr _) .nil))))))))))))))))
 refine ar (YB (k1==3) Zp (fun Ye=>?_) (fun Ye=>?_))
 ·refine aE 9 (ZJ 6 9 [0,1,2] [1] (Z7 3 (dL 3 [1] [b3] (Z6 [0,1,-1]) 3 1 fun v5=>Yr 5 5 [] [(33,Z4 [0,1,-1])] (Z7 4 (dc 4 [1] [0] [b3] (VO rd bs (p+1) [0,1,-1] (ZH:=ob)) ?_)))))
  rintro _ _ ⟨z4,rfl,rfl,X8⟩
  have hon:=X8
  exact Z7 5 (dL 5 [1] [b3] (Z6 [z4]) 1 1 fun v6=>Yr 3 3 [] [(35,Z4 [z4])] (Z7 6 (dVP 6 4 [] [] v1 s.args [z4] none fun v7=>Zj 1 2 [7] (Z7 8 (YJ 8 4 [] [] b3 [.i s.op,.i s.num,.i s.into,.h v7,XZ s.kids] (de (ar (XW (JK 1 v7 (s.args++[z4])) (XW (Tl 0 0 3 v7.v 1 b3 (Z6 (s.args++[z4])) [.i s.op,.i s.num,.i s.into,.h v7,XZ s.kids] (YA _) rfl) (ZM 1 [0] (ZI 5 b2 [.i s.op,.i s.num,.i s.into,ZT (s.args++[z4]) v7.v,XZ s.kids] (ie (ZD (r3 [4] [.agg [.i s.op,.i s.num,.i s.into,ZT (s.args++[z4]) v7.v,XZ s.kids]] [0] [(b2,b2)] ⟨(Z5.mk s.op s.num s.into (s.args++[z4]) s.kids),(p+1)+1,rfl,rfl,⟨by first|exact U5.refl hg|exact U5.of hg (by first|exact .inl rfl|exact .inr hon) (by first|exact Nat.le_succ _|(simp<;>omega)) (by first|exact .inl rfl|exact .inr rfl),by omega,by omega⟩⟩ (Zd.agg (.cons (lr _) (.cons (lr _) (.cons (lr _) (.cons (Zd.forget _ _) (.cons (lr _) .nil))))))))))))))))))))
 refine ar (YB (k1==4) Zp (fun Xf=>?_) (fun Xf=>?_))
 ·refine Zv 2 [1] (Zm (J0 2 v1 s.args) (Y0 ((s.args.length:Int)>0) (fun Xb=>?_) (fun Xb=>?_)))
  ·refine aE 12 (ZJ 7 12 [0,1,2,3,4] [1,1] (dx 5 (J0 2 v1 s.args) (Zj 5 6 [7] (VE 6 8 ?_ ?_))))
   ·refine dc 6 [0] [0] [b3] (JD rd bs (p+1) s.args.length (ZH:=ob)) ?_
    rintro _ _ ⟨YF,rfl,rfl,XJ⟩
    refine Z7 8 (dL 8 [1] [b3] (Z6 [0,1,2,3,-1,99]) 6 1 fun v8=>Yr 3 3 [] [(52,Z4 [0,1,2,3,-1,99])] (Z7 9 (dc 9 [1] [0] [b3] (VO rd bs ((p+1)+1) [0,1,2,3,-1,99] (ZH:=ob)) ?_)))
    rintro _ _ ⟨z5,rfl,rfl,Wn⟩
    have hon:=Wn
    exact dx 10 (Wo 3 v1 s.args (YF:Int) YF) (Z7 11 (Jy 11 3 [] [] v1 s.args YF z5 (de (ar (XW (JK 0 v1 (s.args.set YF z5)) (XW (Tl 0 2 3 v1.v 1 b3 (Z6 (s.args.set YF z5)) [.i s.op,.i s.num,.i s.into,.h v1,XZ s.kids] (YA _) rfl) (ZM 1 [0] (ZI 4 b2 [.i s.op,.i s.num,.i s.into,ZT (s.args.set YF z5) v1.v,XZ s.kids] (ie (ZD (r3 [3] [.agg [.i s.op,.i s.num,.i s.into,ZT (s.args.set YF z5) v1.v,XZ s.kids]] [0] [(b2,b2)] ⟨(Z5.mk s.op s.num s.into (s.args.set YF z5) s.kids),((p+1)+1)+1,rfl,rfl,⟨by first|exact U5.refl hg|exact U5.of hg (by first|exact .inl rfl|exact .inr hon) (by first|exact Nat.le_succ _|(simp<;>omega)) (by first|exact .inl rfl|exact .inr rfl),by omega,by omega⟩⟩ (Zd.agg (.cons (lr _) (.cons (lr _) (.cons (lr _) (.cons (Zd.forget _ _) (.cons (lr _) .nil)))))))))))))))))
   refine dL 8 [1,1] [b3,b3] (Z6 [0,1,2,3,-1,99]) 6 1 fun v9=>Z7 6 (dc 6 [1] [0] [b3] (JD rd bs (p+1) s.args.length (ZH:=ob)) ?_)
   rintro _ _ ⟨X3,rfl,rfl,WL⟩
   refine Yr 3 3 [] [(52,Z4 [0,1,2,3,-1,99])] (Z7 9 (dc 9 [0] [0] [b3] (VO rd bs ((p+1)+1) [0,1,2,3,-1,99] (ZH:=ob)) ?_))
   rintro _ _ ⟨z6,rfl,rfl,V5⟩
   have hon:=V5
   exact dx 10 (Wo 3 v1 s.args (X3:Int) X3) (Z7 11 (Jy 11 3 [] [] v1 s.args X3 z6 (de (ar (XW (JK 0 v1 (s.args.set X3 z6)) (XW (Tl 0 2 3 v1.v 1 b3 (Z6 (s.args.set X3 z6)) [.i s.op,.i s.num,.i s.into,.h v1,XZ s.kids] (YA _) rfl) (ZM 1 [0] (ZI 4 b2 [.i s.op,.i s.num,.i s.into,ZT (s.args.set X3 z6) v1.v,XZ s.kids] (ie (ZD (r3 [3] [.agg [.i s.op,.i s.num,.i s.into,ZT (s.args.set X3 z6) v1.v,XZ s.kids]] [0] [(b2,b2)] ⟨(Z5.mk s.op s.num s.into (s.args.set X3 z6) s.kids),((p+1)+1)+1,rfl,rfl,⟨by first|exact U5.refl hg|exact U5.of hg (by first|exact .inl rfl|exact .inr hon) (by first|exact Nat.le_succ _|(simp<;>omega)) (by first|exact .inl rfl|exact .inr rfl),by omega,by omega⟩⟩ (Zd.agg (.cons (lr _) (.cons (lr _) (.cons (lr _) (.cons (Zd.forget _ _) (.cons (lr _) .nil)))))))))))))))))
  exact ak (ar (XW (JK 2 v1 s.args) (XW (Tl 0 1 3 v1.v 1 b3 (Z6 s.args) [.i s.op,.i s.num,.i s.into,.h v1,XZ s.kids] (YA _) rfl) (ZM 1 [0] (ZI 3 b2 [.i s.op,.i s.num,.i s.into,ZT s.args v1.v,XZ s.kids] (ie (ZD (r3 [3] [.agg [.i s.op,.i s.num,.i s.into,ZT s.args v1.v,XZ s.kids]] [0] [(b2,b2)] ⟨s,p+1,rfl,rfl,⟨by first|exact U5.refl hg|exact U5.of hg (by first|exact .inl rfl|exact .inr hon) (by first|exact Nat.le_succ _|(simp<;>omega)) (by first|exact .inl rfl|exact .inr rfl),by omega,by omega⟩⟩ (Zd.agg (.cons (lr _) (.cons (lr _) (.cons (lr _) (.cons (Zd.forget _ _) (.cons (lr _) .nil))))))))))))))
 refine ar (YB (k1==5) Zp (fun Vu=>?_) (fun Vu=>?_))
 ·refine Zv 2 [1] (iw (Ue s.kids) (Y0 ((s.kids.length:Int)>0) (fun Vj=>?_) (fun Vj=>?_)))
  ·exact az (ZM 2 [1] (Zm (KW (es:=YK s.kids) (hv:=none) (l:=1) (m:=(((YK s.kids).length:Nat):Int)) (sz:=2) (es':=YK (s.kids.drop 1)) kr om (by simp<;>omega) (by simp<;>omega) (TK _) (by first|(simp only [VT,VA,HE,HD];done)|(simp only [VT,VA,HE,HD];rfl)|(simp [HE,HD];done))) (Z2 1 (ZI 1 b3 [.i s.op,.i s.num,.i s.into,.h v1,XZ (s.kids.drop 1)] (ie (ar (XW (JK 2 v1 s.args) (XW (Tl 0 0 3 v1.v 1 b3 (Z6 s.args) [.i s.op,.i s.num,.i s.into,.h v1,XZ (s.kids.drop 1)] (YA _) rfl) (ZM 1 [0] (ZI 3 b2 [.i s.op,.i s.num,.i s.into,ZT s.args v1.v,XZ (s.kids.drop 1)] (ie (ZD (r3 [3] [.agg [.i s.op,.i s.num,.i s.into,ZT s.args v1.v,XZ (s.kids.drop 1)]] [0] [(b2,b2)] ⟨(Z5.mk s.op s.num s.into s.args (s.kids.drop 1)),p+1,rfl,rfl,⟨by first|exact U5.refl hg|exact U5.of hg (by first|exact .inl rfl|exact .inr hon) (by first|exact Nat.le_succ _|(simp<;>omega)) (by first|exact .inl rfl|exact .inr rfl),by omega,by omega⟩⟩ (Zd.agg (.cons (lr _) (.cons (lr _) (.cons (lr _) (.cons (Zd.forget _ _) (.cons (lr _) .nil)))))))))))))))))))
  exact ak (ar (XW (JK 2 v1 s.args) (XW (Tl 0 1 3 v1.v 1 b3 (Z6 s.args) [.i s.op,.i s.num,.i s.into,.h v1,XZ s.kids] (YA _) rfl) (ZM 1 [0] (ZI 3 b2 [.i s.op,.i s.num,.i s.into,ZT s.args v1.v,XZ s.kids] (ie (ZD (r3 [3] [.agg [.i s.op,.i s.num,.i s.into,ZT s.args v1.v,XZ s.kids]] [0] [(b2,b2)] ⟨s,p+1,rfl,rfl,⟨by first|exact U5.refl hg|exact U5.of hg (by first|exact .inl rfl|exact .inr hon) (by first|exact Nat.le_succ _|(simp<;>omega)) (by first|exact .inl rfl|exact .inr rfl),by omega,by omega⟩⟩ (Zd.agg (.cons (lr _) (.cons (lr _) (.cons (lr _) (.cons (Zd.forget _ _) (.cons (lr _) .nil))))))))))))))
 exact ak (ar (XW (JK 2 v1 s.args) (XW (Tl 0 1 3 v1.v 1 b3 (Z6 s.args) [.i s.op,.i s.num,.i s.into,.h v1,XZ s.kids] (YA _) rfl) (ZM 1 [0] (ZI 3 b2 [.i s.op,.i s.num,.i s.into,ZT s.args v1.v,XZ s.kids] (ie (ZD (r3 [3] [.agg [.i s.op,.i s.num,.i s.into,ZT s.args v1.v,XZ s.kids]] [0] [(b2,b2)] ⟨s,p+1,rfl,rfl,⟨by first|exact U5.refl hg|exact U5.of hg (by first|exact .inl rfl|exact .inr hon) (by first|exact Nat.le_succ _|(simp<;>omega)) (by first|exact .inl rfl|exact .inr rfl),by omega,by omega⟩⟩ (Zd.agg (.cons (lr _) (.cons (lr _) (.cons (lr _) (.cons (Zd.forget _ _) (.cons (lr _) .nil))))))))))))))
theorem Z5t (rd:Nat) (bs:LI) (p:Nat) (mx:Int) (ZH:∀z∈bs,0<=z/\z<=255) (hp:p+1<=1000000000):Zl 79 [.p rd 0,.i mx] [Yx rd bs p] (fun r h=>∃(k:Int),r=.i k/\h=[.obj rd [U9 bs,.i (p+1:Nat)]]/\Pk mx k/\k=Ak bs p mx):=by
 refine ZG 99 Tryz.func79 (ZF (Zv 5 [0] (ZK p (Z2 2 (ZI 0 rd [U9 bs,.i (p+1:Nat)] (ie (X0 (Xo [0,1] [(24,.b ((decide (mx<1))||((bs.length:Int)==0)))] (fun gz=>gz) ?_ ?_))))))))
 ·refine Z2 3 (ib (b:=(decide (mx<1))) 17 (fun Zb=>?_) (fun Zb=>?_))
  ·exact Z0 (wk [0] (Zu true Zb fl))
  exact ZM 4 [0] (iw (Kz bs) (Z0 (wk [0] (Zu ((bs.length:Int)==0) Zb fl))))
 refine ac ((decide (mx<1))||((bs.length:Int)==0)) (p:=(mx<1)∨((bs.length:Int)=0)) (Yj dq Zp) (fun Za=>?_) (fun Za=>?_)
 ·exact ar (Zq (r1 [0] ⟨0,rfl,rfl,⟨Pk.zero,by rw [Ak,Ze om]⟩⟩))
 refine ak (Zv 4 [0] (ia ((p:Int)) ((((p+1:Nat):Int))-(1)) (Z0 (Yi 5 [0] (iw (Kz bs) (Y0 ((p:Int)<(bs.length:Int)) (fun Zg=>?_) (fun Zg=>?_)))))))
 ·refine Zv 5 [0] ?_
  obtain ⟨x1,Z3⟩:=Zt bs p om
  have hz:=ZH _ (Y2 Z3)
  exact Zm (Zh none (p:Int) 1 (Cq Z3)) (Z2 1 (Zm (CO x1 om) (Z2 1 (Zm (DS x1 mx om om) (Zq (r1 [0] ⟨(x1 % mx),rfl,rfl,⟨Pk.rem om om,by rw [Ak,Z8 om,Ze om,Z3];rfl⟩⟩))))))
 have hq1:p / bs.length<=p:=Nat.div_le_self _ _
 have hq0:(0:Int)<=((p / bs.length:Nat):Int):=Int.natCast_nonneg _
 refine ak (aD 46 (ZJ 37 46 [0,1,2,3,4,5,6,7,8] [0,0] (dw 9 (Kz bs) (dx 10 (FJ p bs.length om om) ?_))))
 obtain ⟨x2,Zr⟩:=Zt bs (p % bs.length) (Nat.mod_lt _ om)
 have hz:=ZH _ (Y2 Zr)
 have hy2:=Zr
 refine dx 11 (Zh none ((p % bs.length:Nat):Int) 1 (Cq Zr)) (Zj 33 34 [12] (dx 13 (CO x2 om) (da 14 ((x2*131)) ((x2)*(131)) (ZJ 26 31 [15,16,17,18,19] [0] (da 20 (((p*7:Nat):Int)) (((p:Int))*(7)) (da 21 (((p*7+3:Nat):Int)) ((((p*7:Nat):Int))+(3)) (ZJ 20 24 [22,23,24,25] [0] (dw 26 (Kz bs) (dx 27 (FJ (p*7+3) bs.length om om) ?_)))))))))
 obtain ⟨x3,YI⟩:=Zt bs ((p*7+3) % bs.length) (Nat.mod_lt _ om)
 have hz3:=ZH _ (Y2 YI)
 have hy3:=YI
 exact dx 28 (Zh none (((p*7+3) % bs.length:Nat):Int) 1 (Cq YI)) (Zj 16 17 [29] (dx 30 (CO x3 om) (da 31 ((x3*1117)) ((x3)*(1117)) (da 32 (((x2*131)+(x3*1117))) (((x2*131))+((x3*1117))) (Zj 12 13 [33] (da 34 (((p*29:Nat):Int)) (((p:Int))*(29)) (da 35 ((((x2*131)+(x3*1117))+((p*29:Nat):Int))) ((((x2*131)+(x3*1117)))+(((p*29:Nat):Int))) (ZJ 5 10 [36,37,38,39,40] [0] (dw 41 (Kz bs) (dx 42 (BW p bs.length om om) (da 43 ((((p / bs.length:Nat):Int)*53)) ((((p / bs.length:Nat):Int))*(53)) (da 44 (((((x2*131)+(x3*1117))+((p*29:Nat):Int))+(((p / bs.length:Nat):Int)*53))) (((((x2*131)+(x3*1117))+((p*29:Nat):Int)))+((((p / bs.length:Nat):Int)*53))) (Zj 0 1 [45] (de (Y5 2 (Zm (Iv ((((x2*131)+(x3*1117))+((p*29:Nat):Int))+(((p / bs.length:Nat):Int)*53)) 64 om om) (Zm (Ot ((((x2*131)+(x3*1117))+((p*29:Nat):Int))+(((p / bs.length:Nat):Int)*53)) (((((x2*131)+(x3*1117))+((p*29:Nat):Int))+(((p / bs.length:Nat):Int)*53)) / 64)) (Z0 (Y5 2 (Zm (DS (Ar ((((x2*131)+(x3*1117))+((p*29:Nat):Int))+(((p / bs.length:Nat):Int)*53)) (((((x2*131)+(x3*1117))+((p*29:Nat):Int))+(((p / bs.length:Nat):Int)*53)) / 64)) mx om (GQ ⟨by omega,by omega⟩ ⟨by omega,by omega⟩).1) (Zq (r1 [0] ⟨((Ar ((((x2*131)+(x3*1117))+((p*29:Nat):Int))+(((p / bs.length:Nat):Int)*53)) (((((x2*131)+(x3*1117))+((p*29:Nat):Int))+(((p / bs.length:Nat):Int)*53)) / 64)) % mx),rfl,rfl,⟨Pk.rem (GQ ⟨by omega,by omega⟩ ⟨by omega,by omega⟩).1 om,by rw [Ak,Z8 om,Z8 om,hy2,hy3];rfl⟩⟩))))))))))))))))))))))
theorem Z5u (rd:Nat) (bs:LI) (p:Nat) (mx:Nat) (ZH:∀z∈bs,0<=z/\z<=255) (hp:p+1<=1000000000:=by exact ob) (hmx:0<mx:=by exact ob):Zl 79 [.p rd 0,.i mx] [Yx rd bs p] (fun r h=>∃(kn:Nat),r=.i kn/\h=[.obj rd [U9 bs,.i (p+1:Nat)]]/\kn<mx/\kn=(Ak bs p mx).toNat):=(Z5t rd bs p mx ZH hp).mono fun r h ⟨z,hr,hh,hz,he⟩=>by
  have h0:=hz.lt om
  exact ⟨z.toNat,by rw [hr,Int.toNat_of_nonneg h0.1],hh,by omega,by rw [he]⟩
theorem Z2a (s:Z5) (hz:s.sz<=1000000000):Zl 139 [YG s] [] (fun r h=>∃(v:Hd),r=.agg [.i s.op,.i s.num,.i s.into,Z4 s.args,.h v]/\h=[rK v 2 (Zo (YK s.kids))]):=by
 have hkz:=Tv s
 have haz:=Qf s
 refine ZG 33 Tryz.func139 (ar (iA (Xv s) fun b1=>iA [.i 0,.i 0,.i 0,nl,nl] fun b2=>ie (ar (DP 2 fun g1=>?_))))
 refine Z0 (Yb (ab 0 (Y4 (fun fz gz m F h=>∃(k:Nat) (v:Hd),(k<=s.kids.length)/\F=sF [1,2] fz [(3,.h v),(4,.i k)]/\h=[Zc gz 1,Zc gz 2,rK v 2 (Zo (YK (s.kids.take k)))]/\m=s.kids.length-k) _ _ _ ⟨0,(⟨some ⟨g1,0,none⟩,0,0⟩:Hd),ob,rfl,rfl,rfl⟩ (wk [1,1,0] (fr (Yd fl)) (e:=(rc (rc (rr (ls:=[]) ob rz))))) ?_)))
 rintro m F h ⟨k,v,Yg,rfl,rfl,rfl⟩
 refine Yi 3 [1] (iw (Ue s.kids) (Y0 ((k:Int)<(s.kids.length:Int)) (fun Za=>?_) (fun Za=>?_)))
 ·refine ak (aq (ab 1 (az (ZM 4 [1] ?_))))
  obtain ⟨x1,Z3⟩:=Zt s.kids k om
  have hks:=Tt Z3
  exact Zm (Zh none (k:Int) 2 (UR Z3)) (Z2 1 (Zz [] (Gx x1) (iL [ZZ x1] 1 2 fun v1=>ZP 0 [(20,.sl [ZZ x1] none)] (FA 3 k v 2 (Zo (YK (s.kids.take k))) [ZZ x1] none (by rw [DH,WH,VB om]) (Qk rfl) rfl (List.cons_ne_nil _ _) (by simp<;>omega) fun v2=>Z0 (az (Z2 1 (ZK k (Z0 (ZL ⟨k+1,v2,ob,rfl,rfl,rfl⟩ (wk [2,2,0] (fr (ZO k fl)) (e:=(rc (rc (rr (ls:=Zo (YK (s.kids.take k))++Zo [ZZ x1]) (Z3z Z3) rz))))))))))))))
 refine ax 0 (aD 12 (ZJ 3 12 [0,1,2,3,4,5,6,7,9] [1,1,1,1] (Z7 8 (dc 8 [] [1,1,1] [b1,b1,b1] (Ub s.args) ?_))))
 rintro _ _ ⟨v3,rfl,rfl⟩
 exact Zj 1 2 [10] (Z7 11 (YJ 11 1 [] [] b2 [.i s.op,.i s.num,.i s.into,ZT s.args v3,.h v] (de (ZD (r3 [3] [.agg [.i s.op,.i s.num,.i s.into,ZT s.args v3,.h v]] [0] [(b2,b2)] ⟨v,rfl,rfl⟩ (Zd.agg (.cons (lr _) (.cons (lr _) (.cons (lr _) (.cons (Zd.forget _ _) (.cons (lr _) .nil)))))) (eq:=(rr (ls:=Zo (YK (s.kids.take k))) (by rw [Vq om]) rz)))))))
theorem Z29 (s:Z5) (fl:Bool) (hz:s.sz<=1000000000:=by exact ob):Zl 139 [YG s] [] (fun r h=>(∃(v:Hd),r=.agg [.i s.op,.i s.num,.i s.into,Z4 s.args,.h v]/\h=[rK v 2 (Zo (YK s.kids))]/\fl=true)∨(r=YG s/\h=[]/\fl=false)):=by
 cases fl with
 | true=>exact (Z2a s hz).mono fun r h ⟨v,hr,hh⟩=>.inl ⟨v,hr,hh,rfl⟩
 | false=>exact (Rr s hz).mono fun r h ⟨hr,hh⟩=>.inr ⟨hr,hh,rfl⟩
theorem Z26 (b:Z9) (kk:Nat) (hz:b.sz<=1000000000:=by exact ob) (hkk:kk<b.steps.length:=by exact ob):Zl 97 [ZZ b] [] (fun r h=>∃(v:Hd) (u:Hd),r=.agg [.h v,.i b.result]/\h=[rK v 5 (WX b kk u.v b.steps.length),rK u 2 (Th b kk b.steps.length)]):=by
 have hbz:=VS b
 refine ZG 28 Tryz.func97 (ar (iA (Xk b) fun b1=>iA [nl,.i 0] fun b2=>ie (ar (DP 5 fun g1=>ZM 3 [2] (iA [nl,.i 0] fun b3=>?_)))))
 refine ZI 0 b3 [.ms g1 0 0 0,.i b.result] (ie (X0 (XW (S4 (k:=2)) (Z0 (ab 0 (Y4 (fun fz gz m F h=>∃(k:Nat) (v:Hd) (u:Hd),(k<=b.steps.length)/\F=sF [1,2,3] fz [(4,.i k)]/\h=[.obj b3 [.h v,.i b.result],Zc gz 3,Zc gz 4,rK v 5 (WX b kk u.v k),rK u 2 (Th b kk k)]/\m=b.steps.length-k) _ _ _ ⟨0,(⟨some ⟨g1,0,none⟩,0,0⟩:Hd),hN,ob,rfl,rfl,rfl⟩ (wk [1,2,2,1,0] (Yd fl) (e:=(rc (rc (rc (rr (ls:=[]) (by first|exact Ow.symm|exact Oz.symm) (rr (ls:=[]) (by first|exact Ow.symm|exact Oz.symm) rz))))))) ?_))))))
 rintro m F h ⟨k,v,u,Yg,rfl,rfl,rfl⟩
 refine Yi 3 [2] (iw (VF b.steps) (Y0 ((k:Int)<(b.steps.length:Int)) (fun Za=>?_) (fun Za=>?_)))
 ·refine ak (aq (ab 1 (aE 12 (ZJ 7 12 [0,1,2,3,4] [0,2] ?_))))
  obtain ⟨x1,Z3⟩:=Zt b.steps k om
  have hss:=Kl Z3
  refine dx 5 (Zh none (k:Int) 5 (WD Z3)) (Zj 5 6 [6] (Z7 7 (dc 7 [] [0] [b3] (Z29 x1 (decide (k=kk))) ?_)))
  rintro _ _ (⟨v1,rfl,rfl,ZW⟩|⟨rfl,rfl,Yh⟩)
  ·have hke:k=kk:=of_decide_eq_true ZW
   exact BH (S2 [1,1,1,0,0,0] (h':=[.obj b3 [.h v,.i b.result],.obj b2 [nl,.i 0],.obj b1 (Xk b),rK v1 2 (Zo (YK x1.kids)),rK v 5 (WX b kk u.v k),rK u 2 (Th b kk k)]) (d:=[]) kr) (Z7 8 (dL 8 [0] [b3] [.agg [.i x1.op,.i x1.num,.i x1.into,Z4 x1.args,.h v1]] 1 5 fun v2=>Yr 3 3 [] [(24,.sl [.agg [.i x1.op,.i x1.num,.i x1.into,Z4 x1.args,.h v1]] none)] (Z7 9 (Hw 9 5 k [] [] v 5 (WX b kk u.v k) [.agg [.i x1.op,.i x1.num,.i x1.into,Z4 x1.args,.h v1]] none (Iy om) (Qk rfl) rfl (List.cons_ne_nil _ _) (by simp<;>omega) fun v3=>Zj 1 2 [10] (Z7 11 (YJ 11 2 [] [] b3 [.h v3,.i b.result] (de (az (Z2 1 (ZK k (Z0 (ZL ⟨k+1,v3,v1,ob,rfl,rfl,rfl⟩ (wk [0,2,2,0,1] (ZO k fl) (e:=(rc (rc (rc (rr (ls:=WX b kk u.v k++Zo [.agg [.i x1.op,.i x1.num,.i x1.into,Z4 x1.args,.h v1]]) (by first|(subst hke;exact Ov Z3)|(subst hke;exact Oy Z3)) (rr (ls:=Zo (YK x1.kids)) (by first|(subst hke;exact Ov Z3)|(subst hke;exact Oy Z3)) rz)))))))))))))))))))
  have hke:¬k=kk:=of_decide_eq_false Yh
  exact Z7 8 (dL 8 [0] [b3] [YG x1] 1 5 fun v4=>Yr 3 3 [] [(24,.sl [YG x1] none)] (Z7 9 (Hw 9 4 k [] [] v 5 (WX b kk u.v k) [YG x1] none (Iy om) (Qk rfl) rfl (List.cons_ne_nil _ _) (by simp<;>omega) fun v5=>Zj 1 2 [10] (Z7 11 (YJ 11 2 [] [] b3 [.h v5,.i b.result] (de (az (Z2 1 (ZK k (Z0 (ZL ⟨k+1,v5,u,ob,rfl,rfl,rfl⟩ (wk [0,2,2,0,1] (ZO k fl) (e:=(rc (rc (rc (rr (ls:=WX b kk u.v k++Zo [YG x1]) (by first|exact Ou Z3 hke|exact Ox hke) (rr (ls:=Th b kk k) (by first|exact Ou Z3 hke|exact Ox hke) rz))))))))))))))))))
 exact ax 0 (Zv 1 [0] (ZI 1 b2 [.h v,.i b.result] (ie (ZD (r3 [3,3] [.agg [.h v,.i b.result]] [0] [(b2,b2)] ⟨v,u,rfl,rfl⟩ (lr _) (eq:=(rr (ls:=WX b kk u.v k) (by rw [show k=b.steps.length by omega]) (rr (ls:=Th b kk k) (by rw [show k=b.steps.length by omega]) rz))))))))
theorem Z62 (rd:Nat) (bs:LI) (p:Nat) (b:Z9) (ZH:∀z∈bs,0<=z/\z<=255) (hp:p+(10*b.sz)<=1000000000) (hz:b.sz<=20000000) (hg:b.rng) (h0:b.steps.length=0):Zl 114 [.p rd 0,ZZ b] [Yx rd bs p] (fun r h=>∃(y:Z9) (p2:Nat),r=ZZ y/\h=[Yx rd bs p2]/\XD b y/\p<=p2/\p2<=p+(10*b.sz)):=by
 have hbp:=b.sz_pos
 refine ZG 109 Tryz.func114 (ar (iA (Xk b) fun b1=>iA [nl,.i 0] fun b2=>ie (Zv 1 [1] (Zz [] (Gx b) (iA [nl,.i 0] fun b3=>ZI 0 b3 (Xk b) (ie (Yi 2 [0] (iw (VF b.steps) (Z2 2 (ib (b:=((b.steps.length:Int)==0)) 14 (fun Zb=>?_) (fun Zb=>?_)))))))))))
 ·refine Z0 (XV (Y5 1 (iL (Z6 [0,1,2,3,-1,99]) 6 1 fun v1=>ZP 0 [(20,Z4 [0,1,2,3,-1,99])] (ic [4] (VO rd bs p [0,1,2,3,-1,99] (ZH:=ob)) ?_))))
  rintro _ _ ⟨z1,rfl,rfl,Yh⟩
  exact Z2 1 (ZI 2 b3 [Wz b.steps,.i z1] (ie (Zv 1 [0] (ZI 3 b2 [Wz b.steps,.i z1] (ie (ZD (r3 [2] [.agg [Wz b.steps,.i z1]] [0] [(b2,b2)] ⟨(Z9.mk b.steps z1),p+1,rfl,rfl,⟨XD.result hg _,by have:=b.sz_pos;omega,by have:=b.sz_pos;omega⟩⟩ (lr _))))))))
 have YE:¬((b.steps.length:Int)=0):=Ya Zp Zb
 exact absurd (show (b.steps.length:Int)=0 by omega) YE
theorem Z63 (rd:Nat) (bs:LI) (p:Nat) (b:Z9) (ZH:∀z∈bs,0<=z/\z<=255) (hp:p+(10*b.sz)<=1000000000) (hz:b.sz<=20000000) (hg:b.rng) (h0:0<b.steps.length) (ih:∀(rd:Nat) (bs:LI) (p:Nat) (b2:Z9),(∀z∈bs,0<=z/\z<=255)->(p+(10*b2.sz)<=1000000000)->(b2.sz<=20000000)->(b2.rng)->(b2.sz<b.sz)->Zl 114 [.p rd 0,ZZ b2] [Yx rd bs p] (fun r h=>∃(y:Z9) (p2:Nat),r=ZZ y/\h=[Yx rd bs p2]/\XD b2 y/\p<=p2/\p2<=p+(10*b2.sz))):Zl 114 [.p rd 0,ZZ b] [Yx rd bs p] (fun r h=>∃(y:Z9) (p2:Nat),r=ZZ y/\h=[Yx rd bs p2]/\XD b y/\p<=p2/\p2<=p+(10*b.sz)):=by
 have hbp:=b.sz_pos
 obtain ⟨kk,hkk⟩:∃kk,kk=(Ak bs (p+1) (b.steps.length:Int)).toNat:=⟨_,rfl⟩
 have hkl:kk<b.steps.length:=by have:=Zai (bs:=bs) (p:=p+1) (mx:=(b.steps.length:Int)) om;omega
 obtain ⟨sk,hsk⟩:=Zt b.steps kk hkl
 have hsb:=Kl hsk
 have hsg:=Zaz hg hsk
 have hst:=VS b
 refine ZG 109 Tryz.func114 (ar (iA (Xk b) fun b1=>iA [nl,.i 0] fun b2=>ie (Zv 1 [1] (ic [] (Z26 b kk) ?_))))
 rintro _ _ ⟨v1,u1,rfl,rfl⟩
 refine Fz 0 b.steps.length (v:=v1) (Iy (kk:=kk) (u:=u1.v) (X5 b.steps.length)) om (fun g1 c1 he1=>?_)
 subst he1
 refine XW (S2 [0,1,1,1,0] (h':=[.row (.slice (some ⟨g1,0,none⟩) b.steps.length c1) 5 (WX b kk u1.v b.steps.length),.obj b2 [nl,.i 0],.obj b1 (Xk b),Yx rd bs p,rK u1 2 (Th b kk b.steps.length)]) (d:=[]) kr) (iA [nl,.i 0] fun b3=>ZI 0 b3 [.ms g1 0 b.steps.length c1,.i b.result] (ie (Yi 2 [0] (io (.i b.steps.length) (.i b.steps.length) (lr _) (Z2 2 (ib (b:=((b.steps.length:Int)==0)) 14 (fun Zb=>?_) (fun Zb=>?_)))))))
 ·have ZW:(b.steps.length:Int)=0:=(Zp).1 Zb
  exact absurd ZW om
 have Yh:¬((b.steps.length:Int)=0):=Ya Zp Zb
 refine Z2 1 (ic [4] (W2 rd bs p 5 (ZH:=ob)) ?_)
 rintro _ _ ⟨k1,rfl,rfl,YE⟩
 refine YB (k1==0) Zp (fun Za=>?_) (fun Za=>?_)
 ·refine ar (XW (LM 5 2 b kk sk u1.v (.slice (some ⟨g1,0,none⟩) b.steps.length c1) hsk) (XW (Tl 0 2 0 (.slice (some ⟨g1,0,none⟩) b.steps.length c1) 5 b3 (Zy b.steps) [.ms g1 0 b.steps.length c1,.i b.result] (Xj _) rfl) (Z2 1 (iL (Z6 [0,1,2,3,-1,99]) 6 1 fun v2=>ZP 0 [(20,Z4 [0,1,2,3,-1,99])] (ic [4] (VO rd bs (p+1) [0,1,2,3,-1,99] (ZH:=ob)) ?_)))))
  rintro _ _ ⟨z1,rfl,rfl,YN⟩
  exact Z2 1 (ZI 2 b3 [YY b.steps (.slice (some ⟨g1,0,none⟩) b.steps.length c1),.i z1] (ie (Zv 1 [0] (ZI 5 b2 [YY b.steps (.slice (some ⟨g1,0,none⟩) b.steps.length c1),.i z1] (ie (ZD (r3 [2] [.agg [YY b.steps (.slice (some ⟨g1,0,none⟩) b.steps.length c1),.i z1]] [0] [(b2,b2)] ⟨(Z9.mk b.steps z1),(p+1)+1,rfl,rfl,(by first|exact ⟨XD.result hg _,by omega,by omega⟩|exact ⟨XD.kid hg hsk hck hyb.1,by omega,by omega⟩|exact ⟨XD.del hg,by omega,by omega⟩|exact ⟨XD.put hg,by omega,by omega⟩|exact ⟨XD.set hg hsk ⟨by have:=hys.1.1;omega,hys.1.2⟩,by omega,by omega⟩)⟩ (Zd.agg (.cons (Zd.forget _ _) (.cons (lr _) .nil))))))))))
 refine ak (Zv 3 [1] (io (.i b.steps.length) (.i b.steps.length) (lr _) (ic [0] (Z5u rd bs (p+1) b.steps.length (ZH:=ob)) ?_)))
 rintro _ _ ⟨YF,rfl,rfl,X8⟩
 have hkn:YF=kk:=by have:=X8.2;omega
 refine Z0 (Yi 3 [1] (Zm (Wp g1 b.steps.length c1 YF 5 (YF:Int)) (Z2 1 (V6 (Vl 2 g1 b.steps.length c1 5 (YF*5+4) (WX b kk u1.v b.steps.length) [.h u1] 50 (.h u1) (by rw [hkn];exact FL hsk)) (Zm (Z89 5 sk.kids.length u1 2 (Th b kk b.steps.length) (by rw [Iz hsk];exact DH _)) (Z2 2 (ib (b:=(decide ((sk.kids.length:Int)>0))) 37 (fun ZA=>?_) (fun ZA=>?_))))))))
 ·have XJ:(sk.kids.length:Int)>0:=(dq).1 ZA
  refine Z2 1 (ic [0] (W2 rd bs ((p+1)+1) 3 (ZH:=ob)) ?_)
  rintro _ _ ⟨k2,rfl,rfl,Wn⟩
  refine Y0 (k2>0) (fun Zg=>?_) (fun Zg=>?_)
  ·refine ar (XW (LN 5 u1.v 2 (Th b kk b.steps.length) (Zo (YK sk.kids)) (Iz hsk)) (Fz 0 sk.kids.length (v:=u1) (DH _) om (fun g2 c2 he2=>?_)))
   subst he2
   refine ZM 4 [2] (Zm (Wp g1 b.steps.length c1 YF 5 (YF:Int)) (Z2 1 (V6 (Vl 3 g1 b.steps.length c1 5 (YF*5+4) (WX b kk (.slice (some ⟨g2,0,none⟩) sk.kids.length c2) b.steps.length) [.ms g2 0 sk.kids.length c2] 50 (.ms g2 0 sk.kids.length c2) (by rw [hkn];exact FL hsk)) (io (.i sk.kids.length) (.i sk.kids.length) (lr _) (ic [1] (JD rd bs (((p+1)+1)+1) sk.kids.length (ZH:=ob)) ?_)))))
   rintro _ _ ⟨X3,rfl,rfl,WL⟩
   obtain ⟨ck,hck⟩:=Zt sk.kids X3 om
   have hckz:=Tt hck
   have hckb:=Kl hsk
   have hckg:=Zaw hg hsk hck
   refine Z0 (aD 20 (ZJ 17 20 [0,1,2] [2] (dx 3 (Wp g1 b.steps.length c1 YF 5 (YF:Int)) (Zj 15 16 [4] (U7 5 (Vl 3 g1 b.steps.length c1 5 (YF*5+4) (WX b kk (.slice (some ⟨g2,0,none⟩) sk.kids.length c2) b.steps.length) [.ms g2 0 sk.kids.length c2] 50 (.ms g2 0 sk.kids.length c2) (by rw [hkn];exact FL hsk)) (ZJ 9 14 [6,7,8,9,10] [2] (dx 11 (Wp g1 b.steps.length c1 YF 5 (YF:Int)) (Zj 7 8 [12] (U7 13 (Vl 3 g1 b.steps.length c1 5 (YF*5+4) (WX b kk (.slice (some ⟨g2,0,none⟩) sk.kids.length c2) b.steps.length) [.ms g2 0 sk.kids.length c2] 50 (.ms g2 0 sk.kids.length c2) (by rw [hkn];exact FL hsk)) (Zj 5 6 [14] (dx 15 (Wp g2 sk.kids.length c2 X3 2 (X3:Int)) (U7 16 (Vl 1 g2 sk.kids.length c2 2 (X3*2) (Zo (YK sk.kids)) (Xk ck) 34 (ZZ ck) (Z3y hck)) (Z7 17 (dc 17 [0] [2,1] [g1,b3] (ih rd bs ((((p+1)+1)+1)+1) ck ob ob ob ob ob) ?_))))))))))))))
   rintro _ _ ⟨y1,p21,rfl,rfl,V5⟩
   have hyb:=V5
   exact dx 18 (Wp g2 sk.kids.length c2 X3 2 (X3:Int)) (Z7 19 (BG 19 1 [] [] g2 sk.kids.length c2 2 (X3*2) (Xk y1) (Zo (YK sk.kids)) (Zo (YK (sk.kids.set X3 y1))) (by rw [DH];simp only [YR,Xu];omega) (Z40 y1 om) (de (ar (XW (RY 0 2 b kk sk (sk.kids.set X3 y1) (.slice (some ⟨g2,0,none⟩) sk.kids.length c2) (.slice (some ⟨g1,0,none⟩) b.steps.length c1) hsk) (XW (Tl 0 2 0 (.slice (some ⟨g1,0,none⟩) b.steps.length c1) 5 b3 (Zy (b.steps.set kk (Z5.mk sk.op sk.num sk.into sk.args (sk.kids.set X3 y1)))) [.ms g1 0 b.steps.length c1,.i b.result] (Xj _) rfl) (ZM 1 [0] (ZI 4 b2 [YY (b.steps.set kk (Z5.mk sk.op sk.num sk.into sk.args (sk.kids.set X3 y1))) (.slice (some ⟨g1,0,none⟩) b.steps.length c1),.i b.result] (ie (ZD (r3 [4] [.agg [YY (b.steps.set kk (Z5.mk sk.op sk.num sk.into sk.args (sk.kids.set X3 y1))) (.slice (some ⟨g1,0,none⟩) b.steps.length c1),.i b.result]] [0] [(b2,b2)] ⟨(Z9.mk (b.steps.set kk (Z5.mk sk.op sk.num sk.into sk.args (sk.kids.set X3 y1))) b.result),p21,rfl,rfl,(by first|exact ⟨XD.result hg _,by omega,by omega⟩|exact ⟨XD.kid hg hsk hck hyb.1,by omega,by omega⟩|exact ⟨XD.del hg,by omega,by omega⟩|exact ⟨XD.put hg,by omega,by omega⟩|exact ⟨XD.set hg hsk ⟨by have:=hys.1.1;omega,hys.1.2⟩,by omega,by omega⟩)⟩ (Zd.agg (.cons (Zd.forget _ _) (.cons (lr _) .nil))))))))))))))
  refine ak (X0 (XW (LM 5 2 b kk sk u1.v (.slice (some ⟨g1,0,none⟩) b.steps.length c1) hsk) (Z2 1 (ic [2] (W2 rd bs (((p+1)+1)+1) 4 (ZH:=ob)) ?_))))
  rintro _ _ ⟨k3,rfl,rfl,Ur⟩
  refine ie (ab 0 (ar (YB (k3==0) Zp (fun ZC=>?_) (fun ZC=>?_))))
  ·exact aE 12 (ZJ 9 12 [0,1,2] [3] (dx 3 (Iu 1 g1 b.steps.length c1 YF 5 (Zo (Zy b.steps))) (ZJ 5 8 [4,5,6] [3] (da 7 (((YF+1:Nat):Int)) (((YF:Int))+(1)) (dx 8 (Oo 1 g1 b.steps.length c1 (YF+1) 5 (Zo (Zy b.steps))) (Z7 9 (MW 9 1 [] [] g1 b.steps.length c1 YF (YF+1) 5 (Zo (Zy b.steps)) (VW _) (Zj 1 2 [10] (Z7 11 (YJ 11 3 [] [] b3 [.ms g1 0 (YF+(b.steps.length-(YF+1))) c1,.i b.result] (de (ar (XW (LN 1 (.slice (some ⟨g1,0,none⟩) (YF+(b.steps.length-(YF+1))) c1) 5 (((Zo (Zy b.steps)).take (YF*5))++((Zo (Zy b.steps)).drop ((YF+1)*5))) (Zo (Zy (b.steps.take kk++b.steps.drop (kk+1)))) (by rw [hkn];exact Nq hkl)) (XW (Tl 0 0 0 (.slice (some ⟨g1,0,none⟩) (YF+(b.steps.length-(YF+1))) c1) 5 b3 (Zy (b.steps.take kk++b.steps.drop (kk+1))) [.ms g1 0 (YF+(b.steps.length-(YF+1))) c1,.i b.result] (Xj _) rfl) (ZM 1 [0] (ZI 4 b2 [YY (b.steps.take kk++b.steps.drop (kk+1)) (.slice (some ⟨g1,0,none⟩) (YF+(b.steps.length-(YF+1))) c1),.i b.result] (ie (ZD (r3 [3] [.agg [YY (b.steps.take kk++b.steps.drop (kk+1)) (.slice (some ⟨g1,0,none⟩) (YF+(b.steps.length-(YF+1))) c1),.i b.result]] [0] [(b2,b2)] ⟨(Z9.mk (b.steps.take kk++b.steps.drop (kk+1)) b.result),(((p+1)+1)+1)+1,rfl,rfl,(by first|exact ⟨XD.result hg _,by omega,by omega⟩|exact ⟨XD.kid hg hsk hck hyb.1,by omega,by omega⟩|exact ⟨XD.del hg,by omega,by omega⟩|exact ⟨XD.put hg,by omega,by omega⟩|exact ⟨XD.set hg hsk ⟨by have:=hys.1.1;omega,hys.1.2⟩,by omega,by omega⟩)⟩ (Zd.agg (.cons (Zd.forget _ _) (.cons (lr _) .nil))))))))))))))))))))))
  refine ar (YB (k3==1) Zp (fun Ye=>?_) (fun Ye=>?_))
  ·refine aD 10 (BH (Tl 1 2 0 (.slice (some ⟨g1,0,none⟩) b.steps.length c1) 5 b3 (Zy b.steps) [.ms g1 0 b.steps.length c1,.i b.result] (Xj _) rfl) (ZJ 6 10 [0,1,2,5] [0] (Z7 3 (dL 3 [0] [b3] (Z6 [14,15,15,16,17]) 5 1 fun v3=>Yr 5 5 [] [(102,Z4 [14,15,15,16,17])] (Z7 4 (dc 4 [3] [0] [b3] (VO rd bs ((((p+1)+1)+1)+1) [14,15,15,16,17] (ZH:=ob)) ?_))))))
   rintro _ _ ⟨z2,rfl,rfl,Tg⟩
   refine Z7 6 (dc 6 [0] [0] [b3] (W2 rd bs (((((p+1)+1)+1)+1)+1) 4 (ZH:=ob)) ?_)
   rintro _ _ ⟨k4,rfl,rfl,UY⟩
   exact Z7 7 (Yp 7 [] [1] [b3] (JJ z2 k4) (Yr 2 2 [] [(99,ZZ b)] (Z7 8 (Yp 8 [] [] [] (Fs b YF (Zx z2 k4)) (Z7 9 (YJ 9 5 [] [] b2 (Xk (Z9.mk (WA b.steps YF (Zx z2 k4)) b.result)) (de (ZD (r3 [1] [ZZ (Z9.mk (WA b.steps YF (Zx z2 k4)) b.result)] [0] [(b2,b2)] ⟨(Z9.mk (WA b.steps YF (Zx z2 k4)) b.result),(((((p+1)+1)+1)+1)+1)+1,rfl,rfl,(by first|exact ⟨XD.result hg _,by omega,by omega⟩|exact ⟨XD.kid hg hsk hck hyb.1,by omega,by omega⟩|exact ⟨XD.del hg,by omega,by omega⟩|exact ⟨XD.put hg,by omega,by omega⟩|exact ⟨XD.set hg hsk ⟨by have:=hys.1.1;omega,hys.1.2⟩,by omega,by omega⟩)⟩ (lr _))))))))))
  refine aE 12 (ZJ 5 12 [0,1,2,3,4,5,6] [3,3] (dx 7 (Wp g1 b.steps.length c1 YF 5 (YF:Int)) (U7 8 (Vl 1 g1 b.steps.length c1 5 (YF*5) (Zo (Zy b.steps)) (Xv sk) 52 (YG sk) (by rw [hkn];exact HZ hsk)) (Z7 9 (dc 9 [0] [1] [b3] (NN rd bs ((((p+1)+1)+1)+1) sk (ZH:=ob)) ?_)))))
  rintro _ _ ⟨y2,p22,rfl,rfl,Qj⟩
  have hys:=Qj
  exact dx 10 (Wp g1 b.steps.length c1 YF 5 (YF:Int)) (Z7 11 (BG 11 1 [] [] g1 b.steps.length c1 5 (YF*5) (Xv y2) (Zo (Zy b.steps)) (Zo (Zy (b.steps.set kk y2))) (by rw [QE];simp only [YR,Xu];omega) (by rw [hkn];exact Fj hsk) (de (ar (XW (Tl 0 2 0 (.slice (some ⟨g1,0,none⟩) b.steps.length c1) 5 b3 (Zy (b.steps.set kk y2)) [.ms g1 0 b.steps.length c1,.i b.result] (Xj _) rfl) (ZM 1 [0] (ZI 4 b2 [YY (b.steps.set kk y2) (.slice (some ⟨g1,0,none⟩) b.steps.length c1),.i b.result] (ie (ZD (r3 [3] [.agg [YY (b.steps.set kk y2) (.slice (some ⟨g1,0,none⟩) b.steps.length c1),.i b.result]] [0] [(b2,b2)] ⟨(Z9.mk (b.steps.set kk y2) b.result),p22,rfl,rfl,(by first|exact ⟨XD.result hg _,by omega,by omega⟩|exact ⟨XD.kid hg hsk hck hyb.1,by omega,by omega⟩|exact ⟨XD.del hg,by omega,by omega⟩|exact ⟨XD.put hg,by omega,by omega⟩|exact ⟨XD.set hg hsk ⟨by have:=hys.1.1;omega,hys.1.2⟩,by omega,by omega⟩)⟩ (Zd.agg (.cons (Zd.forget _ _) (.cons (lr _) .nil)))))))))))))
 have Q6:¬((sk.kids.length:Int)>0):=Ya dq ZA
 refine Z0 (We (ak (X0 (XW (LM 5 2 b kk sk u1.v (.slice (some ⟨g1,0,none⟩) b.steps.length c1) hsk) (Z2 1 (ic [2] (W2 rd bs ((p+1)+1) 4 (ZH:=ob)) ?_))))))
 rintro _ _ ⟨k5,rfl,rfl,KI⟩
 refine ie (ab 0 (ar (YB (k5==0) Zp (fun Xf=>?_) (fun Xf=>?_))))
 ·exact aE 12 (ZJ 9 12 [0,1,2] [3] (dx 3 (Iu 1 g1 b.steps.length c1 YF 5 (Zo (Zy b.steps))) (ZJ 5 8 [4,5,6] [3] (da 7 (((YF+1:Nat):Int)) (((YF:Int))+(1)) (dx 8 (Oo 1 g1 b.steps.length c1 (YF+1) 5 (Zo (Zy b.steps))) (Z7 9 (MW 9 1 [] [] g1 b.steps.length c1 YF (YF+1) 5 (Zo (Zy b.steps)) (VW _) (Zj 1 2 [10] (Z7 11 (YJ 11 3 [] [] b3 [.ms g1 0 (YF+(b.steps.length-(YF+1))) c1,.i b.result] (de (ar (XW (LN 1 (.slice (some ⟨g1,0,none⟩) (YF+(b.steps.length-(YF+1))) c1) 5 (((Zo (Zy b.steps)).take (YF*5))++((Zo (Zy b.steps)).drop ((YF+1)*5))) (Zo (Zy (b.steps.take kk++b.steps.drop (kk+1)))) (by rw [hkn];exact Nq hkl)) (XW (Tl 0 0 0 (.slice (some ⟨g1,0,none⟩) (YF+(b.steps.length-(YF+1))) c1) 5 b3 (Zy (b.steps.take kk++b.steps.drop (kk+1))) [.ms g1 0 (YF+(b.steps.length-(YF+1))) c1,.i b.result] (Xj _) rfl) (ZM 1 [0] (ZI 4 b2 [YY (b.steps.take kk++b.steps.drop (kk+1)) (.slice (some ⟨g1,0,none⟩) (YF+(b.steps.length-(YF+1))) c1),.i b.result] (ie (ZD (r3 [3] [.agg [YY (b.steps.take kk++b.steps.drop (kk+1)) (.slice (some ⟨g1,0,none⟩) (YF+(b.steps.length-(YF+1))) c1),.i b.result]] [0] [(b2,b2)] ⟨(Z9.mk (b.steps.take kk++b.steps.drop (kk+1)) b.result),((p+1)+1)+1,rfl,rfl,(by first|exact ⟨XD.result hg _,by omega,by omega⟩|exact ⟨XD.kid hg hsk hck hyb.1,by omega,by omega⟩|exact ⟨XD.del hg,by omega,by omega⟩|exact ⟨XD.put hg,by omega,by omega⟩|exact ⟨XD.set hg hsk ⟨by have:=hys.1.1;omega,hys.1.2⟩,by omega,by omega⟩)⟩ (Zd.agg (.cons (Zd.forget _ _) (.cons (lr _) .nil))))))))))))))))))))))
 refine ar (YB (k5==1) Zp (fun Xb=>?_) (fun Xb=>?_))
 ·refine aD 10 (BH (Tl 1 2 0 (.slice (some ⟨g1,0,none⟩) b.steps.length c1) 5 b3 (Zy b.steps) [.ms g1 0 b.steps.length c1,.i b.result] (Xj _) rfl) (ZJ 6 10 [0,1,2,5] [0] (Z7 3 (dL 3 [0] [b3] (Z6 [14,15,15,16,17]) 5 1 fun v4=>Yr 5 5 [] [(102,Z4 [14,15,15,16,17])] (Z7 4 (dc 4 [3] [0] [b3] (VO rd bs (((p+1)+1)+1) [14,15,15,16,17] (ZH:=ob)) ?_))))))
  rintro _ _ ⟨z3,rfl,rfl,KJ⟩
  refine Z7 6 (dc 6 [0] [0] [b3] (W2 rd bs ((((p+1)+1)+1)+1) 4 (ZH:=ob)) ?_)
  rintro _ _ ⟨k6,rfl,rfl,AT⟩
  exact Z7 7 (Yp 7 [] [1] [b3] (JJ z3 k6) (Yr 2 2 [] [(99,ZZ b)] (Z7 8 (Yp 8 [] [] [] (Fs b YF (Zx z3 k6)) (Z7 9 (YJ 9 5 [] [] b2 (Xk (Z9.mk (WA b.steps YF (Zx z3 k6)) b.result)) (de (ZD (r3 [1] [ZZ (Z9.mk (WA b.steps YF (Zx z3 k6)) b.result)] [0] [(b2,b2)] ⟨(Z9.mk (WA b.steps YF (Zx z3 k6)) b.result),((((p+1)+1)+1)+1)+1,rfl,rfl,(by first|exact ⟨XD.result hg _,by omega,by omega⟩|exact ⟨XD.kid hg hsk hck hyb.1,by omega,by omega⟩|exact ⟨XD.del hg,by omega,by omega⟩|exact ⟨XD.put hg,by omega,by omega⟩|exact ⟨XD.set hg hsk ⟨by have:=hys.1.1;omega,hys.1.2⟩,by omega,by omega⟩)⟩ (lr _))))))))))
 refine aE 12 (ZJ 5 12 [0,1,2,3,4,5,6] [3,3] (dx 7 (Wp g1 b.steps.length c1 YF 5 (YF:Int)) (U7 8 (Vl 1 g1 b.steps.length c1 5 (YF*5) (Zo (Zy b.steps)) (Xv sk) 52 (YG sk) (by rw [hkn];exact HZ hsk)) (Z7 9 (dc 9 [0] [1] [b3] (NN rd bs (((p+1)+1)+1) sk (ZH:=ob)) ?_)))))
 rintro _ _ ⟨y3,p23,rfl,rfl,Ji⟩
 have hys:=Ji
 exact dx 10 (Wp g1 b.steps.length c1 YF 5 (YF:Int)) (Z7 11 (BG 11 1 [] [] g1 b.steps.length c1 5 (YF*5) (Xv y3) (Zo (Zy b.steps)) (Zo (Zy (b.steps.set kk y3))) (by rw [QE];simp only [YR,Xu];omega) (by rw [hkn];exact Fj hsk) (de (ar (XW (Tl 0 2 0 (.slice (some ⟨g1,0,none⟩) b.steps.length c1) 5 b3 (Zy (b.steps.set kk y3)) [.ms g1 0 b.steps.length c1,.i b.result] (Xj _) rfl) (ZM 1 [0] (ZI 4 b2 [YY (b.steps.set kk y3) (.slice (some ⟨g1,0,none⟩) b.steps.length c1),.i b.result] (ie (ZD (r3 [3] [.agg [YY (b.steps.set kk y3) (.slice (some ⟨g1,0,none⟩) b.steps.length c1),.i b.result]] [0] [(b2,b2)] ⟨(Z9.mk (b.steps.set kk y3) b.result),p23,rfl,rfl,(by first|exact ⟨XD.result hg _,by omega,by omega⟩|exact ⟨XD.kid hg hsk hck hyb.1,by omega,by omega⟩|exact ⟨XD.del hg,by omega,by omega⟩|exact ⟨XD.put hg,by omega,by omega⟩|exact ⟨XD.set hg hsk ⟨by have:=hys.1.1;omega,hys.1.2⟩,by omega,by omega⟩)⟩ (Zd.agg (.cons (Zd.forget _ _) (.cons (lr _) .nil)))))))))))))
theorem Z61 (rd:Nat) (bs:LI) (p:Nat) (b:Z9) (ZH:∀z∈bs,0<=z/\z<=255) (hp:p+10*b.sz<=1000000000:=by exact ob) (hz:b.sz<=20000000:=by exact ob) (hg:b.rng:=by exact ob):Zl 114 [.p rd 0,ZZ b] [Yx rd bs p] (fun r h=>∃(y:Z9) (p2:Nat),r=ZZ y/\h=[Yx rd bs p2]/\XD b y/\p<=p2/\p2<=p+(10*b.sz)):=by
 have key:∀k:Nat,∀(rd:Nat) (bs:LI) (p:Nat) (b2:Z9),(∀z∈bs,0<=z/\z<=255)->(p+(10*b2.sz)<=1000000000)->(b2.sz<=20000000)->(b2.rng)->(b2.sz<k)->Zl 114 [.p rd 0,ZZ b2] [Yx rd bs p] (fun r h=>∃(y:Z9) (p2:Nat),r=ZZ y/\h=[Yx rd bs p2]/\XD b2 y/\p<=p2/\p2<=p+(10*b2.sz)):=by
  intro k
  induction k with
  | zero=>intro rd bs p b2 h1 h2 h3 h4 h5;omega
  | succ k ih=>
   intro rd bs p b2 h1 h2 h3 h4 h5
   by_cases h0:b2.steps.length=0
   ·exact Z62 rd bs p b2 h1 h2 h3 h4 h0
   ·exact Z63 rd bs p b2 h1 h2 h3 h4 om fun rd bs p b3 q1 q2 q3 q4 q5=>ih rd bs p b3 q1 q2 q3 q4 om
 exact key (b.sz+1) rd bs p b ZH hp hz hg om
theorem Z64 (rd:Nat) (bs:LI) (p:Nat) (n:Zk) (often:Nat) (q:Nat) (l:Nat) (ZH:∀z∈bs,0<=z/\z<=255) (hp:p+(10*q+20)<=1000000000:=by exact ob) (hzn:ZS n q l:=by exact ob) (hq:q<=9999000:=by exact ob) (hl:l<=100:=by exact ob) (ho:0<often:=by exact ob):Zl 72 [.p rd 0,Yn n,.i often] [Yx rd bs p] (fun r h=>∃(n2:Zk) (p2:Nat),r=Yn n2/\h=[Yx rd bs p2]/\ZS n2 (q+2) (l+1)/\p<=p2/\p2<=p+(10*q+20)):=by
 have hnl:=hzn.len
 refine ZG 64 Tryz.func72 (ar (iA (YT n) fun b1=>iA [nl,nl] fun b2=>ie (YL 2 (ic [2] (JD rd bs p often (ZH:=ob)) ?_))))
 rintro _ _ ⟨YF,rfl,rfl,ZW⟩
 refine Y0 ((YF:Int)>0) (fun Za=>?_) (fun Za=>?_)
 ·exact Zv 1 [2] (ZI 1 b2 (YT n) (ie (ZD (r3 [1] [Yn n] [0] [(b2,b2)] ⟨n,p+1,rfl,rfl,(by first|exact ⟨hzn.le om om,by omega,by omega⟩|exact ⟨hzn.set hx1k om om om om hz1.2.2.2,by omega,by omega⟩|exact ⟨(hzn.le om om).ds had.1,by omega,by omega⟩|exact ⟨hzn.set hx2k om om om (by have:=hsb.1.1;omega) hsb.1.2,by omega,by omega⟩)⟩ (lr _)))))
 refine ak (Zv 3 [2] (iw (Uq n.routines) (ic [0] (JD rd bs (p+1) n.routines.length (ZH:=ob)) ?_)))
 rintro _ _ ⟨X3,rfl,rfl,Yh⟩
 refine Z0 (YL 1 (ic [0] (W2 rd bs ((p+1)+1) 8 (ZH:=ob)) ?_))
 rintro _ _ ⟨k1,rfl,rfl,YE⟩
 refine ie (ab 0 (ar (YB (k1==0) Zp (fun Zg=>?_) (fun Zg=>?_))))
 ·refine aD 11 (ZJ 6 11 [0,1,2,3,4] [2,2] ?_)
  obtain ⟨x1,Z3⟩:=Zt n.routines X3 om
  have hx1k:=Z3
  have hz1:=hzn.rt _ (Y2 Z3)
  refine dx 5 (Zh none (X3:Int) 5 (Wv Z3)) (Zj 3 5 [6,7] (Ky (fun fz gz F h=>∃(g1:Nat) (c1:Nat) (b3:Nat),F=sF [0,6,7] fz [(8,.p b3 0)]/\h=[.obj b3 [ZU n.decls,.ms g1 0 n.routines.length c1],.row (.slice (some ⟨g1,0,none⟩) n.routines.length c1) 5 (Zo (YP (n.routines.set X3 (Yf.mk x1.params x1.lent x1.result x1.body)))),Zc gz 0,Zc gz 1,Zc gz 2]) ?_ ?_))
  ·refine VE 8 9 ?_ ?_
   ·refine dc 8 [] [] [] (Ib n X3 x1.body x1 (hr:=Z3)) ?_
    rintro _ _ ⟨g1,c1,rfl,rfl⟩
    exact Z7 9 (dA 9 [] [] [nl,nl] fun b3=>Z7 10 (YJ 10 0 [] [] b3 [ZU n.decls,.ms g1 0 n.routines.length c1] (de (ZQ ⟨g1,c1,b3,rfl,rfl⟩ (ZE 5 fl)))))
   refine dA 9 [2,2] [b1,b1] [nl,nl] fun b4=>Z7 8 (dc 8 [] [] [] (Ib n X3 x1.body x1 (hr:=Z3)) ?_)
   rintro _ _ ⟨g2,c2,rfl,rfl⟩
   exact Z7 10 (YJ 10 1 [] [] b4 [ZU n.decls,.ms g2 0 n.routines.length c2] (de (ZQ ⟨g2,c2,b4,rfl,rfl⟩ (ZE 5 fl))))
  rintro F h ⟨g1,c1,b3,rfl,rfl⟩
  refine aD 14 (ZJ 7 14 [0,1,2,3,4,5,6] [0,0] (dx 7 (Wp g1 n.routines.length c1 X3 5 (X3:Int)) (Zj 5 6 [8] (U7 9 (Vl 1 g1 n.routines.length c1 5 (X3*5+1) (Zo (YP (n.routines.set X3 (Yf.mk x1.params x1.lent x1.result x1.body)))) [Z4 x1.lent] 31 (Z4 x1.lent) (Z42 om _)) (Z7 10 (dc 10 [2] [0] [b3] (Z65 rd bs (((p+1)+1)+1) x1.lent (ZH:=ob)) ?_))))))
  rintro _ _ ⟨zs1,p21,rfl,rfl,YN⟩
  have hsi:=YN
  exact dx 11 (Wp g1 n.routines.length c1 X3 5 (X3:Int)) (Zj 1 2 [12] (Z7 13 (BG 13 2 [] [] g1 n.routines.length c1 5 (X3*5+1) [Z4 zs1] (Zo (YP (n.routines.set X3 (Yf.mk x1.params x1.lent x1.result x1.body)))) (Zo (YP (n.routines.set X3 (Yf.mk x1.params zs1 x1.result x1.body)))) (by rw [Fh,Uw];simp only [YR,Xu];omega) (Z44 om _ _) (de (ar (XW (Tl 0 1 1 (.slice (some ⟨g1,0,none⟩) n.routines.length c1) 5 b3 (YP (n.routines.set X3 (Yf.mk x1.params zs1 x1.result x1.body))) [ZU n.decls,.ms g1 0 n.routines.length c1] (UT _) rfl) (ZM 1 [0] (ZI 3 b2 [ZU n.decls,WF (n.routines.set X3 (Yf.mk x1.params zs1 x1.result x1.body)) (.slice (some ⟨g1,0,none⟩) n.routines.length c1)] (ie (ZD (r3 [3] [.agg [ZU n.decls,WF (n.routines.set X3 (Yf.mk x1.params zs1 x1.result x1.body)) (.slice (some ⟨g1,0,none⟩) n.routines.length c1)]] [0] [(b2,b2)] ⟨(Zk.mk n.decls (n.routines.set X3 (Yf.mk x1.params zs1 x1.result x1.body))),p21,rfl,rfl,(by first|exact ⟨hzn.le om om,by omega,by omega⟩|exact ⟨hzn.set hx1k om om om om hz1.2.2.2,by omega,by omega⟩|exact ⟨(hzn.le om om).ds had.1,by omega,by omega⟩|exact ⟨hzn.set hx2k om om om (by have:=hsb.1.1;omega) hsb.1.2,by omega,by omega⟩)⟩ (Zd.agg (.cons (lr _) (.cons (Zd.forget _ _) .nil))))))))))))))
 refine ar (YB (k1==1) Zp (fun ZC=>?_) (fun ZC=>?_))
 ·refine aD 6 (ZJ 3 6 [0,2,3] [2] (Z7 1 (dc 1 [0] [1] [b1] (Z4d rd bs (((p+1)+1)+1) (ZH:=ob)) ?_)))
  rintro _ _ ⟨dz1,p22,rfl,rfl,X8⟩
  have had:=X8
  exact Zj 1 2 [4] (Z7 5 (YJ 5 1 [] [] b2 [ZU dz1,Kg n.routines] (de (ZD (r3 [1] [.agg [ZU dz1,Kg n.routines]] [0] [(b2,b2)] ⟨(Zk.mk dz1 n.routines),p22,rfl,rfl,(by first|exact ⟨hzn.le om om,by omega,by omega⟩|exact ⟨hzn.set hx1k om om om om hz1.2.2.2,by omega,by omega⟩|exact ⟨(hzn.le om om).ds had.1,by omega,by omega⟩|exact ⟨hzn.set hx2k om om om (by have:=hsb.1.1;omega) hsb.1.2,by omega,by omega⟩)⟩ (lr _))))))
 refine ak (aD 12 (ZJ 6 12 [0,1,2,3,4,5] [2,2] ?_))
 obtain ⟨x2,Zr⟩:=Zt n.routines X3 om
 have hx2k:=Zr
 have hz2:=hzn.rt _ (Y2 Zr)
 refine dx 6 (Zh none (X3:Int) 5 (Wv Zr)) (Zj 3 5 [7,8] (Z7 9 (dc 9 [0] [1] [b1] (Z61 rd bs (((p+1)+1)+1) x2.body (ZH:=ob) (hg:=hz2.2.2.2)) ?_)))
 rintro _ _ ⟨y1,p23,rfl,rfl,XJ⟩
 have hsb:=XJ
 exact Z7 10 (Yp 10 [] [] [] (NO n X3 y1 x2 (hr:=Zr)) (Z7 11 (YJ 11 1 [] [] b2 (YT (withR n X3 x2 y1)) (de (ZD (r3 [1] [Yn (withR n X3 x2 y1)] [0] [(b2,b2)] ⟨(withR n X3 x2 y1),p23,rfl,rfl,(by first|exact ⟨hzn.le om om,by omega,by omega⟩|exact ⟨hzn.set hx1k om om om om hz1.2.2.2,by omega,by omega⟩|exact ⟨(hzn.le om om).ds had.1,by omega,by omega⟩|exact ⟨hzn.set hx2k om om om (by have:=hsb.1.1;omega) hsb.1.2,by omega,by omega⟩)⟩ (lr _)))))))
open Go.Proofs
end Go.Abs
