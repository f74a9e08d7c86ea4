/-
  A part of the proof of FnBalancedUptoSaid (see the last file): no condition.
-/
import Derived.Test.YtjmahledcmocoaaGreatBalC
set_option linter.all false
set_option linter.unusedVariables false
set_option linter.unusedSimpArgs false
set_option linter.unusedSectionVars false
set_option maxRecDepth 10000
set_option maxHeartbeats 4000000
namespace Go.Abs
open Go.Proofs
theorem Z0d (n:Zp) (ln:LI) (hn:X0 n) (hty:K3 n) (hlt:Bv n) (hln:ln.length<=4294967296) (m:Nat):∀(ys:List Z5) (c:Nat) (ra:Hd) (rb:Hd) (rc:Hd) (M:V6) (a2:List Xj) (p:Int) (vs:LI),(Ye ys<m)->(X5 n.decls M p)->(WP n.decls M a2)->(Ws n ys M.vars=some vs)->(∀t∈M.vars,0<=t)->(M.vars.length+a2.length+4*Ye ys<=900000000)->(0<=p/\p+4*Ye ys<=999999980)->(Tj ys)->Zi 121 [.p c 0,Wv ys] [.obj c [ZT n.decls,YW n,Z4 ln,Xd a2,.h ra,.h rb,.h rc],rV ra M.vars,rV rb M.own,rV rc M.tok] (fun r h=>(∃(wa:Hd) (wb:Hd) (wc:Hd) (M':V6),r=.b true/\h=[.obj c [ZT n.decls,YW n,Z4 ln,Xd a2,.h wa,.h wb,.h wc],rV wa M'.vars,rV wb M'.own,rV wc M'.tok]/\Vg n ln M ys=some M')∨(r=.b false/\h=[]/\Vg n ln M ys=none)):=by
 induction m with
 | zero=>intro ys c ra rb rc M a2 p vs h;omega
 | succ m ih=>
  intro ys c ra rb rc M a2 p vs h hk har ht hnn hb hp hr
  exact Z0c c ra rb rc n M ln a2 ys p vs hn hk har ht hnn hb hp hr fun s2 c ra rb rc M a2 p h1 hk har ht hnn hb hp hr=>Z0a c ra rb rc n M ln a2 s2 p hn hty hlt hk har hln ht hnn hb hp hr
   fun ys c ra rb rc M a2 p vs h2 hk har ht hnn hb hp hr=>ih ys c ra rb rc M a2 p vs om hk har ht hnn hb hp hr
theorem Z0b (c:Nat) (ra:Hd) (rb:Hd) (rc:Hd) (n:Zp) (M:V6) (ln:LI) (a2:List Xj) (ys:List Z5) (p:Int) (vs:LI) (hn:X0 n) (hty:K3 n) (hlt:Bv n) (hln:ln.length<=4294967296) (hk:X5 n.decls M p) (har:WP n.decls M a2) (ht:Ws n ys M.vars=some vs) (hnn:∀t∈M.vars,0<=t) (hb:M.vars.length+a2.length+4*Ye ys<=900000000) (hp:0<=p/\p+4*Ye ys<=999999980) (hr:Tj ys):Zi 121 [.p c 0,Wv ys] [.obj c [ZT n.decls,YW n,Z4 ln,Xd a2,.h ra,.h rb,.h rc],rV ra M.vars,rV rb M.own,rV rc M.tok] (fun r h=>(∃(wa:Hd) (wb:Hd) (wc:Hd) (M':V6),r=.b true/\h=[.obj c [ZT n.decls,YW n,Z4 ln,Xd a2,.h wa,.h wb,.h wc],rV wa M'.vars,rV wb M'.own,rV wc M'.tok]/\Vg n ln M ys=some M')∨(r=.b false/\h=[]/\Vg n ln M ys=none)):=
 Z0d n ln hn hty hlt hln (Ye ys+1) ys c ra rb rc M a2 p vs om hk har ht hnn hb hp hr
theorem Z6x (n:Zp) (hz:Tl n) (hs:VL n=true):Zi 76 [Yl n] [] (Yk (.tup [.agg [ZT n.decls,YW n],.b (VL n)])):=by
 refine (O0 n hz).mono fun r h q=>?_
 rcases q with ⟨h1,h2,_⟩|⟨_,_,h3⟩
 ·exact ⟨h1,h2⟩
 ·rw [hs] at h3;cases h3
theorem Z09 (n:Zp) (f:Nat) (rt:Yg) (hn:X0 n:=by exact ob) (hz:Tl n:=by exact ob) (hs:VL n=true:=by exact ob) (hr:n.routines[f]? = some rt:=by exact ob):Zi 120 [Yl n,.i f] [] (fun r h=>∃(c:Nat) (wa:Hd) (wb:Hd) (wc:Hd),r=.p c 0/\h=[.obj c [ZT n.decls,YW n,Z4 rt.lent,Xd [],.h wa,.h wb,.h wc],rV wa ((Up rt).vars),rV wb ((Up rt).own),rV wc ((Up rt).tok)]):=by
 have hfl:=(Xn.1 hr).1
 have hpl:=hn.params_at hr
 have hll:=hn.lent_at hr
 refine ZF 58 Tryz.func120 (ar (iA (YR n) fun b1=>Z0 (Zv 1 [0] (Zz [] (Z6x n ob ob) (Z2 3 (iA [nl,nl] fun b2=>ZH 0 b2 [ZT n.decls,YW n] (Z0 (aD 10 (ZI 6 10 [0,1,2,3] [0,1] (dx 4 (Zj none (f:Int) 5 (WR hr)) (Zk 2 5 [5,6,7] (Z9 8 (dA 8 [] [] [ZT n.decls,YW n,Z4 rt.lent,nl,nl,nl,nl] fun b3=>?_)))))))))))))
 refine BC (RQ 0 b3 [ZT n.decls,YW n,Z4 rt.lent,nl,nl,nl,nl] [ZT n.decls,YW n,Z4 rt.lent,Xd [],.h hN,.h hN,.h hN] (.cons (lr _) (.cons (lr _) (.cons (lr _) (.cons (Zd.sl _ rfl) (.cons (Zd.hd (v:=hN)) (.cons (Zd.hd (v:=hN)) (.cons (Zd.hd (v:=hN)) .nil)))))))) (BC (Jh) (BC (Jh) (BC (Jh) (Zk 0 1 [9] (de (Yi 3 [5] (Zm (Zj none (f:Int) 5 (WR hr)) (Z2 2 (iw (Y8 rt.params) (Z0 (ab 0 (Y3 (fun fz gz m F h=>∃(k:Nat) (L2:V6) (ka:Hd) (kb:Hd) (kc:Hd),(k<=rt.params.length)/\(Wp L2)/\(L2.vars.length=k)/\(QP rt.lent (rt.params.drop k) k L2=Up rt)/\F=sF [7,29,30] fz [(31,.i k)]/\h=[.obj b3 [ZT n.decls,YW n,Z4 rt.lent,Xd [],.h ka,.h kb,.h kc],rV ka L2.vars,rV kb L2.own,rV kc L2.tok]/\m=rt.params.length-k) _ _ _ ⟨0,(Zt.mk [] [] [] [] [] []),hN,hN,hN,ob,⟨rfl,rfl,rfl,rfl,rfl⟩,rfl,rfl,rfl,rfl,rfl⟩ (wk [3,0,0,0] (Y9 fl) (e:=(rc (rv (xs:=[]) ob (rv (xs:=[]) ob (rv (xs:=[]) ob rz)))))) ?_))))))))))))
 rintro m F h ⟨k,L2,ka,kb,kc,Yf,Zh,Zw,Yp,rfl,rfl,rfl⟩
 refine ZE (aq (XX ((k:Int)<(rt.params.length:Int)) (fun Za=>?_) (fun Za=>?_)))
 ·refine ak (aq (ab 1 (Y6 1 ?_)))
  obtain ⟨x1,Z3⟩:=Zr rt.params k om
  have hgl:(L2.grow x1 0 (-1)).own.length=k+1:=by simp [Zt.grow,Zh.own,Zw]
  refine Zm (Zj none (k:Int) 1 (Y0 Z3)) (Z0 (Y6 2 (ic [0,0,0,0] (C7 b3 ka kb kc n L2 rt.lent [] x1 0) ?_)))
  rintro _ _ ⟨wa1,wb1,wc1,rfl⟩
  refine ie (ar (Xo [7,8,29,30,31] [(49,.b ((x1 != 0)&&(!(decide ((k:Int)∈rt.lent)))))] (fun gz=>gz) ?_ ?_))
  ·refine Z2 3 (ib (b:=(x1 != 0)) 41 (fun Zb=>?_) (fun Zb=>?_))
   ·have ZX:x1≠0:=(Yn).1 Zb
    exact ZM 5 [0] (Zz [] (Lg rt.lent (k:Int)) (Z0 (ZG 4 (Zs (!(decide ((k:Int)∈rt.lent))) Zb fl))))
   have Yh:¬(x1≠0):=Yc Yn Zb
   exact Z0 (ZG 4 (Zs false Zb fl))
  refine ac ((x1 != 0)&&(!(decide ((k:Int)∈rt.lent)))) (p:=(x1≠0)/\(¬((k:Int)∈rt.lent))) (YB Yn (YD dq)) (fun Zg=>?_) (fun Zg=>?_)
  ·exact az (ZM 5 [0] (Zm (Wh 2 wb1 ((L2.grow x1 0 (-1)).own) (k:Int) k) (Cw 2 wb1 ((L2.grow x1 0 (-1)).own) k 1 (ie (az (ZJ k (Z0 (ZL ⟨k+1,(L2.grow x1 1 (-1)),wa1,wb1,wc1,ob,(Wp.grow Zh),(by simp [Zt.grow];omega),(by rw [Y5 Z3,QP] at Yp;first|(rw [Ze (by assumption)] at Yp;exact Yp)|(rw [Z7 (by assumption)] at Yp;exact Yp)),rfl,rfl,rfl⟩ (wk [1,1,0,0] (ZP k fl) (e:=(rc (rv (xs:=(L2.grow x1 0 (-1)).vars) (by first|rfl|exact L9 (by rw [Zh.own,Zw])) (rv (xs:=(((L2.grow x1 0 (-1)).own).set k 1)) (by first|rfl|exact L9 (by rw [Zh.own,Zw])) (rv (xs:=(L2.grow x1 0 (-1)).tok) (by first|rfl|exact L9 (by rw [Zh.own,Zw])) rz))))))))))))))
  exact ak (az (ZJ k (Z0 (ZL ⟨k+1,(L2.grow x1 0 (-1)),wa1,wb1,wc1,ob,(Wp.grow Zh),(by simp [Zt.grow];omega),(by rw [Y5 Z3,QP] at Yp;first|(rw [Ze (by assumption)] at Yp;exact Yp)|(rw [Z7 (by assumption)] at Yp;exact Yp)),rfl,rfl,rfl⟩ (ZG 4 (ZP k fl))))))
 refine ax 0 (ZE ?_)
 have hNl:L2=Up rt:=by rw [<-Yp,Xe om];rfl
 exact ZD (r1 [0,0,0,0] ⟨b3,ka,kb,kc,rfl,rfl⟩ (eq:=(rc (rv (xs:=L2.vars) (by rw [hNl]) (rv (xs:=L2.own) (by rw [hNl]) (rv (xs:=L2.tok) (by rw [hNl]) rz))))))
theorem NW (n:Zp) (f:Nat) (rt:Yg) (hn:X0 n:=by exact ob) (hty:K3 n:=by exact ob) (hlt:Bv n:=by exact ob) (hz:Tl n:=by exact ob) (hs:VL n=true:=by exact ob) (hr:n.routines[f]? = some rt:=by exact ob) (ht:0<=Xi n rt.params rt.body:=by exact ob) (hrr:rt.body.rng:=by exact ob):Zi 74 [Yl n,.i f] [] (Yk (.b (UK n rt))):=by
 have hfl:=(Xn.1 hr).1
 have hpl:=hn.params_at hr
 have hll:=hn.lent_at hr
 have hrm:=Y4 hr
 have hbd:=hz.body rt hrm
 have hbz:=rt.body.sz_eq
 obtain ⟨hk,hkv⟩:=Iv n.decls rt
 obtain ⟨vs,t0,hvs,hres,hrt⟩:=De ht
 have hri:=Kw hres
 have hsl:=G9 hvs
 rw [rt.body.rng_eq] at hrr
 refine ZF 25 Tryz.func74 (ar (iA (YR n) fun b1=>Z0 (Zv 2 [0] (ic [] (Z09 n f rt) ?_))))
 rintro _ _ ⟨c1,wa1,wb1,wc1,rfl,rfl⟩
 refine Z0 (Zv 3 [4] (Zm (Zj none (f:Int) 5 (WR hr)) (Z2 2 (iA [nl,.i 0] fun b2=>ZH 0 b2 (Xg rt.body) (ie (Zv 3 [0] (ic [1,1,1,1] (Z0b c1 wa1 wb1 wc1 n (Up rt) rt.lent [] rt.body.steps 1 vs ob ob ob ob hk (OR rt) (by rw [hkv];exact hvs) (by rw [hkv];exact hty.params rt hrm) (by rw [hkv,Xt];omega) ob ob) ?_)))))))
 rintro _ _ (⟨wa2,wb2,wc2,M'1,rfl,rfl,ZX⟩|⟨rfl,rfl,Yh⟩)
 ·have hP:=ZX
  have kx:=Ga hn hk om (OR rt) (by rw [hkv];exact hvs) hP
  have kl:=kx.1.len
  refine ZM 3 [4] (ic [0,0,0,0] (GX c1 wa2 wb2 wc2 n M'1 rt.lent [] rt.body 0 (hlk:=kl) (hlb:=(by rw [kx.2.1];omega)) (hr:=(by rw [kx.2.1];omega)) (hq:=(fun y hy=>by have h1:=kx.1.nn y hy;have h2:=kx.1.bd y hy;omega))) ?_)
  rintro _ _ (⟨rfl,rfl,YH⟩|⟨rfl,rfl,YQ⟩)
  ·have hB:=YH
   exact Zq (ZY (.b true) (lb (by rw [Pz hP (by rw [kl.own,kl.tok]),hB];rfl)))
  have hB:=YQ
  exact Zq (ZY (.b false) (lb (by rw [Pz hP (by rw [kl.own,kl.tok]),hB];rfl)))
 have hP:=Yh
 exact Zq (ZY (.b false) (lb (by rw [Zad hP])))
theorem Z6k (n:Zp) (hz:Tl n:=by exact ob) (hr:∀r∈n.routines,r.body.rng):Zi 30 [Yl n] [] (Yk (.b (Vj n))):=by
 have hzl:=hz.len
 refine ZF 18 Tryz.func30 (ar (iA (YR n) fun b1=>Z0 (Yi 1 [0] (Zz [] (I2 n (hr:=hr)) (YC (!XU n) (p:=¬(XU n=true)) (YD Iff.rfl) (fun Za=>?_) (fun Za=>?_))))))
 ·exact ar (Zq (ZY (.b false) (lb (by first|rfl|omega|grind [Vj]))))
 have hV:XU n=true:=Vh.1 Za
 obtain ⟨hok,hall⟩:=Gi hz hV
 have hsg:VL n=true:=by rw [XU,W2] at hV;exact hV.1
 have hty:=Iy hsg
 have hlt:=OT hsg
 refine ak (Yi 2 [0] (iw (Uc n.routines) (Z0 (ab 0 (Y3 (fun fz gz m F h=>∃(k:Nat),(k<=n.routines.length)/\(Vp n (n.routines.drop k)=Vp n n.routines)/\F=sF [1,9] fz [(10,.i k)]/\h=gz/\m=n.routines.length-k) _ _ _ ⟨0,ob,ob,rfl,rfl,rfl⟩ (wk [0] (Y9 fl)) ?_)))))
 rintro m F h ⟨k,Yf,Zh,rfl,rfl,rfl⟩
 refine ZE (aq (XX ((k:Int)<(n.routines.length:Int)) (fun Zg=>?_) (fun Zg=>?_)))
 ·obtain ⟨rt,hrt⟩:=Zr n.routines k om
  have hrm:=Y4 hrt
  refine ak (aq (ab 1 (ZE (Zv 2 [0] (Zz [] (NW n k rt (hr:=hrt) (ht:=(hall rt hrm)) (hrr:=(hr rt hrm))) (YC (!UK n rt) (p:=¬(UK n rt=true)) (YD Iff.rfl) (fun ZC=>?_) (fun ZC=>?_)))))))
  ·refine ZE ?_
   rw [Y5 hrt] at Zh
   exact ZD (ZY (.b false) (lb (by first|rfl|omega|grind [Vp,Vj])))
  refine ak (az (ZJ k (Z0 ?_)))
  have hdr:=Y5 hrt
  exact ZL ⟨k+1,ob,(by rw [hdr] at Zh;clear hdr ;grind [Vp]),rfl,rfl,rfl⟩ (wk [0] (ZP k fl))
 refine ax 0 (ZE ?_)
 try rw [Xe (xs:=n.routines) (k:=k) om] at Zh
 exact ZD (ZY (.b true) (lb (by first|rfl|omega|grind [Vp,Vj])))
def CG (g l c m kk:Nat):Value:=.slice (some ⟨g,(if c-m=0 then 0 else m*kk),none⟩) (l-m) (c-m)
def Lf (P:Program) (ops:Array Oper) (F:Fr) (k:Nat):Option (AV × Int × Nat):=
 match (ZA ops k).op with
 | .slice t x (some lo) none none=>match P.underlying t with
  | some (.slice e)=>match P.info? e with
   | some i=>match F.ev lo with
    | .val (.int _ m)=>some (F.ev x,m,i.size)
    | _=>none
   | none=>none
  | _=>none
 | _=>none
section
variable {P:Program} {n:Nat} {ops:Array Oper} {k:Nat} {F:Fr} {h h2:List Res}
theorem Zd6 (j:Nat) {g l c m kk:Nat} {ls:List AV} (hi:Lf P ops F k=some (.val (.slice (some ⟨g,0,none⟩) l c),(m:Int),kk)) (hj:h[j]? = some (.row (.slice (some ⟨g,0,none⟩) l c) kk ls)) (hle:m<=l) :
  Xs P (ZA ops k) F h [] (.val (CG g l c m kk)):=by
 unfold Lf at hi
 generalize hoo:ZA ops k=o at hi
 obtain ⟨dst,op,type,pos,after,guard⟩:=o
 cases op<;>simp only at hi<;>try (cases hi)
 rename_i t x lo hi' mx
 cases lo with
 | none=>simp at hi
 | some y=>
  cases hi' with
  | some _=>simp at hi
  | none=>
   cases mx with
   | some _=>simp at hi
   | none=>
    simp only at hi
    split at hi
    ·rename_i e ht
     split at hi
     ·rename_i inf hinf
      split at hi
      ·rename_i ik m' hm
       simp only [Wc,Prod.mk.injEq] at hi
       obtain ⟨hx,rfl,hkk⟩:=hi
       intro n w G a hF hh
       have v1:=hF.ev x
       rw [hx] at v1
       have v1:=v1.val_inv
       have v2:=hF.ev y
       rw [hm] at v2
       have v2:=v2.val_inv
       have hcap:l<=c:=by
        rcases hh.ok _ (Y4 hj) with ⟨h0,_⟩|⟨g',l',c',cur,el,h0,_,hc,_⟩
        ·cases h0
        ·cases h0;exact hc
       refine ⟨_,.val,fun w' _ _=>?_⟩
       simp only [execOp,v1,v2,Bq,Option.map_none]
       refine V3 ?_
       simp only [Instr.sliceAt,Sem.run_bind,Vn ht,Result.andThen_ok,Instr.slice]
       have hmm:(Instr.sliceBounds true l c (some (.int ik (m:Int))) none none).run P w'=.ok (m,l,c) w':=by
        have Yz:=CQ (P:=P) (c:=BoundsCode.sliceB) (v:=.int ik (m:Int)) (y:=l) rfl om om w'
        simp [Instr.sliceBounds,Yz]
       rw [hmm]
       simp only [Result.andThen_ok,Q9 hinf,CG,hkk]
       by_cases h0:c-m=0
       ·have e0:c=m:=by omega
        simp [e0]
       ·have e0:¬c=m:=fun z=>h0 om
        simp [e0,h0,Addr.add]
        exact fun z=>z.symm
      ·cases hi
     ·cases hi
    ·cases hi
theorem Oh (j g l c m kk:Nat) (ls:List AV) (hle:m<=l:=by omega) (hi:Lf P ops F k=some (.val (.slice (some ⟨g,0,none⟩) l c),(m:Int),kk):=by kernel_rfl) (hj:h[j]? = some (.row (.slice (some ⟨g,0,none⟩) l c) kk ls):=by kernel_rfl) :
  Xs P (ZA ops k) F h [] (.val (CG g l c m kk)):=Zd6 j hi hj hle
theorem Z9e {K:Fr->List Res->Prop} {g len cap i m sz:Nat} {ls:List AV} (hd:Vq n (ZA ops k)=true) (ha:Uy P ops F k=some (.val (.slice (some ⟨g,0,none⟩) i cap),.val (CG g len cap m sz),sz))
  (hone:ls.all AV.one=true) (him:i<=m) (hml:m<=len)
  (hK:K (F.put (ZA ops k).dst (.val (.slice (some ⟨g,0,none⟩) (i+(len-m)) cap))) (.row (.slice (some ⟨g,0,none⟩) (i+(len-m)) cap) sz (ls.take (i*sz)++ls.drop (m*sz))::h2)):Wt P n (ZA ops k) F (.row (.slice (some ⟨g,0,none⟩) len cap) sz ls::h2) K:=by
 unfold Uy at ha
 generalize hoo:ZA ops k=o at ha hd hK
 obtain ⟨dst,op,type,pos,after,guard⟩:=o
 cases op<;>simp only at ha<;>try (cases ha)
 rename_i c
 obtain ⟨callee,args,tys⟩:=c
 simp only at ha
 split at ha
 case h_2=>cases ha
 rename_i s x t t' hargs htys
 split at ha
 case h_2=>cases ha
 rename_i e htt ht
 have:=Ux htt
 subst this
 split at ha
 case h_2=>cases ha
 rename_i inf hinfo
 split at ha
 case h_2=>cases ha
 rename_i z hz
 split at ha
 case h_2=>cases ha
 rename_i hb
 simp only [W2] at hb
 simp only [Wc,Prod.mk.injEq] at ha
 obtain ⟨h3,h4,hk1⟩:=ha
 have e1:args=#[s,x]:=by rw [<-U1 (xs:=args),hargs]
 have e2:tys=#[t,t]:=by rw [<-U1 (xs:=tys),htys]
 subst e1;subst e2
 intro Q w G a hF hh
 have v1:=hF.ev s
 have v2:=hF.ev x
 rw [h3] at v1
 rw [h4] at v2
 have v1:=v1.val_inv
 have v2:=v2.val_inv
 rcases hh.ok _ (Xh ..) with ⟨h0,_⟩|⟨g',len',cap',cur,el,h0,hrow,hlc,hcur,hll,hcells⟩
 ·cases h0
 ·cases h0
  have q5:len*sz<=cap*sz:=Qt _ hlc
  have q6:m*sz<=len*sz:=Qt _ hml
  have q7:i*sz<=m*sz:=Qt _ him
  have q8:(len-m)*sz=len*sz-m*sz:=Nat.sub_mul ..
  have q9:(i+(len-m))*sz=i*sz+(len-m)*sz:=Qd ..
  have hcl:cur.toList.length=cap*sz:=by rw [Kl,hcur]
  have h1:(cur.toList.take (len*sz)).length=len*sz:=by rw [WB,hcl,VG q5]
  have hnl:((cur.toList.take (len*sz)).drop (m*sz)).length=(len-m)*sz:=by rw [Bi,h1];omega
  have hr:=FM (P:=P) w t type e el inf ht hinfo g i cap cur hrow ⟨g,(if cap-m=0 then 0 else m*sz),none⟩ (len-m) (cap-m) ((cur.toList.take (len*sz)).drop (m*sz)) (by rw [hk1];exact hnl)
   (fun j u hj=>by
    have hjl:=(Xn.1 hj).1
    rw [hnl] at hjl
    have hne:¬cap-m=0:=fun z=>by
     have:len-m=0:=by omega
     rw [this] at hjl;omega
    rw [Z7 hne,Kt,cell_of_row w g _ cur el (0,0) hrow]
    rw [Bh,TG] at hj
    split at hj
    ·simpa using hj
    ·cases hj)
   (fun u hu=>hcells.one_cells hone u (List.mem_of_mem_drop hu)) om (by rw [hk1,hnl,hcur];omega)
  rw [hk1] at hr
  have hti:(cur.toList.take (i*sz)).length=i*sz:=by rw [WB,hcl,VG om]
  obtain ⟨j1,j2⟩:=hh.rgrow (ls':=ls.take (i*sz)++ls.drop (m*sz)) (len':=i+(len-m)) (cs':=(cur.toList.take (i*sz)++(cur.toList.take (len*sz)).drop (m*sz)++cur.toList.drop (i*sz+((cur.toList.take (len*sz)).drop (m*sz)).length)).toArray) hrow
   (by simp only [D4,Ys,hti,hnl,Bi,hcl,hcur];omega) om hcur (by rw [Ys,WB,Bi,hll,q9,VG om];omega) (by
    have:(cur.toList.take (i*sz)++(cur.toList.take (len*sz)).drop (m*sz)++cur.toList.drop (i*sz+((cur.toList.take (len*sz)).drop (m*sz)).length)).toArray.toList.take ((i+(len-m))*sz)=cur.toList.take (i*sz)++(cur.toList.take (len*sz)).drop (m*sz):=by
     rw [D5,q9,<-hnl]
     conv=>lhs;arg 1;rw [show i*sz+((cur.toList.take (len*sz)).drop (m*sz)).length=(cur.toList.take (i*sz)++(cur.toList.take (len*sz)).drop (m*sz)).length from by rw [Ys,hti]]
     exact JN
    rw [this]
    have ht1:=hcells.take (i*sz)
    rw [List.take_take,VG om] at ht1
    exact ht1.append (hcells.drop (m*sz)))
  generalize hW:w.setRow g (cur.toList.take (i*sz)++(cur.toList.take (len*sz)).drop (m*sz)++cur.toList.drop (i*sz+((cur.toList.take (len*sz)).drop (m*sz)).length)).toArray=W at hr j1 j2
  have hrun:(execOp a.eval { dst:=dst,op:=.call { callee:=.builtin .append,args:=#[s,x],argTypes:=#[t,t] },type:=type,pos:=pos,after:=after,guard:=guard }).run P w=.ok (.value (.slice (some ⟨g,0,none⟩) (i+(len-m)) cap)) W:=by
   simp only [execOp,resolve,invoke,builtin,Sem.run_bind,Sem.run_pure,Result.andThen_ok,Bk,Ul,Bj,v1,v2,CG]
   rw [hr]
   rfl
  unfold Oper.wp
  rw [hrun]
  exact ⟨_,_,G,hK,(hF.mono (j2.agree hh)).put (UM hd) .val,j1,j2⟩
end
section
variable {P:Program} {n:Nat} {ops:Array Oper} {B:Fr->List Res->Prop} {T:List (Nat × List Nat)} {fuel:Nat} {done:List Nat} {k:Nat} {F:Fr} {h:List Res}
theorem MO (q j:Nat) (js bs:List Nat) (g len cap i m sz:Nat) (ls:List AV) (hone:ls.all AV.one=true)
  (H:YT P n ops B (T.filter fun t=>!WZ ops q t.1) fuel (done++[q]) (F.put (ZA ops q).dst (.val (.slice (some ⟨g,0,none⟩) (i+(len-m)) cap))) (.row (.slice (some ⟨g,0,none⟩) (i+(len-m)) cap) sz (ls.take (i*sz)++ls.drop (m*sz))::XG [j] h)) (him:i<=m:=by omega) (hml:m<=len:=by omega)
  (hk:X6 n ops F q=true:=by kernel_rfl) (ha:Uy P ops F q=some (.val (.slice (some ⟨g,0,none⟩) i cap),.val (CG g len cap m sz),sz):=by kernel_rfl) (hp:Wi [j] h=some [.row (.slice (some ⟨g,0,none⟩) len cap) sz ls]:=by kernel_rfl) (ho:VZ ops q T=bs:=by kernel_rfl)
  (hj:js.map (fun z=>(WA (XG [j] h))[z]?)=bs.map some:=by kernel_rfl):Vo P n ops B T fuel done F h q:=
 Kb [j] js bs hk (Vw hp) ho hj (Z9e (h2:=[]) (VM hk).2.1 ha hone him hml H)
end
theorem Z2w (xs:List Yg) (k:Nat) (d:Yg):YO (xs.set k d)=(YO xs).set k (K5 d):=by simp [YO,List.map_set]
theorem ES (xs:List Yg):(Zl (YO xs)).length=xs.length*5:=by rw [TC (k:=5) _ (UP xs)];simp
theorem Z3j {ds:List Yg} {k:Nat} (d:Yg) (hk:k<ds.length):(Zl (YO ds)).take (k*5)++(K5 d).leaves++(Zl (YO ds)).drop (k*5+5)=Zl (YO (ds.set k d)):=by
 rw [Z2w];exact EV (y:=K5 d) (UP ds) rfl (by simpa using hk)
theorem Z2o (xs:List Z8) (k:Nat) (d:Z8):YJ (xs.set k d)=(YJ xs).set k (ZZ d):=by
 simp [T7,List.map_set]
theorem Dt (xs:List Z8):(Zl (YJ xs)).length=xs.length*2:=by rw [TC (k:=2) _ (TI xs)];simp
theorem Z3g {ds:List Z8} {k:Nat} (d:Z8) (hk:k<ds.length):(Zl (YJ ds)).take (k*2)++(ZZ d).leaves++(Zl (YJ ds)).drop (k*2+2)=Zl (YJ (ds.set k d)):=by
 rw [Z2o];exact EV (y:=ZZ d) (TI ds) (by cases d;rfl) (by simpa using hk)
theorem WC.frzN {P:Program} {f:FuncId} {as1:List AV} {h0:List Res} {ds:List Zf} {rs:List Yg} {hs:List Res}
  (H:WC P f as1 h0 (fun r h=>∃g c:Nat,r=.agg [ZT ds,.ms g 0 rs.length c]/\h=.row (.slice (some ⟨g,0,none⟩) rs.length c) 5 (Zl (YO rs))::hs)) :
  WC P f as1 h0 (fun r h=>r=.agg [ZT ds,Kf rs]/\h=hs):=by
 intro w G vs hv hh
 refine (H w G vs hv hh).mono ?_
 rintro e w' ⟨u,r,h',G',he,⟨gb,c,rfl,rfl⟩,hr,hh',hx⟩
 obtain ⟨G2,h1,h2,h3⟩:=BX hh' (UP _) om
 have hA:VQ G' w' w' G2:=h2.agree hh'
 refine ⟨u,_,hs,G2,he,⟨rfl,rfl⟩,?_,(h1.perm (List.perm_append_comm (l₁:=[_]))).left,(hx.trans h2).sub' (Bn _ _)⟩
 cases hr with
 | agg hc=>
  cases hc with
  | cons k1 t1=>
   cases t1 with
   | cons k2 t2=>
    cases t2
    have hv2:=k2.val_inv
    subst hv2
    refine .agg (.cons (k1.mono hA) (.cons ?_ .nil))
    have hw:Zd (.sl (YO rs) (some (.slice (some ⟨gb,0,none⟩) rs.length c))) (Kf rs):=Zd.forget _ _
    exact hw _ _ _ h3
theorem Z3o (v:Value) (k:Nat) (ls ks:List AV) (b o:Nat):Res.fp (.row v k ks) b o=Res.fp (.vec v ls) b o:=by
 cases v with
 | slice a _ _=>cases a<;>rfl
 | _=>rfl
theorem Zeb {w:World} {G:Y7} {v:Value} {ls:List AV} {h2:List Res} (hh:Yr w G (.vec v ls::h2)):Yr w G (.row v 1 ls::h2)/\YU w G (.vec v ls::h2) w G (.row v 1 ls::h2):=by
 have hpw:=WJ.1 hh.apart
 have hf:∀b o,Res.fp (.row v 1 ls) b o->Res.fp (.vec v ls) b o:=fun b o h=>by rw [Z3o v 1 ls ls] at h;exact h
 refine ⟨⟨fun r hr=>?_,WJ.2 ⟨fun r hr b o f1 f2=>hpw.1 r hr b o (hf b o f1) f2,hpw.2⟩,fun r hr b o f1 hg=>?_,hh.lt⟩,⟨rfl,rfl,rfl,X4 _,fun _ _ h=>h,fun _ _=>.inl rfl,fun _ _ _ h=>.inl h,fun b o _ ⟨r,hr,f1⟩=>?_⟩⟩
 ·rcases YG.1 hr with rfl|hr
  ·rcases hh.ok _ (Xh ..) with h0|⟨g,cap,cur,e,h0,h1,h3,h4,h5⟩
   ·exact .inl h0
   ·exact .inr ⟨g,ls.length,cap,cur,e,h0,h1,h3,by rw [h4,Qu],by rw [Qu],by rw [Qu];exact h5⟩
  ·exact hh.ok r (XA _ hr)
 ·rcases YG.1 hr with rfl|hr
  ·exact hh.prot _ (Xh ..) b o (hf b o f1) hg
  ·exact hh.prot r (XA _ hr) b o f1 hg
 ·rcases YG.1 hr with rfl|hr
  ·exact ⟨_,Xh ..,hf b o f1⟩
  ·exact ⟨r,XA _ hr,f1⟩
theorem Nk:∀xs:LI,Zl (Z6 xs)=Z6 xs
 | []=>rfl
 | x::r=>Ym (AV.i x::·) (Nk r)
section
variable {h:List Res}
theorem JK (j:Nat) (v:Hd) (xs:LI) (hp:Wi [j] h=some [rV v xs]:=by kernel_rfl):Tm h (.row v.v 1 (Zl (Z6 xs))::XG [j] h):=by
 have e:Zl (Z6 xs)=Z6 xs:=Nk xs
 rw [e]
 intro w G hh
 have hp':=Uf (Vw hp)
 obtain ⟨a,b⟩:=Zeb (hh.perm hp')
 exact ⟨G,a,b.perm hp'.symm (Qb _)⟩
end
def Ak (bs:LI) (p:Nat) (mx:Int):Int:=
 if mx<1∨bs.length=0 then 0 else if p<bs.length then (bs[p]?).getD 0 % mx else
  Ar ((((bs[p % bs.length]?).getD 0*131+(bs[(p*7+3) % bs.length]?).getD 0*1117)+((p*29:Nat):Int))+(((p / bs.length:Nat):Int)*53))
   (((((bs[p % bs.length]?).getD 0*131+(bs[(p*7+3) % bs.length]?).getD 0*1117)+((p*29:Nat):Int))+(((p / bs.length:Nat):Int)*53)) / 64) % mx
theorem Z9u {bs:LI} {p:Nat} {mx:Int} (h:0<mx):0<=Ak bs p mx/\Ak bs p mx<mx:=by
 rw [Ak]
 split
 ·omega
 ·split
  ·exact ⟨Int.emod_nonneg _ om,Int.emod_lt_of_pos _ h⟩
  ·exact ⟨Int.emod_nonneg _ om,Int.emod_lt_of_pos _ h⟩
theorem Z3f {xs:List Z8} {k:Nat} {b:Z8} (h:xs[k]? = some b):Zl (YJ (xs.take k))++Zl [ZZ b]=Zl (YJ (xs.take (k+1))):=by
 rw [V4 h,A0,Qg]
 congr 1
 rw [T7];rfl
def DG (s:Z5) (u:Value):List AV:=[.i s.op,.i s.num,.i s.into,Z4 s.args,.val u]
def Du (b:Z8) (k:Nat):Z5:=(b.steps[k]?).getD (Zx 0 0)
theorem EZ {b:Z8} {k:Nat} {s:Z5} (h:b.steps[k]? = some s):Du b k=s:=by rw [Du,h];rfl
def WU (b:Z8) (kk:Nat) (u:Value) (k:Nat):List AV:=if k<=kk then Zl (Zy (b.steps.take k)) else Zl (Zy (b.steps.take kk))++(DG (Du b kk) u++Zl (Zy ((b.steps.take k).drop (kk+1))))
def Te (b:Z8) (kk k:Nat):List AV:=if k<=kk then [] else Zl (YJ (Du b kk).kids)
theorem Om {b:Z8} {kk:Nat} {u:Value}:WU b kk u 0=[]:=by rw [WU,Ze (Kn _),List.take_zero,VB];rfl
theorem Oq {b:Z8} {kk:Nat}:Te b kk 0=[]:=Ze (Kn _)
theorem Ig {b:Z8} {kk k:Nat} {u:Value} (h:k<=b.steps.length):(WU b kk u k).length=k*5:=by
 rw [WU]
 split
 ·rw [QD,WB,VG h]
 ·rename_i q
  have e:(DG (Du b kk) u).length=5:=rfl
  rw [Ys,Ys,QD,QD,Bi,WB,WB,e,VG h,VG om]
  omega
theorem Ok {b:Z8} {kk k:Nat} {u:Value} {s:Z5} (hs:b.steps[k]? = some s) (hk:¬k=kk):WU b kk u k++Zl [YF s]=WU b kk u (k+1):=by
 have hkl:=(Xn.1 hs).1
 by_cases q:k<=kk
 ·rw [WU,Ze q,WU,Ze om]
  exact Ni hs
 ·rw [WU,Z7 q,WU,Z7 om,TT,TT]
  congr 2
  rw [V4 hs,List.drop_append_of_le_length (by rw [WB];omega),WS,Qg]
  congr 1
  rw [VB];rfl
theorem On {b:Z8} {kk k:Nat} (hk:¬k=kk):Te b kk k=Te b kk (k+1):=by
 by_cases q:k<=kk
 ·rw [Te,Ze q,Te,Ze om]
 ·rw [Te,Z7 q,Te,Z7 om]
theorem Ol {b:Z8} {kk:Nat} {u u2:Value} {s:Z5} (hs:b.steps[kk]? = some s):WU b kk u kk++DG s u2=WU b kk u2 (kk+1):=by
 rw [WU,Ze (X4 _),WU,Z7 om,EZ hs,Gt (by rw [WB];omega),VB]
 show _=_++(DG s u2++Zl [])
 rw [Z3m,JM]
theorem Oo {b:Z8} {kk:Nat} {s:Z5} (hs:b.steps[kk]? = some s):Zl (YJ s.kids)=Te b kk (kk+1):=by
 rw [Te,Z7 om,EZ hs]
theorem PV {α:Type}:∀(A X:List α) (m:Nat) (y:α),(A++X).set (A.length+m) y=A++X.set m y
 | [],X,m,y=>by simp
 | a::r,X,m,y=>by
  have:=PV r X m y
  rw [K0,YS,show r.length+1+m=(r.length+m)+1 by omega,List.set_cons_succ,this,K0]
theorem Z5o {α:Type} (A X:List α) (m:Nat):(A++X)[A.length+m]? = X[m]?:=by
 rw [D3 om];congr 1;omega
section
variable {b:Z8} {kk:Nat} {u:Value} {s:Z5}
theorem If (hs:b.steps[kk]? = some s):WU b kk u b.steps.length=Zl (Zy (b.steps.take kk))++(DG s u++Zl (Zy (b.steps.drop (kk+1)))):=by
 have hk:=(Xn.1 hs).1
 rw [WU,Z7 om,EZ hs,VP]
theorem Ie (hs:b.steps[kk]? = some s):(Zl (Zy (b.steps.take kk))).length=kk*5:=by
 have hk:=(Xn.1 hs).1
 rw [QD,WB,VG om]
theorem Z7w (hs:b.steps[kk]? = some s):(WU b kk u b.steps.length)[kk*5+4]? = some (.val u):=by
 rw [If hs,<-Ie hs,Z5o];rfl
theorem Fo (hs:b.steps[kk]? = some s):((WU b kk u b.steps.length).drop (kk*5+4)).take 1=[.val u]:=by
 rw [If hs,<-Ie hs,<-List.drop_drop,List.drop_left];rfl
theorem Z3l {xs:List Z5} {k:Nat} {t:Z5} (hk:k<xs.length):Zl (Zy (xs.set k t))=Zl (Zy (xs.take k))++(Xw t++Zl (Zy (xs.drop (k+1)))):=by
 rw [Ec,Ze hk,WS,Qg,ET]
theorem Z7x (hs:b.steps[kk]? = some s) (ks:List Z8):(WU b kk u b.steps.length).set (kk*5+4) (.sl (YJ ks) none)=Zl (Zy (b.steps.set kk ⟨s.op,s.num,s.into,s.args,ks⟩)):=by
 have hk:=(Xn.1 hs).1
 rw [If hs,<-Ie hs,PV,Z3l hk];rfl
theorem Ih (hs:b.steps[kk]? = some s):Te b kk b.steps.length=Zl (YJ s.kids):=by
 have hk:=(Xn.1 hs).1
 rw [Te,Z7 om,EZ hs]
theorem Z7y (hs:b.steps[kk]? = some s):b.steps.set kk ⟨s.op,s.num,s.into,s.args,s.kids⟩=b.steps:=by
 have e:Z5.mk s.op s.num s.into s.args s.kids=s:=by cases s;rfl
 rw [e]
 apply List.ext_getElem?
 intro i
 rw [List.getElem?_set]
 split
 ·rename_i q;subst q;rw [Ze (Xn.1 hs).1];exact hs.symm
 ·rfl
end
theorem VR.set:∀(ls:List AV) (p:Nat) {x y:AV},Zd x y->VR (ls.set p x) (ls.set p y)
 | [],_,_,_,_=>.nil
 | a::r,0,_,_,h=>.cons h (VR.refl r)
 | a::r,p+1,_,_,h=>.cons (Zd.refl a) (VR.set r p h)
theorem VR.len:∀{xs ys:List AV},VR xs ys->ys.length=xs.length
 | _,_,.nil=>rfl
 | _,_,.cons _ t=>by rw [YS,YS,t.len]
theorem Z3n (v:Value) (k:Nat) (ls ks:List AV):Res.fp (.row v k ks)=Res.fp (.row v k ls):=by
 cases v with
 | slice a _ _=>cases a<;>rfl
 | _=>rfl
theorem Zag {w:World} {G:Y7} {v:Value} {k:Nat} {ls ls':List AV} {h2:List Res} (hle:VR ls ls') (hh:Yr w G (.row v k ls::h2)):Yr w G (.row v k ls'::h2)/\YU w G (.row v k ls::h2) w G (.row v k ls'::h2):=by
 have hpw:=WJ.1 hh.apart
 have hf:∀b o,Res.fp (.row v k ls') b o->Res.fp (.row v k ls) b o:=fun b o h=>by rw [Z3n v k ls ls'] at h;exact h
 refine ⟨⟨fun r hr=>?_,WJ.2 ⟨fun r hr b o f1 f2=>hpw.1 r hr b o (hf b o f1) f2,hpw.2⟩,fun r hr b o f1 hg=>?_,hh.lt⟩,⟨rfl,rfl,rfl,X4 _,fun _ _ h=>h,fun _ _=>.inl rfl,fun _ _ _ h=>.inl h,fun b o _ ⟨r,hr,f1⟩=>?_⟩⟩
 ·rcases YG.1 hr with rfl|hr
  ·rcases hh.ok _ (Xh ..) with ⟨h0,h1⟩|⟨g,len,cap,cur,e,h0,h1,h3,h4,h5,h6⟩
   ·subst h1;cases hle;exact .inl ⟨h0,rfl⟩
   ·exact .inr ⟨g,len,cap,cur,e,h0,h1,h3,h4,by rw [hle.len];exact h5,hle.cs h6⟩
  ·exact hh.ok r (XA _ hr)
 ·rcases YG.1 hr with rfl|hr
  ·exact hh.prot _ (Xh ..) b o (hf b o f1) hg
  ·exact hh.prot r (XA _ hr) b o f1 hg
 ·rcases YG.1 hr with rfl|hr
  ·exact ⟨_,Xh ..,hf b o f1⟩
  ·exact ⟨r,XA _ hr,f1⟩
section
variable {h:List Res}
theorem RK (j i:Nat) (b:Z8) (kk:Nat) (s:Z5) (ks:List Z8) (u v:Value) (hs:b.steps[kk]? = some s) (hp:Wi [j,i] h=some [.row u 2 (Zl (YJ ks)),.row v 5 (WU b kk u b.steps.length)]:=by kernel_rfl) :
  Tm h (.row v 5 (Zl (Zy (b.steps.set kk ⟨s.op,s.num,s.into,s.args,ks⟩)))::.tail u 2::XG [j,i] h):=by
 intro w G hh
 obtain ⟨G',a1,a2⟩:=Zds j i (kk*5+4) hp (TI ks) om (Z7w hs) w G hh
 obtain ⟨b1,b2⟩:=Zag (VR.set _ (kk*5+4) (Zd.forget (YJ ks) (some u))) a1
 rw [Z7x hs] at b1 b2
 exact ⟨G',b1,a2.trans b2⟩
theorem Lv (j i:Nat) (b:Z8) (kk:Nat) (s:Z5) (u v:Value) (hs:b.steps[kk]? = some s) (hp:Wi [j,i] h=some [.row u 2 (Te b kk b.steps.length),.row v 5 (WU b kk u b.steps.length)]:=by kernel_rfl) :
  Tm h (.row v 5 (Zl (Zy b.steps))::.tail u 2::XG [j,i] h):=by
 have Yh:Wi [j,i] h=some [.row u 2 (Zl (YJ s.kids)),.row v 5 (WU b kk u b.steps.length)]:=by rw [hp,Ih hs]
 have:=RK j i b kk s s.kids u v hs Yh
 rwa [Z7y hs] at this
end
theorem Nh {xs:List Z5} {k:Nat} (hk:k<xs.length):(Zl (Zy xs)).take (k*5)++(Zl (Zy xs)).drop ((k+1)*5)=Zl (Zy (xs.take k++xs.drop (k+1))):=by
 have h1:(Zl (Zy (xs.take k))).length=k*5:=by rw [QD,WB,VG om]
 have h2:(Zl (Zy (xs.take (k+1)))).length=(k+1)*5:=by rw [QD,WB,VG om]
 have e1:Zl (Zy xs)=Zl (Zy (xs.take k))++Zl (Zy (xs.drop k)):=by rw [<-Qg,<-WS,T1]
 have e2:Zl (Zy xs)=Zl (Zy (xs.take (k+1)))++Zl (Zy (xs.drop (k+1))):=by rw [<-Qg,<-WS,T1]
 rw [WS,Qg]
 congr 1
 ·rw [e1,<-h1,JN]
 ·conv=>lhs;rw [e2,<-h2,List.drop_left]
theorem Z3e {xs:List Z8} {i:Nat} {s:Z8} (h:xs[i]? = some s):((Zl (YJ xs)).drop (i*2)).take 2=Xg s:=by
 have hi:=(Xn.1 h).1
 have h1:(Zl (YJ (xs.take i))).length=i*2:=by rw [Dt,WB,VG om]
 have e1:Zl (YJ xs)=Zl (YJ (xs.take i))++Zl (YJ (xs.drop i)):=by rw [<-Qg,<-A0,T1]
 rw [e1,<-h1,List.drop_left,Y5 h,T7,Ul]
 rfl
section
variable {rs:List Yg} {k:Nat} {r:Yg}
theorem HF (hk:k<rs.length) (r:Yg):Zl (YO (rs.set k r))=Zl (YO (rs.take k))++((K5 r).leaves++Zl (YO (rs.drop (k+1)))):=by
 rw [Ec,Ze hk,BF,Qg];rfl
theorem Ng (hk:k<rs.length):(Zl (YO (rs.take k))).length=k*5:=by rw [ES,WB,VG om]
theorem Z3i (hk:k<rs.length) (r:Yg):((Zl (YO (rs.set k r))).drop (k*5+1)).take 1=[Z4 r.lent]:=by
 rw [HF hk,<-Ng hk,<-List.drop_drop,List.drop_left];rfl
theorem Z3k (hk:k<rs.length) (r:Yg) (l:LI):(Zl (YO (rs.set k r))).take (k*5+1)++[Z4 l]++(Zl (YO (rs.set k r))).drop (k*5+1+1)=Zl (YO (rs.set k ⟨r.params,l,r.result,r.body⟩)):=by
 have hl:=Ng hk
 rw [HF hk,HF hk]
 have e:(K5 r).leaves=[Z4 r.params]++([Z4 r.lent]++[.i r.result,.sl (Zy r.body.steps) none,.i r.body.result]):=rfl
 have e2:(K5 ⟨r.params,l,r.result,r.body⟩).leaves=[Z4 r.params]++([Z4 l]++[.i r.result,.sl (Zy r.body.steps) none,.i r.body.result]):=rfl
 rw [e,e2]
 have q:=IX (A:=Zl (YO (rs.take k))++[Z4 r.params]) (xs:=[Z4 r.lent]) (ys:=[Z4 l]) (B:=[.i r.result,.sl (Zy r.body.steps) none,.i r.body.result]++Zl (YO (rs.drop (k+1)))) (o:=k*5+1) (by rw [Ys,hl];rfl) rfl
 simpa [TT] using q
end
end Go.Abs
section
namespace Go.Abs
theorem UB {rs fs:List Func} (hp:fs <+: rs) {i:Nat} {f:Func} (hx:fs[i]? = some f) (c:Nat) {zs:List AV} (hz:((Fp f).drop c).take zs.length=zs) (hl:c+zs.length<=5):((Zl (Xp rs)).drop (i*5+c)).take zs.length=zs:=by
 obtain ⟨ys,rfl⟩:=hp
 have h1:(fs++ys)[i]? = some f:=by rw [D0 (Xn.1 hx).1];exact hx
 have e1:=(T1 i (fs++ys)).symm
 rw [Y5 h1] at e1
 have hl2:(Zl (Xp ((fs++ys).take i))).length=i*5:=by
  rw [TC (k:=5) _ (EH _),Ck,WB,VG (by have:=(Xn.1 h1).1;omega)]
 have e2:Zl (Xp (fs++ys))=Zl (Xp ((fs++ys).take i))++(Fp f++Zl (Xp ((fs++ys).drop (i+1)))):=by
  conv=>lhs;rw [e1]
  simp only [Xp,Zl,List.map_append,Ul,List.flatMap_append,As]
  rfl
 rw [e2,List.drop_append,List.drop_of_length_le om,Bl,hl2,Nat.add_sub_cancel_left,List.drop_append_of_le_length (by show c<=5;omega),List.take_append_of_le_length (by rw [Bi];show zs.length<=5-c;omega)]
 exact hz
theorem HD (rs:List Func):(Zl (Xp rs)).length=rs.length*5:=by rw [TC (k:=5) _ (EH _),Ck]
end Go.Abs
namespace Go.Abs
abbrev Wo (g:W4) (gb:Nat):List AV:=[ZT g.decls,.ms gb 0 g.funcs.length 4]
abbrev XJ (gb:Nat) (rs:List Func):Res:=.row (.slice (some ⟨gb,0,none⟩) 4 4) 5 (Zl (Xp rs))
abbrev Yv (rd:Nat) (bs:LI) (p:Nat):Res:=.obj rd [U8 bs,.i p]

end Go.Abs
end
namespace Go.Abs
theorem Zai {w:World} {G:Y7} {g len cap k m:Nat} {ls:List AV} {h2:List Res} (hh:Yr w G (.row (.slice (some ⟨g,0,none⟩) len cap) k ls::h2)) (hle:m<=len) :
  Yr w G (.row (.slice (some ⟨g,0,none⟩) m cap) k (ls.take (m*k))::h2)/\YU w G (.row (.slice (some ⟨g,0,none⟩) len cap) k ls::h2) w G (.row (.slice (some ⟨g,0,none⟩) m cap) k (ls.take (m*k))::h2):=by
 have hpw:=WJ.1 hh.apart
 have hfp:∀b o,Res.fp (.row (.slice (some ⟨g,0,none⟩) m cap) k (ls.take (m*k))) b o->Res.fp (.row (.slice (some ⟨g,0,none⟩) len cap) k ls) b o:=fun b o hf=>hf
 refine ⟨⟨fun r hr=>?_,WJ.2 ⟨fun r hr b o h1 h2=>hpw.1 r hr b o (hfp b o h1) h2,hpw.2⟩,fun r hr b o hf hg=>?_,hh.lt⟩,⟨rfl,rfl,rfl,X4 _,fun _ _ h=>h,fun _ _=>.inl rfl,fun _ _ _ h=>.inl h,fun b o _ hf=>?_⟩⟩
 ·rcases YG.1 hr with rfl|hr
  ·rcases hh.ok _ (Xh ..) with ⟨h0,_⟩|⟨g',len',cap',cur,e,hv,h1,h3,h4,h5,h6⟩
   ·cases h0
   ·cases hv
    have hmk:m*k<=len*k:=Qt k hle
    refine .inr ⟨g,m,cap,cur,e,rfl,h1,by omega,h4,by rw [WB,h5];omega,?_⟩
    have:=h6.take (m*k)
    rw [List.take_take,VG hmk] at this
    exact this
  ·exact hh.ok r (XA _ hr)
 ·rcases YG.1 hr with rfl|hr
  ·exact hh.prot _ (Xh ..) b o (hfp b o hf) hg
  ·exact hh.prot r (XA _ hr) b o hf hg
 ·obtain ⟨r,hr,hf⟩:=hf
  rcases YG.1 hr with rfl|hr
  ·exact ⟨_,Xh ..,hfp b o hf⟩
  ·exact ⟨r,XA _ hr,hf⟩
theorem Z3h {rs:List Func} {k:Nat} (f:Func) (hk:k<rs.length):(Zl (Xp rs)).take (k*5)++Fp f++(Zl (Xp rs)).drop (k*5+5)=Zl (Xp (rs.set k f)):=by
 rw [show Xp (rs.set k f)=(Xp rs).set k (Db f) by simp [Xp,List.map_set]]
 exact EV (y:=Db f) (EH rs) rfl (by simpa using hk)
theorem WC.frzP {P:Program} {f:FuncId} {as1:List AV} {h0:List Res} {E:Type} {ds:E->List Zf} {rs:E->List Func} {m:E->Nat} {hs:E->List Res} {Q:E->Prop}
  (H:WC P f as1 h0 (fun r h=>∃(e:E) (gb:Nat),r=.agg [ZT (ds e),.ms gb 0 (m e) 4]/\h=.row (.slice (some ⟨gb,0,none⟩) 4 4) 5 (Zl (Xp (rs e)))::hs e/\Q e)) (hm:∀e,Q e->m e<=4/\(rs e).length=4) :
  WC P f as1 h0 (fun r h=>∃e:E,r=.agg [ZT (ds e),Fx ((rs e).take (m e))]/\h=hs e/\Q e):=by
 intro w G vs hv hh
 refine (H w G vs hv hh).mono ?_
 rintro e w' ⟨u,r,h',G',he,⟨x,gb,rfl,rfl,hq⟩,hr,hh',hx⟩
 obtain ⟨hm4,hr4⟩:=hm x hq
 obtain ⟨j1,j2⟩:=Zai hh' hm4
 have hft:(Zl (Xp (rs x))).take (m x*5)=Zl (Xp ((rs x).take (m x))):=by
  have e1:rs x=(rs x).take (m x)++(rs x).drop (m x):=(T1 _ _).symm
  have e2:Zl (Xp (rs x))=Zl (Xp ((rs x).take (m x)))++Zl (Xp ((rs x).drop (m x))):=by
   conv=>lhs;rw [e1]
   rw [Z2u,Qg]
  rw [e2,List.take_append_of_le_length (by rw [HD,WB,show min (m x) (rs x).length=m x by omega];exact X4 _),Vi (by rw [HD,WB];exact Qt 5 (Nat.min_le_left _ _))]
 rw [hft] at j1 j2
 obtain ⟨G2,h1,h2,h3⟩:=BX j1 (EH _) om
 have hA:VQ G' w' w' G2:=h2.agree j1
 refine ⟨u,_,hs x,G2,he,⟨x,rfl,rfl,hq⟩,?_,(h1.perm (List.perm_append_comm (l₁:=[_]))).left,((hx.trans j2).trans h2).sub' (Bn _ _)⟩
 cases hr with
 | agg hc=>
  cases hc with
  | cons k1 t1=>
   cases t1 with
   | cons k2 t2=>
    cases t2
    have hv2:=k2.val_inv
    subst hv2
    refine .agg (.cons (k1.mono hA) (.cons ?_ .nil))
    have hw:Zd (.sl (Xp ((rs x).take (m x))) (some (.slice (some ⟨gb,0,none⟩) (m x) 4))) (Fx ((rs x).take (m x))):=Zd.forget _ _
    exact hw _ _ _ h3
open Go.Proofs
theorem Z50 (code:LI) (hl:code.length<=1048576:=by exact ob) (hc:∀z∈code,0<=z/\z<=255):Zi 52 [U8 code] [] (fun r h=>∃(rd:Nat) (bs:LI),r=.p rd 0/\h=[.obj rd [U8 bs,.i 0]]/\∀z∈bs,0<=z/\z<=255):=by
 refine ZF 11 Tryz.func52 (ZE (YM 1 (iw (Ky code) (Z0 (XK (fun fz gz F h=>F=sF [] fz [(0,U8 (if (code.length:Int)>2000 then (code.take 2000) else code))]/\h=gz) ?_ ?_)))))
 ·refine XX ((code.length:Int)>2000) (fun Za=>?_) (fun Za=>?_)
  ·exact az (Z2 1 (Zm (Jg (es:=TJ code) (hv:=none) (l:=0) (m:=2000) (sz:=1) (es':=TJ (code.take 2000)) kr om (by simp<;>omega) (by simp<;>omega) (Z2p _) (by first|(simp only [U9,VP,Hn,Hm];done)|(simp only [U9,VP,Hn,Hm];rfl)|(simp [Hn,Hm];done))) (Z0 (ZO ⟨rfl,rfl⟩ (wk [] (fc (x:=U8 (code.take 2000)) (Zd.sl _ (Ym TJ (by first|rfl|(rw [Ze Za])|(rw [Z7 Za])|(simp [Za];done)|(rw [Xq];simp [Za];done)|omega))) fl))))))
  exact ak (ZO ⟨rfl,rfl⟩ (wk [] (fc (x:=U8 code) (Zd.sl _ (Ym TJ (by first|rfl|(rw [Ze Za])|(rw [Z7 Za])|(simp [Za];done)|(rw [Xq];simp [Za];done)|omega))) fl)))
 rintro F h ⟨rfl,rfl⟩
 exact Y6 2 (iA [U8 (if (code.length:Int)>2000 then (code.take 2000) else code),.i 0] fun b1=>Zq (r1 [0] ⟨b1,(if (code.length:Int)>2000 then (code.take 2000) else code),rfl,rfl,(by first|exact hc|exact fun z hz=>hc z (Qc hz)|(split<;>first|exact hc|exact fun z hz=>hc z (Qc hz)))⟩))
theorem Wb (rd:Nat) (bs:LI) (p:Nat) (mx:Int) (ZK:∀z∈bs,0<=z/\z<=255) (hp:p+1<=1000000000:=by exact ob):Zi 79 [.p rd 0,.i mx] [Yv rd bs p] (fun r h=>∃(k:Int),r=.i k/\h=[.obj rd [U8 bs,.i (p+1:Nat)]]/\Pk mx k):=by
 refine ZF 99 Tryz.func79 (ZE (Zv 5 [0] (ZJ p (Z2 2 (ZH 0 rd [U8 bs,.i (p+1:Nat)] (ie (X2 (Xo [0,1] [(24,.b ((decide (mx<1))||((bs.length:Int)==0)))] (fun gz=>gz) ?_ ?_))))))))
 ·refine Z2 3 (ib (b:=(decide (mx<1))) 17 (fun Zb=>?_) (fun Zb=>?_))
  ·exact Z0 (wk [0] (Zs true Zb fl))
  exact ZM 4 [0] (iw (Ky bs) (Z0 (wk [0] (Zs ((bs.length:Int)==0) Zb fl))))
 refine ac ((decide (mx<1))||((bs.length:Int)==0)) (p:=(mx<1)∨((bs.length:Int)=0)) (Yx dq Zo) (fun Za=>?_) (fun Za=>?_)
 ·exact ar (Zq (r1 [0] ⟨0,rfl,rfl,Pk.zero⟩))
 refine ak (Zv 4 [0] (ia ((p:Int)) ((((p+1:Nat):Int))-(1)) (Z0 (Yi 5 [0] (iw (Ky bs) (Y1 ((p:Int)<(bs.length:Int)) (fun Zg=>?_) (fun Zg=>?_)))))))
 ·refine Zv 5 [0] ?_
  obtain ⟨x1,Z3⟩:=Zr bs p om
  have hz:=ZK _ (Y4 Z3)
  exact Zm (Zj none (p:Int) 1 (Cf Z3)) (Z2 1 (Zm (CD x1 om) (Z2 1 (Zm (DE x1 mx om om) (Zq (r1 [0] ⟨(x1 % mx),rfl,rfl,(Pk.rem om om)⟩))))))
 have hq1:p / bs.length<=p:=Nat.div_le_self _ _
 have hq0:(0:Int)<=((p / bs.length:Nat):Int):=Int.natCast_nonneg _
 refine ak (aD 46 (ZI 37 46 [0,1,2,3,4,5,6,7,8] [0,0] (dw 9 (Ky bs) (dx 10 (Fl p bs.length om om) ?_))))
 obtain ⟨x2,Zu⟩:=Zr bs (p % bs.length) (Nat.mod_lt _ om)
 have hz:=ZK _ (Y4 Zu)
 refine dx 11 (Zj none ((p % bs.length:Nat):Int) 1 (Cf Zu)) (Zk 33 34 [12] (dx 13 (CD x2 om) (da 14 ((x2*131)) ((x2)*(131)) (ZI 26 31 [15,16,17,18,19] [0] (da 20 (((p*7:Nat):Int)) (((p:Int))*(7)) (da 21 (((p*7+3:Nat):Int)) ((((p*7:Nat):Int))+(3)) (ZI 20 24 [22,23,24,25] [0] (dw 26 (Ky bs) (dx 27 (Fl (p*7+3) bs.length om om) ?_)))))))))
 obtain ⟨x3,YN⟩:=Zr bs ((p*7+3) % bs.length) (Nat.mod_lt _ om)
 have hz3:=ZK _ (Y4 YN)
 exact dx 28 (Zj none (((p*7+3) % bs.length:Nat):Int) 1 (Cf YN)) (Zk 16 17 [29] (dx 30 (CD x3 om) (da 31 ((x3*1117)) ((x3)*(1117)) (da 32 (((x2*131)+(x3*1117))) (((x2*131))+((x3*1117))) (Zk 12 13 [33] (da 34 (((p*29:Nat):Int)) (((p:Int))*(29)) (da 35 ((((x2*131)+(x3*1117))+((p*29:Nat):Int))) ((((x2*131)+(x3*1117)))+(((p*29:Nat):Int))) (ZI 5 10 [36,37,38,39,40] [0] (dw 41 (Ky bs) (dx 42 (BR p bs.length om om) (da 43 ((((p / bs.length:Nat):Int)*53)) ((((p / bs.length:Nat):Int))*(53)) (da 44 (((((x2*131)+(x3*1117))+((p*29:Nat):Int))+(((p / bs.length:Nat):Int)*53))) (((((x2*131)+(x3*1117))+((p*29:Nat):Int)))+((((p / bs.length:Nat):Int)*53))) (Zk 0 1 [45] (de (Y6 2 (Zm (Ic ((((x2*131)+(x3*1117))+((p*29:Nat):Int))+(((p / bs.length:Nat):Int)*53)) 64 om om) (Zm (Oj ((((x2*131)+(x3*1117))+((p*29:Nat):Int))+(((p / bs.length:Nat):Int)*53)) (((((x2*131)+(x3*1117))+((p*29:Nat):Int))+(((p / bs.length:Nat):Int)*53)) / 64)) (Z0 (Y6 2 (Zm (DE (Ar ((((x2*131)+(x3*1117))+((p*29:Nat):Int))+(((p / bs.length:Nat):Int)*53)) (((((x2*131)+(x3*1117))+((p*29:Nat):Int))+(((p / bs.length:Nat):Int)*53)) / 64)) mx om (Gn ⟨by omega,by omega⟩ ⟨by omega,by omega⟩).1) (Zq (r1 [0] ⟨((Ar ((((x2*131)+(x3*1117))+((p*29:Nat):Int))+(((p / bs.length:Nat):Int)*53)) (((((x2*131)+(x3*1117))+((p*29:Nat):Int))+(((p / bs.length:Nat):Int)*53)) / 64)) % mx),rfl,rfl,(Pk.rem (Gn ⟨by omega,by omega⟩ ⟨by omega,by omega⟩).1 om)⟩))))))))))))))))))))))
theorem VW (rd:Nat) (bs:LI) (p:Nat) (xs:LI) (ZK:∀z∈bs,0<=z/\z<=255) (hp:p+1<=1000000000:=by exact ob) (hx:0<xs.length/\xs.length<=1000000:=by exact ob):Zi 62 [.p rd 0,Z4 xs] [Yv rd bs p] (fun r h=>∃(z:Int),r=.i z/\h=[.obj rd [U8 bs,.i (p+1:Nat)]]/\z∈xs):=by
 refine ZF 12 Tryz.func62 (ZE (Y6 3 (iw (Y8 xs) (ic [0] (Wb rd bs p (xs.length:Int) (ZK:=ob)) ?_))))
 rintro _ _ ⟨k1,rfl,rfl,ZX⟩
 have hk:=ZX.lt om
 obtain ⟨x1,Z3⟩:=Zr xs k1.toNat om
 exact Zm (Zj none k1 1 (Y0 Z3)) (Zq (r1 [0] ⟨x1,rfl,rfl,(Y4 Z3)⟩))
theorem Q0 (fs:LI) :Zi 144 [Z4 fs] [] (Yk (Da (Yj.mk fs))):=by
 exact ZF 5 Tryz.func144 (ar (iA [nl] fun b1=>ie (Y6 2 (ZH 0 b1 [Z4 fs] (ie (ZD (r3 [] [.agg [Z4 fs]] [0] [(b1,b1)] ⟨rfl,rfl⟩ (Zd.agg (.cons (Zd.sl _ (Ym Z6 ob)) .nil)))))))))
theorem Nw (rd:Nat) (bs:LI) (p:Nat) (ZK:∀z∈bs,0<=z/\z<=255) (hp:p+1<=1000000000:=by exact ob):Zi 143 [.p rd 0] [Yv rd bs p] (fun r h=>∃(ds:List Zf) (v:Hd),r=.h v/\h=[rK v 3 (Zl (X1 ds)),.obj rd [U8 bs,.i (p+1:Nat)]]/\GD ds):=by
 refine ZF 51 Tryz.func143 (ZE (ar (iL (Z6 []) 0 1 fun v1=>ZQ 0 [(8,Z4 [])] (Zz [] (Q0 []) (iL (Z6 [0,1]) 2 1 fun v2=>ZQ 0 [(10,Z4 [0,1])] (Zz [] (Q0 [0,1]) (iL (WQ [Yj.mk [],Yj.mk [0,1]]) 2 1 fun v3=>Z2 1 (iA [.i 0,.i 0,nl] fun b1=>ZH 0 b1 [.i 0,.i 0,Fz [Yj.mk [],Yj.mk [0,1]] v3] (ie (ar (iL (Z6 []) 0 1 fun v4=>ZQ 0 [(14,Z4 [])] (Zz [] (Q0 []) (iL (Z6 [3,0,3]) 3 1 fun v5=>ZQ 0 [(16,Z4 [3,0,3])] (Zz [] (Q0 [3,0,3]) (iL (WQ [Yj.mk [],Yj.mk [3,0,3]]) 2 1 fun v6=>Z2 1 (iA [.i 0,.i 0,nl] fun b2=>ZH 0 b2 [.i 0,.i 0,Fz [Yj.mk [],Yj.mk [3,0,3]] v6] (ie (ar (iL (Z6 [1,3]) 2 1 fun v7=>ZQ 0 [(20,Z4 [1,3])] (Zz [] (Q0 [1,3]) (iL (WQ [Yj.mk [1,3]]) 1 1 fun v8=>Z2 2 (iL (Z6 [1,1,0]) 3 1 fun v9=>ZQ 0 [(25,Z4 [1,1,0])] (Zz [] (Q0 [1,1,0]) (iL (Z6 [0]) 1 1 fun v10=>ZQ 0 [(27,Z4 [0])] (Zz [] (Q0 [0]) (iL (Z6 [3]) 1 1 fun v11=>ZQ 0 [(29,Z4 [3])] (Zz [] (Q0 [3]) (iL (WQ [Yj.mk [1,1,0],Yj.mk [0],Yj.mk [3]]) 3 1 fun v12=>ZQ 2 [(23,.agg [.i 0,.i 0,KO [Yj.mk [1,3]]]),(24,.agg [.i 1,.i 0,.sl [] none]),(32,.agg [.i 0,.i 0,KO [Yj.mk [1,1,0],Yj.mk [0],Yj.mk [3]]]),(33,.agg [.i 0,.i 1,.sl [] none])] (iL (X1 [Zf.mk 0 0 [Yj.mk [1,3]],Zf.mk 1 0 [],Zf.mk 0 0 [Yj.mk [1,1,0],Yj.mk [0],Yj.mk [3]],Zf.mk 0 1 []]) 4 3 fun v13=>Z0 (ar (Qo 3 [(35,.agg [.i 0,.i 0,KO [Yj.mk [],Yj.mk [0,1]]]),(36,.agg [.i 0,.i 0,.sl [] none]),(37,.agg [.i 0,.i 0,KO [Yj.mk [],Yj.mk [3,0,3]]])] [11,7] (iKN (Zl (X1 [Zf.mk 0 0 [Yj.mk [],Yj.mk [0,1]],Zf.mk 0 0 [],Zf.mk 0 0 [Yj.mk [],Yj.mk [3,0,3]]])) 3 3 fun g1=>Z0 (Y6 1 (ic [16] (Wb rd bs p 5 (ZK:=ob)) ?_))))))))))))))))))))))))))))))))))
 rintro _ _ ⟨k1,rfl,rfl,ZX⟩
 have hk:=ZX.lt om
 refine Z0 (X2 (Y1 (k1<4) (fun Za=>?_) (fun Za=>?_)))
 ·refine az (Z2 3 ?_)
  obtain ⟨x1,Z3⟩:=Zr [Zf.mk 0 0 [Yj.mk [1,3]],Zf.mk 1 0 [],Zf.mk 0 0 [Yj.mk [1,1,0],Yj.mk [0],Yj.mk [3]],Zf.mk 0 1 []] k1.toNat (by show k1.toNat<4;omega)
  exact Zm (Zj (some v13) k1 3 (VJ Z3)) (Z2 1 (iL (X1 [x1]) 1 3 fun v14=>ZQ 0 [(48,ZT [x1])] (Fc 2 3 (⟨some ⟨g1,0,none⟩,3,3⟩:Hd) 3 (Zl (X1 [Zf.mk 0 0 [Yj.mk [],Yj.mk [0,1]],Zf.mk 0 0 [],Zf.mk 0 0 [Yj.mk [],Yj.mk [3,0,3]]])) (X1 [x1]) none rfl (J9 _) (EF _) (by simp [X1]) (by simp<;>omega) fun v15=>Z0 (ar (Zq (r1 [0,1] ⟨([JY,Zf.mk 0 0 [],JZ]++[x1]),v15,rfl,rfl,(GD.four Z3)⟩ (eq:=(rr (ls:=Zl (X1 [Zf.mk 0 0 [Yj.mk [],Yj.mk [0,1]],Zf.mk 0 0 [],Zf.mk 0 0 [Yj.mk [],Yj.mk [3,0,3]]])++Zl (X1 [x1])) (HC _ _) (rc rz)))))))))
 exact ak (ar (Zq (r1 [1,0] ⟨[JY,Zf.mk 0 0 [],JZ],(⟨some ⟨g1,0,none⟩,3,3⟩:Hd),rfl,rfl,GD.three⟩ (eq:=(rr (ls:=Zl (X1 [Zf.mk 0 0 [Yj.mk [],Yj.mk [0,1]],Zf.mk 0 0 [],Zf.mk 0 0 [Yj.mk [],Yj.mk [3,0,3]]])) rfl (rc rz))))))
theorem Z4h (rd:Nat) (bs:LI) (p:Nat) (ZK:∀z∈bs,0<=z/\z<=255) (hp:p+1<=1000000000:=by exact ob):Zi 143 [.p rd 0] [Yv rd bs p] (fun r h=>∃(ds:List Zf) (v:Value),r=JF ds v/\h=[.tail v 3,.obj rd [U8 bs,.i (p+1:Nat)]]/\GD ds):=(Nw rd bs p ZK hp).frz (es:=X1) (hs:=fun _=>[.obj rd [U8 bs,.i (p+1:Nat)]]) J9 om
theorem Z3s (rd:Nat) (bs:LI) (p:Nat) (ZK:∀z∈bs,0<=z/\z<=255) (hp:p+5<=1000000000:=by exact ob):Zi 113 [.p rd 0] [Yv rd bs p] (fun r h=>∃(dz:List Zf) (p2:Nat),r=ZT dz/\h=[Yv rd bs p2]/\AD dz/\p<=p2/\p2<=p+5):=by
 refine ZF 89 Tryz.func113 (ZE (Y6 1 (ic [0] (Nw rd bs p (ZK:=ob)) ?_)))
 rintro _ _ ⟨ds1,v1,rfl,rfl,ZX⟩
 have hgl:=ZX.len
 have hga:=ZX.ad
 refine Fb 0 ds1.length (v:=v1) (BJ _) om (fun g1 c1 he1=>?_)
 subst he1
 refine Z0 (Y6 2 (io (.i ds1.length) (.i ds1.length) (lr _) (ic [1] (Wb rd bs (p+1) (ds1.length:Int) (ZK:=ob)) ?_)))
 rintro _ _ ⟨k1,rfl,rfl,Yh⟩
 have qhp2:=Yh.lt om
 refine Z0 (YM 1 (ic [0] (Wb rd bs ((p+1)+1) 14 (ZK:=ob)) ?_))
 rintro _ _ ⟨k2,rfl,rfl,YH⟩
 have qhp3:=YH.lt om
 refine ie (ab 0 (ZE (Jv (fun fz gz F h=>∃(dq:List Zf) (vq:Hd) (pq:Nat),(AD dq)/\(p<=pq/\pq<=p+5)/\F=sF [] fz [(3,.h vq)]/\h=[Yv rd bs pq,rK vq 3 (Zl (X1 dq))]) (fun _ _=>rfl) ?_ ?_)))
 ·refine ac (k2==0) Zo (fun Za=>?_) (fun Za=>?_)
  ·refine az (Z2 3 (iL (Z6 [-1,5,0,2]) 4 1 fun v2=>ZQ 0 [(18,Z4 [-1,5,0,2])] (ic [1] (VW rd bs (((p+1)+1)+1) [-1,5,0,2] (ZK:=ob)) ?_)))
   rintro _ _ ⟨z1,rfl,rfl,YQ⟩
   refine Z2 1 (iL (Z6 [0,1,5]) 3 1 fun v3=>ZQ 0 [(21,Z4 [0,1,5])] (ic [1] (VW rd bs ((((p+1)+1)+1)+1) [0,1,5] (ZK:=ob)) ?_))
   rintro _ _ ⟨z2,rfl,rfl,Xa⟩
   exact Z2 1 (Zm (Wj g1 ds1.length c1 k1.toNat 3 k1) (ZQ 0 [(23,.agg [.i z1,.i z2,.sl [] none])] (DC 3 g1 ds1.length c1 3 (k1.toNat * 3) [.i z1,.i z2,.sl [] none] (Zl (X1 ds1)) (Zl (X1 (ds1.set k1.toNat (Zf.mk z1 z2 [])))) (by rw [BJ];simp only [YS,Xt];omega) (ER (Zf.mk z1 z2 []) om) (ie (ZO ⟨(ds1.set k1.toNat (Zf.mk z1 z2 [])),(⟨some ⟨g1,0,none⟩,ds1.length,c1⟩:Hd),((((p+1)+1)+1)+1)+1,(hga.set _ (by simp)),ob,rfl,rfl⟩ (wk [1,0] fl))))))
  refine ar (YC (k2==1) Zo (fun Zg=>?_) (fun Zg=>?_))
  ·refine az (Z2 3 (iL (Z6 [-1,0,4,5]) 4 1 fun v4=>ZQ 0 [(30,Z4 [-1,0,4,5])] (ic [1] (VW rd bs (((p+1)+1)+1) [-1,0,4,5] (ZK:=ob)) ?_)))
   rintro _ _ ⟨z3,rfl,rfl,XP⟩
   exact iL (Z6 [z3]) 1 1 fun v5=>ZQ 0 [(32,Z4 [z3])] (Zz [] (Q0 [z3]) (iL (Z6 [0,0,0,0]) 4 1 fun v6=>ZQ 0 [(34,Z4 [0,0,0,0])] (Zz [] (Q0 [0,0,0,0]) (iL (Z6 []) 0 1 fun v7=>ZQ 0 [(36,Z4 [])] (Zz [] (Q0 []) (iL (WQ [Yj.mk [z3],Yj.mk [0,0,0,0],Yj.mk []]) 3 1 fun v8=>Z2 1 (Zm (Wj g1 ds1.length c1 k1.toNat 3 k1) (ZQ 0 [(39,.agg [.i 0,.i 0,KO [Yj.mk [z3],Yj.mk [0,0,0,0],Yj.mk []]])] (DC 6 g1 ds1.length c1 3 (k1.toNat * 3) [.i 0,.i 0,KO [Yj.mk [z3],Yj.mk [0,0,0,0],Yj.mk []]] (Zl (X1 ds1)) (Zl (X1 (ds1.set k1.toNat (Zf.mk 0 0 [Yj.mk [z3],Yj.mk [0,0,0,0],Yj.mk []])))) (by rw [BJ];simp only [YS,Xt];omega) (ER (Zf.mk 0 0 [Yj.mk [z3],Yj.mk [0,0,0,0],Yj.mk []]) om) (ie (ZO ⟨(ds1.set k1.toNat (Zf.mk 0 0 [Yj.mk [z3],Yj.mk [0,0,0,0],Yj.mk []])),(⟨some ⟨g1,0,none⟩,ds1.length,c1⟩:Hd),(((p+1)+1)+1)+1,(hga.set _ (by simp)),ob,rfl,rfl⟩ (wk [5,0] fl))))))))))))
  refine ar (YC (k2==2) Zo (fun ZC=>?_) (fun ZC=>?_))
  ·exact az (Z2 3 (ia ((k1+1)) ((k1)+(1)) (iL (Z6 [k1+1]) 1 1 fun v9=>ZQ 0 [(47,Z4 [k1+1])] (Zz [] (Q0 [k1+1]) (iL (WQ [Yj.mk [k1+1]]) 1 1 fun v10=>Z2 1 (Zm (Wj g1 ds1.length c1 k1.toNat 3 k1) (ZQ 0 [(50,.agg [.i 0,.i 0,KO [Yj.mk [k1+1]]])] (DC 3 g1 ds1.length c1 3 (k1.toNat * 3) [.i 0,.i 0,KO [Yj.mk [k1+1]]] (Zl (X1 ds1)) (Zl (X1 (ds1.set k1.toNat (Zf.mk 0 0 [Yj.mk [(k1+1)]])))) (by rw [BJ];simp only [YS,Xt];omega) (ER (Zf.mk 0 0 [Yj.mk [(k1+1)]]) om) (ie (ZO ⟨(ds1.set k1.toNat (Zf.mk 0 0 [Yj.mk [(k1+1)]])),(⟨some ⟨g1,0,none⟩,ds1.length,c1⟩:Hd),((p+1)+1)+1,(hga.set _ (by simp)),ob,rfl,rfl⟩ (wk [3,0] fl)))))))))))
  refine ar (YC (k2==3) Zo (fun Yd=>?_) (fun Yd=>?_))
  ·refine az (Z2 2 (iL (Z6 [0,2,1]) 3 1 fun v11=>ZQ 0 [(56,Z4 [0,2,1])] (ic [1] (VW rd bs (((p+1)+1)+1) [0,2,1] (ZK:=ob)) ?_)))
   rintro _ _ ⟨z4,rfl,rfl,Wr⟩
   exact ZQ 1 [(58,.agg [.i 2,.i z4,.sl [] none])] (iL (X1 [Zf.mk 2 z4 []]) 1 3 fun v12=>ZQ 0 [(59,ZT [Zf.mk 2 z4 []])] (Fc 3 ds1.length (⟨some ⟨g1,0,none⟩,ds1.length,c1⟩:Hd) 3 (Zl (X1 ds1)) (X1 [Zf.mk 2 z4 []]) none (BJ _) (J9 _) (EF _) (by simp [X1]) (by simp<;>omega) fun v13=>Z0 (ZO ⟨(ds1++[Zf.mk 2 z4 []]),v13,(((p+1)+1)+1)+1,(hga.app (by simp;omega) (by simp)),ob,rfl,rfl⟩ (wk [2,0] fl (e:=(rc (rr (ls:=Zl (X1 ds1)++Zl (X1 [Zf.mk 2 z4 []])) (HC _ _) rz)))))))
  refine ar (YC (k2==4) Zo (fun Xf=>?_) (fun Xf=>?_))
  ·refine az (Z2 3 (ic [0] (Wb rd bs (((p+1)+1)+1) 2 (ZK:=ob)) ?_))
   rintro _ _ ⟨k3,rfl,rfl,WT⟩
   have qhp8:=WT.lt om
   refine iL (Z6 []) 0 1 fun v14=>ZQ 0 [(67,Z4 [])] (Zz [] (Q0 []) (iL (Z6 [2]) 1 1 fun v15=>ZQ 0 [(69,Z4 [2])] (Zz [] (Q0 [2]) (iL (Z6 []) 0 1 fun v16=>ZQ 0 [(71,Z4 [])] (Zz [] (Q0 []) (iL (Z6 []) 0 1 fun v17=>ZQ 0 [(73,Z4 [])] (Zz [] (Q0 []) (iL (WQ [Yj.mk [],Yj.mk [2],Yj.mk [],Yj.mk []]) 4 1 fun v18=>Z2 1 (ic [5] (Wb rd bs ((((p+1)+1)+1)+1) 3 (ZK:=ob)) ?_)))))))))
   rintro _ _ ⟨k4,rfl,rfl,Ve⟩
   have qhp9:=Ve.lt om
   exact Zm (Jg (es:=WQ [Yj.mk [],Yj.mk [2],Yj.mk [],Yj.mk []]) (hv:=some v18) (l:=k4) (m:=(((WQ [Yj.mk [],Yj.mk [2],Yj.mk [],Yj.mk []]).length:Nat):Int)) (sz:=1) (es':=WQ ([Yj.mk [],Yj.mk [2],Yj.mk [],Yj.mk []].drop k4.toNat)) kr om (by simp<;>omega) (by simp<;>omega) (Hp _) (by first|(simp only [U9,VP,Hq,Ho];done)|(simp only [U9,VP,Hq,Ho];rfl)|(simp [Hq,Ho];done))) (Z2 1 (Zm (Wj g1 ds1.length c1 k1.toNat 3 k1) (DC 6 g1 ds1.length c1 3 (k1.toNat * 3) [.i k3,.i 0,KO ([Yj.mk [],Yj.mk [2],Yj.mk [],Yj.mk []].drop k4.toNat)] (Zl (X1 ds1)) (Zl (X1 (ds1.set k1.toNat (Zf.mk k3 0 ([Yj.mk [],Yj.mk [2],Yj.mk [],Yj.mk []].drop k4.toNat))))) (by rw [BJ];simp only [YS,Xt];omega) (ER (Zf.mk k3 0 ([Yj.mk [],Yj.mk [2],Yj.mk [],Yj.mk []].drop k4.toNat)) om) (ie (ZO ⟨(ds1.set k1.toNat (Zf.mk k3 0 ([Yj.mk [],Yj.mk [2],Yj.mk [],Yj.mk []].drop k4.toNat))),(⟨some ⟨g1,0,none⟩,ds1.length,c1⟩:Hd),((((p+1)+1)+1)+1)+1,(hga.set _ ⟨by simp,fun c hc=>(by decide:∀c∈[Yj.mk [],Yj.mk [2],Yj.mk [],Yj.mk []],c.fields.length<=4) c (List.mem_of_mem_drop hc)⟩),ob,rfl,rfl⟩ (wk [1,0] fl))))))
  refine ar (YC (k2==5) Zo (fun Xb=>?_) (fun Xb=>?_))
  ·exact az (ZQ 3 [(84,.agg [.i 0,.i 0,.sl [] none]),(85,.agg [.i 3,.i 0,.sl [] none])] (iL (X1 [Zf.mk 0 0 [],Zf.mk 3 0 []]) 2 3 fun v19=>ZQ 0 [(86,ZT [Zf.mk 0 0 [],Zf.mk 3 0 []])] (Fc 2 ds1.length (⟨some ⟨g1,0,none⟩,ds1.length,c1⟩:Hd) 3 (Zl (X1 ds1)) (X1 [Zf.mk 0 0 [],Zf.mk 3 0 []]) none (BJ _) (J9 _) (EF _) (by simp [X1]) (by simp<;>omega) fun v20=>Z0 (ZO ⟨(ds1++[Zf.mk 0 0 [],Zf.mk 3 0 []]),v20,((p+1)+1)+1,(hga.app (by simp;omega) (by simp)),ob,rfl,rfl⟩ (wk [2,0] fl (e:=(rc (rr (ls:=Zl (X1 ds1)++Zl (X1 [Zf.mk 0 0 [],Zf.mk 3 0 []])) (HC _ _) rz))))))))
  exact ak (ZO ⟨ds1,(⟨some ⟨g1,0,none⟩,ds1.length,c1⟩:Hd),((p+1)+1)+1,hga,ob,rfl,rfl⟩ (wk [0,0] fl))
 rintro F h ⟨dq,vq,pq,KJ,I9,rfl,rfl⟩
 exact ZE (Z7p 2 1 (v:=vq) (X1 dq) (J9 _) (ZD (r2 [1] [JF dq vq.v] ⟨dq,pq,rfl,rfl,⟨KJ,I9⟩⟩ (Zd.forget _ _))))
theorem Zcm (ds:List Zf) (n:Nat) (hz:JR ds:=by exact ob) (hn:n<ds.length:=by exact ob):Zi 268 [ZT ds,.i n] [] (Yk (.b (BD ds n))):=by
 have hl_ds:ds.length<=4294967296:=by have:=hz.len;omega
 refine ZF 100 Tryz.func268 (ZE (Y6 2 ?_))
 obtain ⟨x1,Z3⟩:=Zr ds n om
 have hdo:=Dj Z3
 have hz1:=hz.cons_at Z3
 refine Zm (Zj none (n:Int) 3 (VJ Z3)) (Z2 1 (iA [.i 0,.i 0,nl] fun b1=>ZH 0 b1 (QK x1) (ie (Yi 2 [0] (iw (UO x1.cons) (Y1 ((x1.cons.length:Int)>0) (fun Za=>?_) (fun Za=>?_)))))))
 ·refine Yi 2 [0] (iw (UO x1.cons) (XH 9 [0,5] [(24,.b ((decide ((x1.cons.length:Int)>3))||(x1.frm != 0)))] (fun gz=>gz) ?_ (fun hj1=>?_)))
  ·refine Xo [0,5] [(29,.b (((decide ((x1.cons.length:Int)>3))||(x1.frm != 0))||(x1.to_ != 0)))] (fun gz=>gz) ?_ ?_
   ·refine Z2 1 (ib (b:=((decide ((x1.cons.length:Int)>3))||(x1.frm != 0))) 25 (fun Zb=>?_) (fun Zb=>?_))
    ·have ZX:((x1.cons.length:Int)>3)∨(x1.frm≠0):=((Yx dq Yn)).1 Zb
     exact Z0 (wk [0] (Zs true Zb fl))
    have Yh:¬(((x1.cons.length:Int)>3)∨(x1.frm≠0)):=Yc (Yx dq Yn) Zb
    exact VF [0] (wk [0] (Zs (x1.to_ != 0) Zb fl))
   refine ac (((decide ((x1.cons.length:Int)>3))||(x1.frm != 0))||(x1.to_ != 0)) (p:=(((x1.cons.length:Int)>3)∨(x1.frm≠0))∨(x1.to_≠0)) (Yx (Yx dq Yn) Yn) (fun Zg=>?_) (fun Zg=>?_)
   ·exact ar (Zq (ZY (.b false) (lb (by clear Z3;first|rfl|omega|grind [UA]))))
   refine ak (Yb (ab 0 (Y3 (fun fz gz m F h=>∃(k:Nat),(k<=x1.cons.length)/\(TB ds.length (x1.cons.drop k)=TB ds.length x1.cons)/\F=sF [0,5] fz [(6,.i k)]/\h=gz/\m=x1.cons.length-k) _ _ _ ⟨0,ob,ob,rfl,rfl,rfl⟩ (wk [0] (Y9 fl)) ?_)))
   rintro m F h ⟨k,Yf,Zh,rfl,rfl,rfl⟩
   refine Yi 3 [0] (iw (UO x1.cons) (Y1 ((k:Int)<(x1.cons.length:Int)) (fun ZC=>?_) (fun ZC=>?_)))
   ·refine ak (aq (ab 1 (Zv 3 [0] ?_)))
    obtain ⟨x2,Zu⟩:=Zr x1.cons k om
    refine Zm (Zj none (k:Int) 1 (Cg Zu)) (Z2 2 (iw (Y8 x2.fields) (Xo [0,5,6] [(55,.b ((decide ((x2.fields.length:Int)>3))||(!We ds.length x2.fields)))] (fun gz=>gz) ?_ ?_)))
    ·refine Z2 2 (ib (b:=(decide ((x2.fields.length:Int)>3))) 45 (fun ZB=>?_) (fun ZB=>?_))
     ·have YH:(x2.fields.length:Int)>3:=(dq).1 ZB
      exact Z0 (wk [0] (Zs true ZB fl))
     have YQ:¬((x2.fields.length:Int)>3):=Yc dq ZB
     exact ZM 4 [0] (Zm (Zj none (k:Int) 1 (Cg Zu)) (Z2 2 (Zz [] (Rb ds x2.fields) (Z0 (wk [0] (Zs (!We ds.length x2.fields) ZB fl))))))
    refine ac ((decide ((x2.fields.length:Int)>3))||(!We ds.length x2.fields)) (p:=((x2.fields.length:Int)>3)∨(¬(We ds.length x2.fields=true))) (Yx dq (YD Iff.rfl)) (fun Yd=>?_) (fun Yd=>?_)
    ·refine ZE ?_
     rw [Y5 Zu] at Zh
     exact ZD (ZY (.b false) (lb (by clear Z3 Zu;first|rfl|omega|grind [TB,J7,UA])))
    refine ak (az (Z2 1 (ZJ k (Z0 ?_))))
    have hdr:=Y5 Zu
    exact ZL ⟨k+1,ob,(by rw [hdr] at Zh;clear hdr Z3 Zu;grind [TB,J7]),rfl,rfl,rfl⟩ (wk [0] (ZP k fl))
   refine ax 0 (ZE ?_)
   try rw [Xe (xs:=x1.cons) (k:=k) om] at Zh
   exact ZD (ZY (.b true) (lb (by clear Z3;first|rfl|omega|grind [TB,J7,UA])))
  refine Z2 2 (ib (b:=(decide ((x1.cons.length:Int)>3))) 20 (fun Yz=>?_) (fun Yz=>?_))
  ·have Xa:(x1.cons.length:Int)>3:=(dq).1 Yz
   exact Z2 4 (Yu (wk [0] (Zs true Yz fl)) hj1)
  have XP:¬((x1.cons.length:Int)>3):=Yc dq Yz
  exact ZM 4 [0] (Yu (wk [0] (Zs (x1.frm != 0) Yz fl)) hj1)
 refine ak (Yb (ab 2 (Y3 (fun fz gz m F h=>∃(j:Nat),(j<=n)/\(QB x1 ((ds.take n).drop j)=QB x1 (ds.take n))/\F=sF [0,1,5] fz [(7,.i j)]/\h=gz/\m=n-j) _ _ _ ⟨0,ob,ob,rfl,rfl,rfl⟩ (wk [0] (Y9 fl)) ?_)))
 rintro m F h ⟨j,Um,XV,rfl,rfl,rfl⟩
 refine X2 (Y1 ((j:Int)<(n:Int)) (fun Xf=>?_) (fun Xf=>?_))
 ·refine ak (aq (ab 3 (aD 27 (Zk 25 27 [0,1] ?_))))
  obtain ⟨x3,YN⟩:=Zr ds j om
  refine dx 2 (Zj none (j:Int) 3 (VJ YN)) (Zk 22 24 [3,4] (dw 5 (UO x3.cons) (JX [0,1,5,7] [(87,.b (((x3.cons.length:Int)==0)&&((x3.frm==x1.frm)&&(x3.to_==x1.to_))))] (fun gz=>gz) ?_ ?_)))
  ·refine Zk 19 21 [6,7] (db (b:=((x3.cons.length:Int)==0)) 68 (fun Xv=>?_) (fun Xv=>?_))
   ·have Wr:(x3.cons.length:Int)=0:=(Zo).1 Xv
    refine Zk 17 19 [8,9] (dx 10 (Zj none (j:Int) 3 (VJ YN)) (ZI 9 16 [11,12,13,14,15,16,17] [0] (db (b:=(x3.frm==x1.frm)) 78 (fun Wu=>?_) (fun Wu=>?_))))
    ·have WT:x3.frm=x1.frm:=(Zo).1 Wu
     exact Zk 7 9 [18,19] (dx 20 (Zj none (j:Int) 3 (VJ YN)) (ZI 0 6 [21,22,23,24,25,26] [0] (de (wk [0] (Zs (x3.to_==x1.to_) (And.intro Xv Wu) fl)))))
    have Ve:¬(x3.frm=x1.frm):=Yc Zo Wu
    exact Zk 0 9 [18,19,20,21,22,23,24,25,26] (de (wk [0] (Zs false (And.intro Xv Wu) fl)))
   have UD:¬((x3.cons.length:Int)=0):=Yc Zo Xv
   exact Zk 0 19 [8,9,10,11,12,13,14,15,16,17,18,19,20,21,22,23,24,25,26] (de (wk [0] (Zs false Xv fl)))
  refine ac (((x3.cons.length:Int)==0)&&((x3.frm==x1.frm)&&(x3.to_==x1.to_))) (p:=((x3.cons.length:Int)=0)/\((x3.frm=x1.frm)/\(x3.to_=x1.to_))) (YB Zo (YB Zo Zo)) (fun Xb=>?_) (fun Xb=>?_)
  ·refine ZE ?_
   rw [Y5 (show (ds.take n)[j]? = some x3 by rw [TG,Ze om];exact YN),QB,Ze om] at XV
   exact ZD (ZY (.b false) (lb (by clear Z3 YN;first|rfl|omega|grind [UA])))
  refine ak (az (Z2 1 (ZJ j (hb:=(by have:=hz.len;omega)) (Z0 ?_))))
  have hdr:=Y5 YN
  exact ZL ⟨j+1,ob,(by rw [Y5 (show (ds.take n)[j]? = some x3 by rw [TG,Ze om];exact YN),QB,Z7 om] at XV;exact XV),rfl,rfl,rfl⟩ (wk [0] (ZP j fl))
 refine ax 2 (Zv 3 [0] (iw (Uo ds) (Zz [] (Ti x1.frm 0 (ds.length:Int)) (XH 12 [] [(99,.b ((decide (0<=x1.frm/\x1.frm<=(ds.length:Int)))&&(decide (0<=x1.to_/\x1.to_<=(ds.length:Int)))))] (fun gz=>gz) ?_ (fun hj2=>?_)))))
 ·refine Z0 ?_
  rw [Xe (show (ds.take n).length<=j by rw [WB];omega),QB] at XV
  exact ZD (ZY (.b ((decide (0<=x1.frm/\x1.frm<=(ds.length:Int)))&&(decide (0<=x1.to_/\x1.to_<=(ds.length:Int))))) (lb (by clear Z3;first|rfl|omega|grind [UA])))
 refine Z2 1 (ib (b:=(decide (0<=x1.frm/\x1.frm<=(ds.length:Int)))) 93 (fun V1=>?_) (fun V1=>?_))
 ·have Td:0<=x1.frm/\x1.frm<=(ds.length:Int):=(dq).1 V1
  exact ZM 3 [0] (iw (Uo ds) (Zz [] (Ti x1.to_ 0 (ds.length:Int)) (Z2 1 (Yu (wk [0] (Zs (decide (0<=x1.to_/\x1.to_<=(ds.length:Int))) V1 fl)) hj2))))
 have US:¬(0<=x1.frm/\x1.frm<=(ds.length:Int)):=Yc dq V1
 exact Z2 6 (Yu (wk [0] (Zs false V1 fl)) hj2)
theorem Zcr (ds:List Zf) (hz:JR ds:=by exact ob):Zi 222 [ZT ds] [] (Yk (.b (WO ds))):=by
 have hzl:=hz.len
 refine ZF 17 Tryz.func222 (ZE (YM 1 (iw (Uo ds) (Y1 ((ds.length:Int)>4) (fun Za=>?_) (fun Za=>?_)))))
 ·exact ar (Zq (ZY (.b false) (lb (by first|rfl|omega|grind [WO]))))
 refine ak (Yb (ab 0 (Y3 (fun fz gz m F h=>∃(k:Nat),(k<=ds.length)/\(T6 ds (ds.drop k) k=T6 ds ds 0)/\F=sF [0] fz [(3,.i k)]/\h=gz/\m=ds.length-k) _ _ _ ⟨0,ob,ob,rfl,rfl,rfl⟩ (wk [] (Y9 fl)) ?_)))
 rintro m F h ⟨k,Yf,Zh,rfl,rfl,rfl⟩
 refine YM 2 (iw (Uo ds) (Y1 ((k:Int)<(ds.length:Int)) (fun Zg=>?_) (fun Zg=>?_)))
 ·refine ak (aq (ab 1 (Y6 2 (Zz [] (Zcm ds k) (YC (!BD ds k) (p:=¬(BD ds k=true)) (YD Iff.rfl) (fun ZC=>?_) (fun ZC=>?_))))))
  ·refine ZE ?_
   try rw [Xe (xs:=ds) (k:=k) om] at Zh
   obtain ⟨x1,Z3⟩:=Zr ds k om
   rw [Y5 Z3] at Zh
   exact ZD (ZY (.b false) (lb (by first|rfl|omega|grind [T6,WO])))
  refine ak (az (Z2 1 (ZJ k (Z0 ?_))))
  obtain ⟨x1,Z3⟩:=Zr ds k om
  have hdr:=Y5 Z3
  exact ZL ⟨k+1,ob,(by rw [hdr] at Zh;clear hdr ;grind [T6]),rfl,rfl,rfl⟩ (wk [] (ZP k fl))
 refine ax 0 (ZE ?_)
 try rw [Xe (xs:=ds) (k:=k) om] at Zh
 exact ZD (ZY (.b true) (lb (by first|rfl|omega|grind [T6,WO])))
theorem Zce (n:Zp) (hz:n.routines.length<=4194304:=by exact ob):Zi 171 [Yl n] [] (Yk (.agg [ZT n.decls,.sl (Ud (n.routines.map Ut)) none])):=by
 refine ZF 35 Tryz.func171 (ar (iA (YR n) fun b1=>iA [nl,nl] fun b2=>ie (Zv 2 [1] (iL (Ud []) 0 5 fun v1=>Z2 1 (iA [nl,nl] fun b3=>?_)))))
 refine ZH 0 b3 [ZT n.decls,.sl (Ud []) (some v1)] (ie (Yb (ab 0 (Y3 (fun fz gz m F h=>∃(k:Nat) (v:Value),(k<=n.routines.length)/\F=sF [1,2,3] fz [(4,.i k)]/\h=[.obj b3 [ZT n.decls,.sl (Ud ((n.routines.take k).map Ut)) (some v)],Zc gz 2,Zc gz 3,.tail v 5]/\m=n.routines.length-k) _ _ _ ⟨0,v1,ob,rfl,rfl,rfl⟩ (wk [0,1,1,0] (Y9 fl)) ?_))))
 rintro m F h ⟨k,v,Yf,rfl,rfl,rfl⟩
 refine Yi 3 [2] (iw (Uc n.routines) (Y1 ((k:Int)<(n.routines.length:Int)) (fun Za=>?_) (fun Za=>?_)))
 ·refine ak (aq (ab 1 (aE 19 (ZI 14 19 [0,1,2,3,4] [0,2] ?_))))
  obtain ⟨x1,Z3⟩:=Zr n.routines k om
  refine dx 5 (Zj none (k:Int) 5 (WR Z3)) (ZI 8 13 [6,7,8,9,10] [2] (dx 11 (Zj none (k:Int) 5 (WR Z3)) (Yt 4 7 [12,13,14] [(30,.agg [Z4 x1.params,.i x1.result,.i 0,.i 0,.sl [] none])] (Z9 15 (dL 15 [0] [b3] (Ud [Sg.mk x1.params x1.result]) 1 5 fun v2=>Yt 3 3 [] [(31,.sl (Ud [Sg.mk x1.params x1.result]) none)] (Z9 16 (dp 16 4 [] [] (Ud ((n.routines.take (k+1)).map Ut)) (Ud ((n.routines.take k).map Ut)) (Ud [Sg.mk x1.params x1.result]) v none 5 (MW _) (MW _) (Z2y _) (by simp<;>omega) (by rw [V4 Z3];simp [Ud,Ut]) fun v3=>Zk 1 2 [17] (Z9 18 (YI 18 2 [] [] b3 [ZT n.decls,.sl (Ud ((n.routines.take (k+1)).map Ut)) (some v3)] (de (az (Z2 1 (ZJ k (Z0 ?_))))))))))))))
  have hdr:=Y5 Z3
  exact ZL ⟨k+1,v3,ob,rfl,rfl,rfl⟩ (wk [0,2,2,0] (ZP k fl))
 exact ax 0 (Zv 1 [0] (ZH 1 b2 [ZT n.decls,.sl (Ud ((n.routines.take k).map Ut)) (some v)] (ie (ZD (r3 [] [.agg [ZT n.decls,.sl (Ud ((n.routines.take k).map Ut)) (some v)]] [0] [(b2,b2)] ⟨rfl,rfl⟩ (Zd.agg (.cons (lr _) (.cons (Zd.sl _ (Ym Ud (by rw [show k=n.routines.length by omega,VP]))) .nil))))))))
theorem Zcq (ds:List Zf) (fs:List Sg) (hz:JR ds:=by exact ob) (hf:∀f∈fs,f.params.length<=4194304):Zi 170 [.agg [ZT ds,.sl (Ud fs) none]] [] (Yk (.b (QY ds fs))):=by
 have hzl:=hz.len
 refine ZF 64 Tryz.func170 (ar (iA [ZT ds,.sl (Ud fs) none] fun b1=>Z0 (Yi 2 [0] (Zz [] (Zcr ds) (Xo [1] [(15,.b ((!WO ds)||(!(decide (1<=(fs.length:Int)/\(fs.length:Int)<=4)))))] (fun gz=>gz) ?_ ?_)))))
 ·refine Z2 2 (ib (b:=(!WO ds)) 9 (fun Zb=>?_) (fun Zb=>?_))
  ·have ZX:¬(WO ds=true):=((YD Iff.rfl)).1 Zb
   exact Z0 (wk [0] (Zs true Zb fl))
  have Yh:¬(¬(WO ds=true)):=Yc (YD Iff.rfl) Zb
  exact ZM 2 [0] (iw (MX fs) (Zz [] (Ti (fs.length:Int) 1 4) (Z0 (wk [0] (Zs (!(decide (1<=(fs.length:Int)/\(fs.length:Int)<=4))) Zb fl)))))
 refine ac ((!WO ds)||(!(decide (1<=(fs.length:Int)/\(fs.length:Int)<=4)))) (p:=(¬(WO ds=true))∨(¬(1<=(fs.length:Int)/\(fs.length:Int)<=4))) (Yx (YD Iff.rfl) (YD dq)) (fun Za=>?_) (fun Za=>?_)
 ·exact ar (Zq (ZY (.b false) (lb (by first|rfl|omega|grind [QY]))))
 refine ak (Yb (ab 0 (Y3 (fun fz gz m F h=>∃(k:Nat),(k<=fs.length)/\(KQ ds.length (fs.drop k)=KQ ds.length fs)/\F=sF [1] fz [(3,.i k)]/\h=gz/\m=fs.length-k) _ _ _ ⟨0,ob,ob,rfl,rfl,rfl⟩ (wk [0] (Y9 fl)) ?_)))
 rintro m F h ⟨k,Yf,Zh,rfl,rfl,rfl⟩
 refine Yi 3 [0] (iw (MX fs) (Y1 ((k:Int)<(fs.length:Int)) (fun Zg=>?_) (fun Zg=>?_)))
 ·refine ak (aq (ab 1 (Zv 3 [0] ?_)))
  obtain ⟨x1,Z3⟩:=Zr fs k om
  refine Zm (Zj none (k:Int) 5 (Hv Z3)) (Z2 1 (iA [nl,.i 0,.i 0,.i 0,nl] fun b2=>ZH 0 b2 [Z4 x1.params,.i x1.result,.i 0,.i 0,.sl [] none] (ie (Zv 2 [0] (iw (Y8 x1.params) (XH 12 [1,3,4] [(39,.b ((decide ((x1.params.length:Int)>3))||(!We ds.length x1.params)))] (fun gz=>gz) ?_ (fun hj1=>?_)))))))
  ·refine Xo [1,3] [(48,.b (((decide ((x1.params.length:Int)>3))||(!We ds.length x1.params))||(!(decide (0<=x1.result/\x1.result<=(ds.length:Int))))))] (fun gz=>gz) ?_ ?_
   ·refine Z2 1 (ib (b:=((decide ((x1.params.length:Int)>3))||(!We ds.length x1.params))) 40 (fun ZB=>?_) (fun ZB=>?_))
    ·have YH:((x1.params.length:Int)>3)∨(¬(We ds.length x1.params=true)):=((Yx dq (YD Iff.rfl))).1 ZB
     exact Z0 (wk [0,0] (Zs true ZB fl))
    have YQ:¬(((x1.params.length:Int)>3)∨(¬(We ds.length x1.params=true))):=Yc (Yx dq (YD Iff.rfl)) ZB
    exact ZM 4 [0,1] (iw (Uo ds) (Zz [] (Ti x1.result 0 (ds.length:Int)) (Z0 (wk [0,0] (Zs (!(decide (0<=x1.result/\x1.result<=(ds.length:Int)))) ZB fl)))))
   refine ac (((decide ((x1.params.length:Int)>3))||(!We ds.length x1.params))||(!(decide (0<=x1.result/\x1.result<=(ds.length:Int))))) (p:=(((x1.params.length:Int)>3)∨(¬(We ds.length x1.params=true)))∨(¬(0<=x1.result/\x1.result<=(ds.length:Int)))) (Yx (Yx dq (YD Iff.rfl)) (YD dq)) (fun ZC=>?_) (fun ZC=>?_)
   ·refine ZE ?_
    rw [Y5 Z3] at Zh
    exact ZD (ZY (.b false) (lb (by clear Z3;first|rfl|omega|grind [KQ,KP,QY])))
   refine ak (az (Z2 1 (ZJ k (Z0 ?_))))
   have hdr:=Y5 Z3
   exact ZL ⟨k+1,ob,(by rw [hdr] at Zh;clear hdr Z3;grind [KQ,KP]),rfl,rfl,rfl⟩ (wk [1] (ZP k fl))
  refine Z2 2 (ib (b:=(decide ((x1.params.length:Int)>3))) 32 (fun Yz=>?_) (fun Yz=>?_))
  ·have Xa:(x1.params.length:Int)>3:=(dq).1 Yz
   exact Z2 7 (Yu (wk [0,0] (Zs true Yz fl)) hj1)
  have XP:¬((x1.params.length:Int)>3):=Yc dq Yz
  exact ZM 4 [1,0] (Zz [] (Rb ds x1.params) (Z2 2 (Yu (wk [0,0] (Zs (!We ds.length x1.params) Yz fl)) hj1)))
 refine ax 0 (Zv 2 [0] ?_)
 obtain ⟨x2,Zu⟩:=Zr fs 0 om
 have hfo:=Z3d Zu
 refine Zm (Zj none 0 5 (Hv Zu)) (Z2 2 (iw (Y8 x2.params) (XH 15 [] [(63,.b (((x2.params.length:Int)==0)&&(x2.result==0)))] (fun gz=>gz) ?_ (fun hj2=>?_))))
 ·refine Z0 ?_
  try rw [Xe (xs:=fs) (k:=k) om] at Zh
  exact ZD (ZY (.b (((x2.params.length:Int)==0)&&(x2.result==0))) (lb (by clear Zu;first|rfl|omega|grind [KQ,KP,QY])))
 refine Z2 2 (ib (b:=((x2.params.length:Int)==0)) 56 (fun Xv=>?_) (fun Xv=>?_))
 ·have Wr:(x2.params.length:Int)=0:=(Zo).1 Xv
  exact ZM 2 [0] (Zm (Zj none 0 5 (Hv Zu)) (Z2 4 (Yu (wk [0] (Zs (x2.result==0) Xv fl)) hj2)))
 have WT:¬((x2.params.length:Int)=0):=Yc Zo Xv
 exact Z2 7 (Yu (wk [0] (Zs false Xv fl)) hj2)
theorem Zco (ps:LI) (ls:LI) (hl_ps:ps.length<=4294967296:=by exact ob) (hl_ls:ls.length<=4294967296:=by exact ob):Zi 172 [Z4 ps,Z4 ls] [] (Yk (.b (KY ps ls))):=by
 refine ZF 47 Tryz.func172 (ZE (Yb (ab 0 (Y3 (fun fz gz m F h=>∃(k:Nat),(k<=ls.length)/\(Qk ps (ls.drop k) (if k=0 then none else ls[k-1]?)=KY ps ls)/\F=sF [0,1] fz [(5,.i k)]/\h=gz/\m=ls.length-k) _ _ _ ⟨0,ob,ob,rfl,rfl,rfl⟩ (wk [] (Y9 fl)) ?_))))
 rintro m F h ⟨k,Yf,Zh,rfl,rfl,rfl⟩
 refine YM 2 (iw (Y8 ls) (Y1 ((k:Int)<(ls.length:Int)) (fun Za=>?_) (fun Za=>?_)))
 ·refine ak (aq (ab 1 (aD 35 (Zk 33 35 [0,1] ?_))))
  obtain ⟨x1,Z3⟩:=Zr ls k om
  refine dx 2 (Zj none (k:Int) 1 (Y0 Z3)) (Zk 30 32 [3,4] (dw 5 (Y8 ps) (da 6 (((ps.length:Int)-1)) (((ps.length:Int))-(1)) (Z9 7 (Yo 7 [] [] [] (Ti x1 0 ((ps.length:Int)-1)) (Zk 25 27 [8,9] (db (b:=(!(decide (0<=x1/\x1<=((ps.length:Int)-1))))) 21 (fun Zb=>?_) (fun Zb=>?_))))))))
  ·have ZX:¬(0<=x1/\x1<=((ps.length:Int)-1)):=((YD dq)).1 Zb
   refine Zk 0 25 [10,11,12,13,14,15,16,17,18,19,20,21,22,23,24,25,26,27,28,29,30,31,32,33,34] (de (W9 (ZE ?_)))
   rw [Y5 Z3] at Zh
   exact ZD (ZY (.b false) (lb (by have hq:=Fu (ps:=ps) (v:=x1) (r:=ls.drop (k+1)) (prev:=if k=0 then none else ls[k-1]?);rw [<-Zh,hq];rintro ⟨q1,q2,q3⟩;first|omega|(rw [hps] at q2;exact q2 (Ym some om))|(have:=q3 _ (by rw [Z7 om,hls]);omega))))
  have Yh:¬(¬(0<=x1/\x1<=((ps.length:Int)-1))):=Yc (YD dq) Zb
  refine Zk 22 25 [10,11,12] (dx 13 (Zj none (k:Int) 1 (Y0 Z3)) (Zk 20 21 [14] ?_))
  obtain ⟨x2,Zu⟩:=Zr ps x1.toNat om
  have hps:=Zu
  refine dx 15 (Zj none x1 1 (Y0 Zu)) (Zk 15 19 [16,17,18,19] (db (b:=(x2==0)) 31 (fun ZB=>?_) (fun ZB=>?_)))
  ·have YH:x2=0:=(Zo).1 ZB
   refine Zk 0 15 [20,21,22,23,24,25,26,27,28,29,30,31,32,33,34] (de (W9 (ZE ?_)))
   rw [Y5 Z3] at Zh
   exact ZD (ZY (.b false) (lb (by have hq:=Fu (ps:=ps) (v:=x1) (r:=ls.drop (k+1)) (prev:=if k=0 then none else ls[k-1]?);rw [<-Zh,hq];rintro ⟨q1,q2,q3⟩;first|omega|(rw [hps] at q2;exact q2 (Ym some om))|(have:=q3 _ (by rw [Z7 om,hls]);omega))))
  have YQ:¬(x2=0):=Yc Zo ZB
  refine Zk 12 15 [20,21,22] (db (b:=(decide ((k:Int)>0))) 34 (fun Yz=>?_) (fun Yz=>?_))
  ·have Xa:(k:Int)>0:=(dq).1 Yz
   refine Zk 10 12 [23,24] (dx 25 (Zj none (k:Int) 1 (Y0 Z3)) (Zk 6 9 [26,27,28] (da 29 (((k-1:Nat):Int)) (((k:Int))-(1)) ?_)))
   obtain ⟨x3,YN⟩:=Zr ls (k-1) om
   have hls:=YN
   refine dx 30 (Zj none ((k-1:Nat):Int) 1 (Y0 YN)) (Zk 0 4 [31,32,33,34] (de (XX (x1<=x3) (fun Zg=>?_) (fun Zg=>?_))))
   ·refine ZE ?_
    rw [Y5 Z3] at Zh
    exact ZD (ZY (.b false) (lb (by have hq:=Fu (ps:=ps) (v:=x1) (r:=ls.drop (k+1)) (prev:=if k=0 then none else ls[k-1]?);rw [<-Zh,hq];rintro ⟨q1,q2,q3⟩;first|omega|(rw [hps] at q2;exact q2 (Ym some om))|(have:=q3 _ (by rw [Z7 om,hls]);omega))))
   refine ak (az (Z2 1 (ZJ k (Z0 ?_))))
   have hl1:ls[k+1-1]? = some x1:=Z3
   have hlc:(0<=x1/\x1<=(ps.length:Int)-1)/\ps[x1.toNat]?≠some 0/\(∀p,(if k=0 then none else ls[k-1]?)=some p->p<x1):=⟨by omega,by rw [hps];intro q;cases q;omega,fun p hp=>by first|(rw [Z7 om,hls] at hp;cases hp;omega)|(rw [Ze om] at hp;cases hp)⟩
   have hdr:=Y5 Z3
   exact ZL ⟨k+1,ob,(by have hq:=Ip (r:=ls.drop (k+1)) hlc;rw [hdr,hq] at Zh;rw [Z7 om,hl1];exact Zh),rfl,rfl,rfl⟩ (wk [] (ZP k fl))
  have XP:¬((k:Int)>0):=Yc dq Yz
  refine Zk 0 12 [23,24,25,26,27,28,29,30,31,32,33,34] (de (Wn (ak (az (Z2 1 (ZJ k (Z0 ?_)))))))
  have hl1:ls[k+1-1]? = some x1:=Z3
  have hlc:(0<=x1/\x1<=(ps.length:Int)-1)/\ps[x1.toNat]?≠some 0/\(∀p,(if k=0 then none else ls[k-1]?)=some p->p<x1):=⟨by omega,by rw [hps];intro q;cases q;omega,fun p hp=>by first|(rw [Z7 om,hls] at hp;cases hp;omega)|(rw [Ze om] at hp;cases hp)⟩
  have hdr:=Y5 Z3
  exact ZL ⟨k+1,ob,(by have hq:=Ip (r:=ls.drop (k+1)) hlc;rw [hdr,hq] at Zh;rw [Z7 om,hl1];exact Zh),rfl,rfl,rfl⟩ (wk [] (ZP k fl))
 refine ax 0 (ZE ?_)
 try rw [Xe (xs:=ls) (k:=k) om] at Zh
 exact ZD (ZY (.b true) (lb (by first|rfl|omega|grind [Qk])))
theorem Zcp (n:Zp) (hz:JR n.decls:=by exact ob) (hr:∀r∈n.routines,r.params.length<=4194304/\r.lent.length<=4194304):Zi 127 [Yl n] [] (Yk (.b (VL n))):=by
 have hzl:=hz.len
 refine ZF 35 Tryz.func127 (ar (iA (YR n) fun b1=>Z0 (Yi 2 [0] (iw (Uc n.routines) (Xo [1] [(13,.b ((decide ((n.routines.length:Int)>4))||(!QY n.decls (n.routines.map Ut))))] (fun gz=>gz) ?_ ?_)))))
 ·refine Z2 2 (ib (b:=(decide ((n.routines.length:Int)>4))) 8 (fun Zb=>?_) (fun Zb=>?_))
  ·have ZX:(n.routines.length:Int)>4:=(dq).1 Zb
   exact Z0 (wk [0] (Zs true Zb fl))
  have Yh:¬((n.routines.length:Int)>4):=Yc dq Zb
  exact ZM 1 [0] (Zz [] (Zce n) (Zz [] (Zcq n.decls (n.routines.map Ut) (hf:=(by intro f hf;obtain ⟨r,h1,rfl⟩:=W8.1 hf;exact (hr r h1).1))) (Z0 (wk [0] (Zs (!QY n.decls (n.routines.map Ut)) Zb fl)))))
 refine ac ((decide ((n.routines.length:Int)>4))||(!QY n.decls (n.routines.map Ut))) (p:=((n.routines.length:Int)>4)∨(¬(QY n.decls (n.routines.map Ut)=true))) (Yx dq (YD Iff.rfl)) (fun Za=>?_) (fun Za=>?_)
 ·exact ar (Zq (ZY (.b false) (lb (by first|rfl|omega|grind [VL]))))
 refine ak (Yb (ab 0 (Y3 (fun fz gz m F h=>∃(k:Nat),(k<=n.routines.length)/\(KL (n.routines.drop k)=KL n.routines)/\F=sF [1] fz [(3,.i k)]/\h=gz/\m=n.routines.length-k) _ _ _ ⟨0,ob,ob,rfl,rfl,rfl⟩ (wk [0] (Y9 fl)) ?_)))
 rintro m F h ⟨k,Yf,Zh,rfl,rfl,rfl⟩
 refine Yi 3 [0] (iw (Uc n.routines) (Y1 ((k:Int)<(n.routines.length:Int)) (fun Zg=>?_) (fun Zg=>?_)))
 ·refine ak (aq (ab 1 (aD 14 (ZI 11 14 [0,1,2] [0] ?_))))
  obtain ⟨x1,Z3⟩:=Zr n.routines k om
  refine dx 3 (Zj none (k:Int) 5 (WR Z3)) (ZI 5 10 [4,5,6,7,8] [0] (dx 9 (Zj none (k:Int) 5 (WR Z3)) (Zk 2 4 [10,11] (Z9 12 (Yo 12 [] [] [] (Zco x1.params x1.lent (hl_ps:=(by have:=hr _ (Y4 Z3);omega)) (hl_ls:=(by have:=hr _ (Y4 Z3);omega))) (Zk 0 1 [13] (de (ac (!KY x1.params x1.lent) (p:=¬(KY x1.params x1.lent=true)) (YD Iff.rfl) (fun ZC=>?_) (fun ZC=>?_)))))))))
  ·refine ZE ?_
   rw [Y5 Z3] at Zh
   exact ZD (ZY (.b false) (lb (by clear Z3;first|rfl|omega|grind [KL,VL])))
  refine ak (az (Z2 1 (ZJ k (Z0 ?_))))
  have hdr:=Y5 Z3
  exact ZL ⟨k+1,ob,(by rw [hdr] at Zh;clear hdr Z3;grind [KL]),rfl,rfl,rfl⟩ (wk [0] (ZP k fl))
 refine ax 0 (ZE ?_)
 try rw [Xe (xs:=n.routines) (k:=k) om] at Zh
 exact ZD (ZY (.b true) (lb (by first|rfl|omega|grind [KL,VL])))
theorem KR (op:Int) :Zi 169 [.i op] [] (Yk (.b (XL op))):=by
 exact ZF 5 Tryz.func169 (ZE (Y6 1 (Zz [] (Ti op 0 11) (Zq (ZY (.b (decide (0<=op/\op<=11))) (lb (by first|rfl|omega|grind [XL])))))))
theorem Zc4 (op:Int) :Zi 210 [.i op] [] (Yk (.b (VC op))):=by
 refine ZF 21 Tryz.func210 (ZE (ar (XH 6 [0] [(8,.b ((op==0)||(op==6)))] (fun gz=>gz) ?_ (fun hj1=>?_))))
 ·refine XH 10 [0] [(12,.b (((op==0)||(op==6))||(op==8)))] (fun gz=>gz) ?_ (fun hj2=>?_)
  ·refine XH 14 [0] [(16,.b ((((op==0)||(op==6))||(op==8))||(op==9)))] (fun gz=>gz) ?_ (fun hj3=>?_)
   ·refine XH 18 [] [(20,.b (((((op==0)||(op==6))||(op==8))||(op==9))||(op==10)))] (fun gz=>gz) ?_ (fun hj4=>?_)
    ·exact Zq (ZY (.b (((((op==0)||(op==6))||(op==8))||(op==9))||(op==10))) (lb (by rw [VC];simp only [Bool.or_assoc])))
    refine Z2 1 (ib (b:=((((op==0)||(op==6))||(op==8))||(op==9))) 17 (fun Zb=>?_) (fun Zb=>?_))
    ·exact Z2 3 (Yu (wk [] (Zs true Zb fl)) hj4)
    exact Z2 3 (Yu (wk [] (Zs (op==10) Zb fl)) hj4)
   refine Z2 1 (ib (b:=(((op==0)||(op==6))||(op==8))) 13 (fun ZB=>?_) (fun ZB=>?_))
   ·exact Z2 3 (Yu (wk [] (Zs true ZB fl)) hj3)
   exact Z2 3 (Yu (wk [] (Zs (op==9) ZB fl)) hj3)
  refine Z2 1 (ib (b:=((op==0)||(op==6))) 9 (fun Yz=>?_) (fun Yz=>?_))
  ·exact Z2 3 (Yu (wk [] (Zs true Yz fl)) hj2)
  exact Z2 3 (Yu (wk [] (Zs (op==8) Yz fl)) hj2)
 refine Z2 3 (ib (b:=(op==0)) 5 (fun Xv=>?_) (fun Xv=>?_))
 ·exact Z2 3 (Yu (wk [] (Zs true Xv fl)) hj1)
 exact Z2 3 (Yu (wk [] (Zs (op==6) Xv fl)) hj1)
theorem Bc (us:LI) (args:LI) (tys:LI) (hl_us:us.length<=4294967296:=by exact ob) (hl_args:args.length<=4294967296:=by exact ob) (hl_tys:tys.length<=4294967296:=by exact ob):Zi 212 [Z4 us,Z4 args,Z4 tys] [] (Yk (.b (W7 us args tys))):=by
 refine ZF 42 Tryz.func212 (ZE (YM 1 (iw (Y8 args) (Z2 1 (iw (Y8 tys) (YC ((args.length:Int) != (tys.length:Int)) Yn (fun Za=>?_) (fun Za=>?_)))))))
 ·exact ar (Zq (ZY (.b false) (lb (RT om).symm)))
 refine ak (Yb (ab 0 (Y3 (fun fz gz m F h=>∃(k:Nat),(k<=args.length)/\(UX us (args.drop k) (tys.drop k)=W7 us args tys)/\F=sF [0,1,2] fz [(7,.i k)]/\h=gz/\m=args.length-k) _ _ _ ⟨0,ob,ob,rfl,rfl,rfl⟩ (wk [] (Y9 fl)) ?_)))
 rintro m F h ⟨k,Yf,Zh,rfl,rfl,rfl⟩
 refine YM 2 (iw (Y8 args) (Y1 ((k:Int)<(args.length:Int)) (fun Zg=>?_) (fun Zg=>?_)))
 ·refine ak (aq (ab 1 (aD 23 (Zk 21 23 [0,1] ?_))))
  obtain ⟨x1,Z3⟩:=Zr args k om
  refine dx 2 (Zj none (k:Int) 1 (Y0 Z3)) (Zk 18 20 [3,4] (dw 5 (Y8 us) (da 6 (((us.length:Int)-1)) (((us.length:Int))-(1)) (Z9 7 (Yo 7 [] [] [] (Ti x1 0 ((us.length:Int)-1)) (Zk 13 15 [8,9] (db (b:=(!(decide (0<=x1/\x1<=((us.length:Int)-1))))) 28 (fun Zb=>?_) (fun Zb=>?_))))))))
  ·have ZX:¬(0<=x1/\x1<=((us.length:Int)-1)):=((YD dq)).1 Zb
   refine Zk 0 13 [10,11,12,13,14,15,16,17,18,19,20,21,22] (de (W9 (ZE ?_)))
   obtain ⟨y,hy⟩:=Zr tys k om
   exact ZD (ZY (.b false) (lb (by rw [<-Zh];exact (RS Z3 hy (by rw [K7 ZX];simp)).symm)))
  have Yh:¬(¬(0<=x1/\x1<=((us.length:Int)-1))):=Yc (YD dq) Zb
  refine Zk 10 13 [10,11,12] (dx 13 (Zj none (k:Int) 1 (Y0 Z3)) (Zk 8 9 [14] ?_))
  obtain ⟨x2,Zu⟩:=Zr us x1.toNat om
  refine dx 15 (Zj none x1 1 (Y0 Zu)) (Zk 4 7 [16,17,18] ?_)
  obtain ⟨x3,YN⟩:=Zr tys k om
  refine dx 19 (Zj none (k:Int) 1 (Y0 YN)) (Zk 0 3 [20,21,22] (de (ac (x2 != x3) Yn (fun ZC=>?_) (fun ZC=>?_))))
  ·exact ar (Zq (ZY (.b false) (lb (by rw [<-Zh];exact (RS Z3 YN (by rw [TX om Zu];simpa using ZC)).symm))))
  refine ak (az (Z2 1 (ZJ k (Z0 ?_))))
  have hdr:=Y5 Z3
  exact ZL ⟨k+1,ob,(by rw [<-Zh];exact (Zdw Z3 YN (by rw [TX om Zu];congr 1;omega)).symm),rfl,rfl,rfl⟩ (wk [] (ZP k fl))
 exact ax 0 (ar (Zq (ZY (.b true) (lb (by rw [<-Zh];exact (Zdv om om).symm)))))
theorem Zcn (us:LI) (s:Z5) (hl_us:us.length<=4294967296:=by exact ob):Zi 211 [Z4 us,YF s] [] (Yk (.b (Uk us s.op s.into))):=by
 refine ZF 27 Tryz.func211 (ar (iA (Xw s) fun b1=>Z0 (X2 (VF [0] (ac (s.into==0) Zo (fun Za=>?_) (fun Za=>?_))))))
 ·exact ar (Zq (ZY (.b true) (lb (by rw [Uk,Ze Za]))))
 refine ak (ar (XH 10 [0,3] [(17,.b ((s.op==6)&&(decide (1<=s.into/\s.into<=(us.length:Int)))))] (fun gz=>gz) ?_ (fun hj1=>?_)))
 ·refine Z2 1 (ib (b:=((s.op==6)&&(decide (1<=s.into/\s.into<=(us.length:Int))))) 18 (fun Zb=>?_) (fun Zb=>?_))
  ·have ZX:(s.op=6)/\(1<=s.into/\s.into<=(us.length:Int)):=((YB Zo dq)).1 Zb
   refine ZM 3 [0] (ia ((s.into-1)) ((s.into)-(1)) ?_)
   obtain ⟨x1,Z3⟩:=Zr us ((s.into-1).toNat) om
   exact Zm (Zj none (s.into-1) 1 (Y0 Z3)) (Zq (ZY (.b (decide (x1>0))) (lb (by rw [Uk,Z7 Za];first|(rw [Ze om,TX om Z3];rfl)|(rw [Ze om,K7 om];rfl)|(rw [Z7 om])|(by_cases q:s.op=6;rw [Ze q,K7 om];rfl;rw [Z7 q])))))
  have Yh:¬((s.op=6)/\(1<=s.into/\s.into<=(us.length:Int))):=Yc (YB Zo dq) Zb
  exact Zq (ZY (.b false) (lb (by rw [Uk,Z7 Za];first|(rw [Ze om,TX om Z3];rfl)|(rw [Ze om,K7 om];rfl)|(rw [Z7 om])|(by_cases q:s.op=6;rw [Ze q,K7 om];rfl;rw [Z7 q]))))
 refine ZM 4 [0] (ib (b:=(s.op==6)) 11 (fun ZB=>?_) (fun ZB=>?_))
 ·have YH:s.op=6:=(Zo).1 ZB
  exact ZM 3 [0] (iw (Y8 us) (Zz [] (Ti s.into 1 (us.length:Int)) (Z2 1 (Yu (wk [0] (Zs (decide (1<=s.into/\s.into<=(us.length:Int))) ZB fl)) hj1))))
 have YQ:¬(s.op=6):=Yc Zo ZB
 exact Z2 6 (Yu (wk [0] (Zs false ZB fl)) hj1)
theorem Zcc (n:Zp) (us:LI) (s:Z5) (hn:X0 n:=by exact ob) (hl_us:us.length<=4294967296:=by exact ob) (ha:s.args.length<=1000000000:=by exact ob):Zi 215 [Yl n,Z4 us,YF s] [] (Yk (.i (Tx n us s.op s.num s.args))):=by
 have hrl:=hn.len
 have hdl:=hn.decls.len
 refine ZF 69 Tryz.func215 (ar (iA (YR n) fun b1=>iA (Xw s) fun b2=>Z0 (Yi 4 [0,1] (iw (Uc n.routines) (ia (((n.routines.length:Int)-1)) (((n.routines.length:Int))-(1)) (Zz [] (Ti s.num 0 ((n.routines.length:Int)-1)) (YC (!(decide (0<=s.num/\s.num<=((n.routines.length:Int)-1)))) (p:=¬(0<=s.num/\s.num<=((n.routines.length:Int)-1))) (YD dq) (fun Za=>?_) (fun Za=>?_))))))))
 ·exact ar (Zq (ZY (.i (-1)) (li (Zae om).symm)))
 refine ak (Zv 4 [1,0] ?_)
 obtain ⟨x1,Z3⟩:=Zr n.routines s.num.toNat om
 have hrp:=hn.params_at Z3
 have hrt:=hn.lent_at Z3
 have hre:Tx n us s.op s.num s.args=Kg n.decls us s.op s.args x1:=Zac om Z3
 refine Zm (Zj none s.num 5 (WR Z3)) (Z2 1 (iA [nl,nl,.i 0,nl,.i 0] fun b3=>ZH 0 b3 (Kd x1) (ie (Zv 2 [0] (iw (Y8 x1.params) (Z0 (X2 (VF [1] (ac (s.op==9) Zo (fun Zg=>?_) (fun Zg=>?_))))))))))
 ·refine Yi 5 [1,0] (Zz [] (Bc us s.args x1.params) (YC (!W7 us s.args x1.params) (p:=¬(W7 us s.args x1.params=true)) (YD Iff.rfl) (fun ZC=>?_) (fun ZC=>?_)))
  ·exact ar (Zq (ZY (.i (-1)) (li (by clear Z3;first|rfl|omega|grind [Kg,Kv]))))
  exact ak (AN [0] (ZD (ZY (.i x1.result) (li (by clear Z3;first|rfl|omega|grind [Kg,Kv])))))
 refine ak (aq (aD 20 (JX [3,7,8] [(57,.b (((x1.params.length:Int)==0)||((decide ((x1.lent.length:Int)>0))||(!W7 us s.args (x1.params.take (x1.params.length-1))))))] (fun gz=>gz) ?_ ?_)))
 ·refine Zk 17 20 [0,1,2] (db (b:=((x1.params.length:Int)==0)) 40 (fun Zb=>?_) (fun Zb=>?_))
  ·have ZX:(x1.params.length:Int)=0:=(Zo).1 Zb
   exact Zk 0 17 [3,4,5,6,7,8,9,10,11,12,13,14,15,16,17,18,19] (de (ZG 3 (Zs true Zb fl)))
  have Yh:¬((x1.params.length:Int)=0):=Yc Zo Zb
  refine ZI 15 17 [3,4] [0] (dw 5 (Y8 x1.lent) (Zk 11 14 [6,7,8] (db (b:=(decide ((x1.lent.length:Int)>0))) 46 (fun ZB=>?_) (fun ZB=>?_))))
  ·have YH:(x1.lent.length:Int)>0:=(dq).1 ZB
   exact Zk 0 11 [9,10,11,12,13,14,15,16,17,18,19] (de (ZG 3 (Zs true (And.intro Zb ZB) fl)))
  have YQ:¬((x1.lent.length:Int)>0):=Yc dq ZB
  exact ZI 5 11 [9,10,11,12,13,14] [1,0] (da 15 (((x1.params.length-1:Nat):Int)) (((x1.params.length:Int))-(1)) (dx 16 (Jg (es:=Z6 x1.params) (hv:=none) (l:=0) (m:=((x1.params.length-1:Nat):Int)) (sz:=1) (es':=Z6 (x1.params.take (x1.params.length-1))) kr om (by simp<;>omega) (by simp<;>omega) (Yy _) (by first|(simp only [U9,VP,Ja,A1];done)|(simp only [U9,VP,Ja,A1];rfl)|(simp [Ja,A1];done))) (Z9 17 (Yo 17 [] [] [] (Bc us s.args (x1.params.take (x1.params.length-1))) (Zk 0 2 [18,19] (de (ZG 3 (Zs (!W7 us s.args (x1.params.take (x1.params.length-1))) (And.intro Zb ZB) fl))))))))
 refine ac (((x1.params.length:Int)==0)||((decide ((x1.lent.length:Int)>0))||(!W7 us s.args (x1.params.take (x1.params.length-1))))) (p:=((x1.params.length:Int)=0)∨(((x1.lent.length:Int)>0)∨(¬(W7 us s.args (x1.params.take (x1.params.length-1))=true)))) (Yx Zo (Yx dq (YD Iff.rfl))) (fun Yd=>?_) (fun Yd=>?_)
 ·exact ar (Zq (ZY (.i (-1)) (li (by clear Z3;first|rfl|omega|grind [Kg,Kv]))))
 refine ak (aD 12 (ZI 7 12 [0,1,2,3,4] [2,0] (da 5 (((x1.params.length-1:Nat):Int)) (((x1.params.length:Int))-(1)) ?_)))
 obtain ⟨x2,Zu⟩:=Zr x1.params (x1.params.length-1) om
 have hgl:=NH Zu
 exact dx 6 (Zj none ((x1.params.length-1:Nat):Int) 1 (Y0 Zu)) (ZI 2 5 [7,8,9] [0] (Z9 10 (Yo 10 [] [] [] (Rd n.decls x2 x1.result) (Zk 0 1 [11] (de (ZD (ZY (.i (Ua n.decls x2 x1.result)) (li (by clear Z3 Zu;first|rfl|omega|grind [Kg,Kv])))))))))
theorem Zc3 (n:Zp) (us:LI) (s:Z5) (hn:X0 n:=by exact ob) (hl_us:us.length<=4294967296:=by exact ob) (ha:s.args.length<=1000000000:=by exact ob):Zi 217 [Yl n,Z4 us,YF s] [] (Yk (.i (Qf n.decls us s.op s.args))):=by
 have Xr:=hn.decls
 refine ZF 52 Tryz.func217 (ar (iA (YR n) fun b1=>iA (Xw s) fun b2=>Z0 (Yi 2 [0] (iw (Y8 s.args) (Z2 2 (ib (b:=((s.args.length:Int) != 1)) 11 (fun Zb=>?_) (fun Zb=>?_)))))))
 ·have ZX:(s.args.length:Int)≠1:=(Yn).1 Zb
  exact Z0 (W9 (ar (Zq (ZY (.i (-1)) (li (by first|assumption|omega|rfl|(rw [Cb om])|(rw [Cc (Ku om Z3) om])|(rw [Ca (Ku om Z3) om Zu];clear Z3 Zu;grind)))))))
 have Yh:¬((s.args.length:Int)≠1):=Yc Yn Zb
 refine ZM 2 [0] ?_
 obtain ⟨x1,Z3⟩:=Zr s.args 0 om
 refine Zm (Zj none 0 1 (Y0 Z3)) (Z2 2 (iw (Y8 us) (ia (((us.length:Int)-1)) (((us.length:Int))-(1)) (Zz [] (Ti x1 0 ((us.length:Int)-1)) (Z2 3 (ib (b:=(!(decide (0<=x1/\x1<=((us.length:Int)-1))))) 22 (fun ZB=>?_) (fun ZB=>?_)))))))
 ·have YH:¬(0<=x1/\x1<=((us.length:Int)-1)):=((YD dq)).1 ZB
  exact Z0 (W9 (ar (Zq (ZY (.i (-1)) (li (by first|assumption|omega|rfl|(rw [Cb om])|(rw [Cc (Ku om Z3) om])|(rw [Ca (Ku om Z3) om Zu];clear Z3 Zu;grind)))))))
 have YQ:¬(¬(0<=x1/\x1<=((us.length:Int)-1))):=Yc (YD dq) ZB
 refine ZM 3 [0] (Zm (Zj none 0 1 (Y0 Z3)) (Z2 1 ?_))
 obtain ⟨x2,Zu⟩:=Zr us x1.toNat om
 refine Zm (Zj none x1 1 (Y0 Zu)) (YC (x2==0) Zo (fun Za=>?_) (fun Za=>?_))
 ·exact ar (Zq (ZY (.i (-1)) (li (by first|assumption|omega|rfl|(rw [Cb om])|(rw [Cc (Ku om Z3) om])|(rw [Ca (Ku om Z3) om Zu];clear Z3 Zu;grind)))))
 refine ak (aq (aD 20 (JX [] [(51,.b ((s.op != 14)&&((s.op != 15)&&XT n.decls x2)))] (fun gz=>gz) ?_ ?_)))
 ·refine ZI 16 20 [0,1,2,3] [0] (db (b:=(s.op != 14)) 35 (fun Yz=>?_) (fun Yz=>?_))
  ·have Xa:s.op≠14:=(Yn).1 Yz
   refine ZI 11 16 [4,5,6,7,8] [0] (db (b:=(s.op != 15)) 40 (fun Xv=>?_) (fun Xv=>?_))
   ·have XP:s.op≠15:=(Yn).1 Xv
    exact ZI 6 11 [9,10,11,12,13] [1,0] (dx 14 (Zj none 0 1 (Y0 Z3)) (Zk 4 5 [15] (dx 16 (Zj none x1 1 (Y0 Zu)) (Zk 2 3 [17] (Z9 18 (Yo 18 [] [] [] (E2 n.decls x2 (hd:=(by first|assumption|omega|rfl|(rw [Cb om])|(rw [Cc (Ku om Z3) om])|(rw [Ca (Ku om Z3) om Zu];clear Z3 Zu;grind)))) (Zk 0 1 [19] (de (wk [0,0] (Zs (XT n.decls x2) (And.intro Yz Xv) fl))))))))))
   have Wr:¬(s.op≠15):=Yc Yn Xv
   exact Zk 0 11 [9,10,11,12,13,14,15,16,17,18,19] (de (wk [0,0] (Zs false (And.intro Yz Xv) fl)))
  have WT:¬(s.op≠14):=Yc Yn Yz
  exact Zk 0 16 [4,5,6,7,8,9,10,11,12,13,14,15,16,17,18,19] (de (wk [0,0] (Zs false Yz fl)))
 refine ac ((s.op != 14)&&((s.op != 15)&&XT n.decls x2)) (p:=(s.op≠14)/\((s.op≠15)/\(XT n.decls x2=true))) (YB Yn (YB Yn Iff.rfl)) (fun Zg=>?_) (fun Zg=>?_)
 ·exact ar (Zq (ZY (.i (-1)) (li (by first|assumption|omega|rfl|(rw [Cb om])|(rw [Cc (Ku om Z3) om])|(rw [Ca (Ku om Z3) om Zu];clear Z3 Zu;grind)))))
 exact ak (ar (Zq (ZY (.i 0) (li (by first|assumption|omega|rfl|(rw [Cb om])|(rw [Cc (Ku om Z3) om])|(rw [Ca (Ku om Z3) om Zu];clear Z3 Zu;grind))))))
theorem Rk (n:Zp) (us:LI) (s:Z5) (hn:X0 n:=by exact ob) (hop:s.op=7∨s.op=8:=by exact ob) (hb:us.length+4*s.sz<=1000000000:=by exact ob) (ih:∀(b:Z8) (us:LI),(b.sz<s.sz)->(us.length+4*b.sz<=1000000000)->Zi 128 [Yl n,Z4 us,ZZ b] [] (Yk (.i (Xi n us b)))):Zi 214 [Yl n,Z4 us,YF s] [] (Yk (.i (Tu n us s.op s.num s.kids))):=by
 have Xr:=hn.decls
 have hkz:=Tv s
 refine ZF 71 Tryz.func214 (ar (iA (YR n) fun b1=>iA (Xw s) fun b2=>Z0 (Zv 4 [1,0] (ic [] (JH n.decls s.num) ?_))))
 rintro _ _ ⟨v1,rfl,rfl⟩
 refine Z0 (Y6 1 (io (.i (((ZW n.decls s.num).length:Nat):Int)) (.i (((Z6 (ZW n.decls s.num)).length:Nat):Int)) (li (by rw [Y8])) (Z0 (X2 (VF [1] (XK (fun fz gz F h=>F=sF [1,3,5] fz [(7,Z4 (ZW n.decls s.num)),(8,.i (((Xm n.decls s.op s.num).length:Nat):Int))]/\h=[Zc gz 1,Zc gz 2]) ?_ ?_))))))
 ·refine ac (s.op==7) Zo (fun Za=>?_) (fun Za=>?_)
  ·exact UR (ZO ⟨rfl,rfl⟩ (wk [1,1] (fc (x:=ZV (ZW n.decls s.num) v1) (Zd.forget _ _) (fc (x:=.i 2) (li (by rw [Xm,Ze Za];rfl)) fl))))
  exact ak (ZO ⟨rfl,rfl⟩ (wk [1,1] (fc (x:=ZV (ZW n.decls s.num) v1) (Zd.forget _ _) (fc (x:=.i (((ZW n.decls s.num).length:Nat):Int)) (li (by rw [Xm,Z7 Za,At])) fl))))
 rintro F h ⟨rfl,rfl⟩
 refine X2 (Xo [1,3,5,7,8] [(31,.b (((((Xm n.decls s.op s.num).length:Nat):Int)==0)||((s.kids.length:Int) != (((Xm n.decls s.op s.num).length:Nat):Int))))] (fun gz=>gz) ?_ ?_)
 ·refine Z2 3 (ib (b:=((((Xm n.decls s.op s.num).length:Nat):Int)==0)) 25 (fun Zb=>?_) (fun Zb=>?_))
  ·exact Z0 (wk [0,0] (Zs true Zb fl))
  exact ZM 2 [0] (iw (Ub s.kids) (Z0 (wk [0,0] (Zs ((s.kids.length:Int) != (((Xm n.decls s.op s.num).length:Nat):Int)) Zb fl))))
 refine ac (((((Xm n.decls s.op s.num).length:Nat):Int)==0)||((s.kids.length:Int) != (((Xm n.decls s.op s.num).length:Nat):Int))) (p:=((((Xm n.decls s.op s.num).length:Nat):Int)=0)∨((s.kids.length:Int)≠(((Xm n.decls s.op s.num).length:Nat):Int))) (Yx Zo Yn) (fun Zg=>?_) (fun Zg=>?_)
 ·exact ar (Zq (ZY (.i (-1)) (li (by rw [Tu,Ze om]))))
 refine ak (ZE (Yb (ab 0 (Y3 (fun fz gz m F h=>∃(k:Nat) (t:Int),(k<=s.kids.length)/\(WV n us (s.kids.drop k) ((Xm n.decls s.op s.num).drop k) (decide (k=0)) t=WV n us s.kids (Xm n.decls s.op s.num) true 0)/\F=sF [1,3,5,7,8] fz [(9,.i t),(10,.i k)]/\h=gz/\m=s.kids.length-k) _ _ _ ⟨0,0,ob,(by rfl),rfl,rfl,rfl⟩ (wk [0,0] (fr (Y9 fl))) ?_))))
 rintro m F h ⟨k,t,Yf,Zh,rfl,rfl,rfl⟩
 refine X2 (Y1 ((k:Int)<(((Xm n.decls s.op s.num).length:Nat):Int)) (fun ZC=>?_) (fun ZC=>?_))
 ·refine ak (aq (ab 1 (ZE (X2 (VF [0] (XK (fun fz gz F h=>∃(m:LI),((Xm n.decls s.op s.num)[k]? = some m)/\F=sF [1,3,5,7,8,9,10] fz [(11,Z4 (us++m))]/\h=gz) ?_ ?_))))))
  ·refine ac (s.op==8) Zo (fun Yd=>?_) (fun Yd=>?_)
   ·refine aE 10 (ZI 5 10 [0,1,2,3,4] [1] ?_)
    obtain ⟨x1,Z3⟩:=Zr (ZW n.decls s.num) k (by rw [Xm,Z7 om,At] at ZC;omega)
    refine dx 5 (Zj none (k:Int) 1 (Y0 Z3)) (Zk 3 4 [6] (Z9 7 (Yo 7 [] [] [] (Ki n.decls x1) (Z9 8 (dc 8 [] [] [] (QU us (ZU n.decls x1) (hl:=(by have:=U4 Xr x1;omega))) ?_)))))
    rintro _ _ ⟨v2,rfl,rfl⟩
    exact Zk 0 1 [9] (de (ZO ⟨(ZU n.decls x1),(by rw [show s.op=8 from Yd];exact SV Z3),rfl,rfl⟩ (wk [1,1] fl)))
   exact ak (ZO ⟨[],(by rw [Xm,Ze om];have:k=0∨k=1:=(by rw [Xm,Ze om] at ZC;simp at ZC;omega);rcases this with rfl|rfl<;>rfl),rfl,rfl⟩ (wk [0,0] (fc (x:=Z4 us) (Zd.sl _ (Ym Z6 (by simp))) fl)))
  rintro F h ⟨m,QJ,rfl,rfl⟩
  refine aD 9 (ZI 4 9 [0,1,2,3,4] [1,0] ?_)
  obtain ⟨x2,Zu⟩:=Zr s.kids k om
  have hks:=Tt Zu
  have hm3:=Ej Xr QJ
  refine dx 5 (Zj none (k:Int) 2 (UN Zu)) (Zk 2 3 [6] (Z9 7 (Yo 7 [] [] [] (ih x2 (us++m) ob (by simp only [Ys];omega)) (Zk 0 1 [8] (de (X2 (Xo [1,3,5,7,8,10,12] [(68,.b ((decide ((Xi n (us++m) x2)<0))||((decide ((k:Int)>0))&&((Xi n (us++m) x2) != t))))] (fun gz=>gz) ?_ ?_)))))))
  ·refine Z2 3 (ib (b:=(decide ((Xi n (us++m) x2)<0))) 60 (fun ZB=>?_) (fun ZB=>?_))
   ·exact Z0 (wk [0,0] (Zs true ZB fl))
   refine Z2 3 (ib (b:=(decide ((k:Int)>0))) 63 (fun Yz=>?_) (fun Yz=>?_))
   ·exact Z0 (wk [0,0] (Zs ((Xi n (us++m) x2) != t) (And.intro ZB Yz) fl))
   exact Z0 (wk [0,0] (Zs false (And.intro ZB Yz) fl))
  refine ac ((decide ((Xi n (us++m) x2)<0))||((decide ((k:Int)>0))&&((Xi n (us++m) x2) != t))) (p:=((Xi n (us++m) x2)<0)∨(((k:Int)>0)/\((Xi n (us++m) x2)≠t))) (Yx dq (YB dq Yn)) (fun Xf=>?_) (fun Xf=>?_)
  ·exact ar (Zq (ZY (.i (-1)) (li (by rw [Tu,Z7 om,<-Zh];exact (Ov Zu QJ Xf).symm))))
  exact ak (UR (az (Z2 1 (ZJ k (Z0 (ZL ⟨k+1,Xi n (us++m) x2,ob,(by rw [<-Zh];exact (Ox Zu QJ Xf).symm),rfl,rfl,rfl⟩ (wk [0,0] (fr (ZP k fl)))))))))
 exact ax 0 (ar (Zq (ZY (.i t) (li (by rw [Tu,Z7 om,<-Zh];exact (Ow om).symm)))))
theorem Ro (n:Zp) (us:LI) (s:Z5) (hn:X0 n:=by exact ob) (hb:us.length+4*s.sz<=1000000000:=by exact ob) (ih:∀(b:Z8) (us:LI),(b.sz<s.sz)->(us.length+4*b.sz<=1000000000)->Zi 128 [Yl n,Z4 us,ZZ b] [] (Yk (.i (Xi n us b)))):Zi 164 [Yl n,Z4 us,YF s] [] (Yk (.i (Ya n us s))):=by
 have Xr:=hn.decls
 have hkz:=Tv s
 have haz:=Qe s
 have hdl:=Xr.len
 have hst:=An n us s
 refine ZF 183 Tryz.func164 (ar (iA (YR n) fun b1=>iA (Xw s) fun b2=>Z0 (X2 (XH 9 [1,3,5] [(16,.b ((s.num != 0)&&(!VC s.op)))] (fun gz=>gz) ?_ (fun hj1=>?_)))))
 ·refine XH 15 [1,3,5] [(22,.b (((s.num != 0)&&(!VC s.op))||(!Uk us s.op s.into)))] (fun gz=>gz) ?_ (fun hj2=>?_)
  ·refine Xo [1,3,5] [(38,.b ((((s.num != 0)&&(!VC s.op))||(!Uk us s.op s.into))||((decide ((s.kids.length:Int)>0))&&((s.op != 7)&&(s.op != 8)))))] (fun gz=>gz) ?_ ?_
   ·refine Z2 1 (ib (b:=(((s.num != 0)&&(!VC s.op))||(!Uk us s.op s.into))) 23 (fun Zb=>?_) (fun Zb=>?_))
    ·have ZX:((s.num≠0)/\(¬(VC s.op=true)))∨(¬(Uk us s.op s.into=true)):=((Yx (YB Yn (YD Iff.rfl)) (YD Iff.rfl))).1 Zb
     exact Z0 (wk [0,0] (Zs true Zb fl))
    have Yh:¬(((s.num≠0)/\(¬(VC s.op=true)))∨(¬(Uk us s.op s.into=true))):=Yc (Yx (YB Yn (YD Iff.rfl)) (YD Iff.rfl)) Zb
    refine ZM 2 [0] (iw (Ub s.kids) (Z2 2 (ib (b:=(decide ((s.kids.length:Int)>0))) 28 (fun ZB=>?_) (fun ZB=>?_))))
    ·have YH:(s.kids.length:Int)>0:=(dq).1 ZB
     refine ZM 5 [0] (ib (b:=(s.op != 7)) 33 (fun Yz=>?_) (fun Yz=>?_))
     ·have YQ:s.op≠7:=(Yn).1 Yz
      exact VF [0] (wk [0,0] (Zs (s.op != 8) (And.intro Zb (And.intro ZB Yz)) fl))
     have Xa:¬(s.op≠7):=Yc Yn Yz
     exact Z0 (wk [0,0] (Zs false (And.intro Zb (And.intro ZB Yz)) fl))
    have XP:¬((s.kids.length:Int)>0):=Yc dq ZB
    exact Z0 (wk [0,0] (Zs false (And.intro Zb ZB) fl))
   refine ac ((((s.num != 0)&&(!VC s.op))||(!Uk us s.op s.into))||((decide ((s.kids.length:Int)>0))&&((s.op != 7)&&(s.op != 8)))) (p:=(((s.num≠0)/\(¬(VC s.op=true)))∨(¬(Uk us s.op s.into=true)))∨(((s.kids.length:Int)>0)/\((s.op≠7)/\(s.op≠8)))) (Yx (Yx (YB Yn (YD Iff.rfl)) (YD Iff.rfl)) (YB dq (YB Yn Yn))) (fun Za=>?_) (fun Za=>?_)
   ·exact ar (Zq (ZY (.i (-1)) (li (by first|rfl|( grind)|(have q:=UI (ds:=n.decls) (us:=us) (args:=s.args) om; grind)|(have q:=UJ (ds:=n.decls) (us:=us) (args:=s.args) om ‹s.args[0]? = some _› om; grind)|(have q:=Uz (ds:=n.decls) (us:=us) (args:=s.args) om ‹s.args[0]? = some _› om ‹us[_]? = some _›; grind)))))
   refine ak (X2 (VF [0] (ab 0 (ar (YC (s.op==0) Zo (fun Zg=>?_) (fun Zg=>?_))))))
   ·refine Zv 2 [0] (iw (Y8 s.args) (Xo [] [(51,.b (((s.args.length:Int)==0)&&(decide ((-999)<=s.num/\s.num<=999))))] (fun gz=>gz) ?_ ?_))
    ·refine Z2 2 (ib (b:=((s.args.length:Int)==0)) 47 (fun Xv=>?_) (fun Xv=>?_))
     ·have Wr:(s.args.length:Int)=0:=(Zo).1 Xv
      exact ZM 2 [0] (Zz [] (Ti s.num (-999) 999) (Z0 (wk [0,0] (Zs (decide ((-999)<=s.num/\s.num<=999)) Xv fl))))
     have WT:¬((s.args.length:Int)=0):=Yc Zo Xv
     exact Z0 (wk [0,0] (Zs false Xv fl))
    refine ac (((s.args.length:Int)==0)&&(decide ((-999)<=s.num/\s.num<=999))) (p:=((s.args.length:Int)=0)/\((-999)<=s.num/\s.num<=999)) (YB Zo dq) (fun ZC=>?_) (fun ZC=>?_)
    ·exact ar (Zq (ZY (.i 0) (li (by first|rfl|( grind)|(have q:=UI (ds:=n.decls) (us:=us) (args:=s.args) om; grind)|(have q:=UJ (ds:=n.decls) (us:=us) (args:=s.args) om ‹s.args[0]? = some _› om; grind)|(have q:=Uz (ds:=n.decls) (us:=us) (args:=s.args) om ‹s.args[0]? = some _› om ‹us[_]? = some _›; grind)))))
    exact ak (ar (Zq (ZY (.i (-1)) (li (by first|rfl|( grind)|(have q:=UI (ds:=n.decls) (us:=us) (args:=s.args) om; grind)|(have q:=UJ (ds:=n.decls) (us:=us) (args:=s.args) om ‹s.args[0]? = some _› om; grind)|(have q:=Uz (ds:=n.decls) (us:=us) (args:=s.args) om ‹s.args[0]? = some _› om ‹us[_]? = some _›; grind))))))
   refine Yb (XK (fun fz gz F h=>F=sF [1,3,5,40] fz [(52,.b ((s.op==1)||((s.op==2)||((s.op==3)||(s.op==4)))))]/\h=gz) ?_ ?_)
   ·refine ac (s.op==1) Zo (fun Yd=>?_) (fun Yd=>?_)
    ·exact ak (ZO ⟨rfl,rfl⟩ (wk [0,0] (fc (x:=.b (s.op==1)) (lb (by first|rfl|(rw [Ze Yd])|(rw [Z7 Yd])|(simp [Yd];done)|(rw [Xq];simp [Yd];done)|omega)) fl)))
    refine ar (YC (s.op==2) Zo (fun Xf=>?_) (fun Xf=>?_))
    ·exact ak (ZO ⟨rfl,rfl⟩ (wk [0,0] (fc (x:=.b (s.op==2)) (lb (by first|rfl|(rw [Ze Yd])|(rw [Z7 Yd])|(simp [Yd,Xf];done)|(rw [Xq];simp [Yd,Xf];done)|omega)) fl)))
    refine ar (YC (s.op==3) Zo (fun Xb=>?_) (fun Xb=>?_))
    ·exact ak (ZO ⟨rfl,rfl⟩ (wk [0,0] (fc (x:=.b (s.op==3)) (lb (by first|rfl|(rw [Ze Yd])|(rw [Z7 Yd])|(simp [Yd,Xf,Xb];done)|(rw [Xq];simp [Yd,Xf,Xb];done)|omega)) fl)))
    exact UR (ZO ⟨rfl,rfl⟩ (wk [0,0] (fc (x:=.b (s.op==4)) (lb (by first|rfl|(rw [Ze Yd])|(rw [Z7 Yd])|(simp [Yd,Xf,Xb];done)|(rw [Xq];simp [Yd,Xf,Xb];done)|omega)) fl)))
   rintro F h ⟨rfl,rfl⟩
   refine ac ((s.op==1)||((s.op==2)||((s.op==3)||(s.op==4)))) (p:=(s.op=1)∨((s.op=2)∨((s.op=3)∨(s.op=4)))) (Yx Zo (Yx Zo (Yx Zo Zo))) (fun VK=>?_) (fun VK=>?_)
   ·refine Zv 3 [0] (iL (Z6 [0,0]) 2 1 fun v1=>ZQ 0 [(60,Z4 [0,0])] (Zz [] (Bc us s.args [0,0] (hl_tys:=(by first|(simp;done)|(have:=U4 Xr s.num;omega)))) (ie (ac (W7 us s.args [0,0]) Iff.rfl (fun VD=>?_) (fun VD=>?_)))))
    ·exact ar (Zq (ZY (.i 0) (li (by first|rfl|( grind)|(have q:=UI (ds:=n.decls) (us:=us) (args:=s.args) om; grind)|(have q:=UJ (ds:=n.decls) (us:=us) (args:=s.args) om ‹s.args[0]? = some _› om; grind)|(have q:=Uz (ds:=n.decls) (us:=us) (args:=s.args) om ‹s.args[0]? = some _› om ‹us[_]? = some _›; grind)))))
    exact ak (ar (Zq (ZY (.i (-1)) (li (by first|rfl|( grind)|(have q:=UI (ds:=n.decls) (us:=us) (args:=s.args) om; grind)|(have q:=UJ (ds:=n.decls) (us:=us) (args:=s.args) om ‹s.args[0]? = some _› om; grind)|(have q:=Uz (ds:=n.decls) (us:=us) (args:=s.args) om ‹s.args[0]? = some _› om ‹us[_]? = some _›; grind))))))
   refine ar (YC (s.op==5) Zo (fun VE=>?_) (fun VE=>?_))
   ·refine Zv 3 [0] (iL (Z6 [0]) 1 1 fun v2=>ZQ 0 [(67,Z4 [0])] (Zz [] (Bc us s.args [0] (hl_tys:=(by first|(simp;done)|(have:=U4 Xr s.num;omega)))) (ie (ac (W7 us s.args [0]) Iff.rfl (fun Tq=>?_) (fun Tq=>?_)))))
    ·exact ar (Zq (ZY (.i 0) (li (by first|rfl|( grind)|(have q:=UI (ds:=n.decls) (us:=us) (args:=s.args) om; grind)|(have q:=UJ (ds:=n.decls) (us:=us) (args:=s.args) om ‹s.args[0]? = some _› om; grind)|(have q:=Uz (ds:=n.decls) (us:=us) (args:=s.args) om ‹s.args[0]? = some _› om ‹us[_]? = some _›; grind)))))
    exact ak (ar (Zq (ZY (.i (-1)) (li (by first|rfl|( grind)|(have q:=UI (ds:=n.decls) (us:=us) (args:=s.args) om; grind)|(have q:=UJ (ds:=n.decls) (us:=us) (args:=s.args) om ‹s.args[0]? = some _› om; grind)|(have q:=Uz (ds:=n.decls) (us:=us) (args:=s.args) om ‹s.args[0]? = some _› om ‹us[_]? = some _›; grind))))))
   refine ar (YC (s.op==6) Zo (fun Jd=>?_) (fun Jd=>?_))
   ·refine aD 17 (ZI 13 17 [0,1,2,3] [1,0] (Z9 4 (Yo 4 [] [] [] (Li n.decls s.num) (JX [3,5] [(87,.b ((decide ((Wa n.decls s.num)>0))&&W7 us s.args (ZU n.decls s.num)))] (fun gz=>gz) ?_ ?_))))
    ·refine Zk 10 12 [5,6] (db (b:=(decide ((Wa n.decls s.num)>0))) 77 (fun Wu=>?_) (fun Wu=>?_))
     ·have Ve:(Wa n.decls s.num)>0:=(dq).1 Wu
      exact ZI 3 10 [7,8,9,10,11,12,13] [0,1,0] (Z9 14 (Yo 14 [] [0] [b2] (Ki n.decls s.num (hd:=Xr)) (Z9 15 (Yo 15 [] [] [] (Bc us s.args (ZU n.decls s.num) (hl_tys:=(by first|(simp;done)|(have:=U4 Xr s.num;omega)))) (Zk 0 1 [16] (de (wk [0,0] (Zs (W7 us s.args (ZU n.decls s.num)) Wu fl))))))))
     have UD:¬((Wa n.decls s.num)>0):=Yc dq Wu
     exact Zk 0 10 [7,8,9,10,11,12,13,14,15,16] (de (wk [0,0] (Zs false Wu fl)))
    refine ac ((decide ((Wa n.decls s.num)>0))&&W7 us s.args (ZU n.decls s.num)) (p:=((Wa n.decls s.num)>0)/\(W7 us s.args (ZU n.decls s.num)=true)) (YB dq Iff.rfl) (fun TM=>?_) (fun TM=>?_)
    ·exact Zv 4 [1,0] (Zz [] (Li n.decls s.num) (Zq (ZY (.i (Wa n.decls s.num)) (li (by first|rfl|( grind)|(have q:=UI (ds:=n.decls) (us:=us) (args:=s.args) om; grind)|(have q:=UJ (ds:=n.decls) (us:=us) (args:=s.args) om ‹s.args[0]? = some _› om; grind)|(have q:=Uz (ds:=n.decls) (us:=us) (args:=s.args) om ‹s.args[0]? = some _› om ‹us[_]? = some _›; grind))))))
    exact ak (ar (Zq (ZY (.i (-1)) (li (by first|rfl|( grind)|(have q:=UI (ds:=n.decls) (us:=us) (args:=s.args) om; grind)|(have q:=UJ (ds:=n.decls) (us:=us) (args:=s.args) om ‹s.args[0]? = some _› om; grind)|(have q:=Uz (ds:=n.decls) (us:=us) (args:=s.args) om ‹s.args[0]? = some _› om ‹us[_]? = some _›; grind))))))
   refine ar (YC (s.op==7) Zo (fun KG=>?_) (fun KG=>?_))
   ·refine Zv 3 [0] (iL (Z6 [0]) 1 1 fun v3=>ZQ 0 [(98,Z4 [0])] (Zz [] (Bc us s.args [0] (hl_tys:=(by first|(simp;done)|(have:=U4 Xr s.num;omega)))) (ie (ac (W7 us s.args [0]) Iff.rfl (fun BN=>?_) (fun BN=>?_)))))
    ·exact Zv 3 [2,1] (Zz [] (Rk n us s (ih:=ob)) (Zq (ZY (.i (Tu n us s.op s.num s.kids)) (li (by first|rfl|( grind)|(have q:=UI (ds:=n.decls) (us:=us) (args:=s.args) om; grind)|(have q:=UJ (ds:=n.decls) (us:=us) (args:=s.args) om ‹s.args[0]? = some _› om; grind)|(have q:=Uz (ds:=n.decls) (us:=us) (args:=s.args) om ‹s.args[0]? = some _› om ‹us[_]? = some _›; grind))))))
    exact ak (ar (Zq (ZY (.i (-1)) (li (by first|rfl|( grind)|(have q:=UI (ds:=n.decls) (us:=us) (args:=s.args) om; grind)|(have q:=UJ (ds:=n.decls) (us:=us) (args:=s.args) om ‹s.args[0]? = some _› om; grind)|(have q:=Uz (ds:=n.decls) (us:=us) (args:=s.args) om ‹s.args[0]? = some _› om ‹us[_]? = some _›; grind))))))
   refine ar (YC (s.op==8) Zo (fun HV=>?_) (fun HV=>?_))
   ·refine Zv 5 [0,0] (iL (Z6 [s.num]) 1 1 fun v4=>ZQ 0 [(111,Z4 [s.num])] (Zz [] (Bc us s.args [s.num] (hl_tys:=(by first|(simp;done)|(have:=U4 Xr s.num;omega)))) (ie (ac (W7 us s.args [s.num]) Iff.rfl (fun HW=>?_) (fun HW=>?_)))))
    ·exact Zv 3 [2,1] (Zz [] (Rk n us s (ih:=ob)) (Zq (ZY (.i (Tu n us s.op s.num s.kids)) (li (by first|rfl|( grind)|(have q:=UI (ds:=n.decls) (us:=us) (args:=s.args) om; grind)|(have q:=UJ (ds:=n.decls) (us:=us) (args:=s.args) om ‹s.args[0]? = some _› om; grind)|(have q:=Uz (ds:=n.decls) (us:=us) (args:=s.args) om ‹s.args[0]? = some _› om ‹us[_]? = some _›; grind))))))
    exact ak (ar (Zq (ZY (.i (-1)) (li (by first|rfl|( grind)|(have q:=UI (ds:=n.decls) (us:=us) (args:=s.args) om; grind)|(have q:=UJ (ds:=n.decls) (us:=us) (args:=s.args) om ‹s.args[0]? = some _› om; grind)|(have q:=Uz (ds:=n.decls) (us:=us) (args:=s.args) om ‹s.args[0]? = some _› om ‹us[_]? = some _›; grind))))))
   refine Yb (XK (fun fz gz F h=>F=sF [1,3,5,40] fz [(117,.b ((s.op==9)||(s.op==10)))]/\h=gz) ?_ ?_)
   ·refine ac (s.op==9) Zo (fun Je=>?_) (fun Je=>?_)
    ·exact ak (ZO ⟨rfl,rfl⟩ (wk [0,0] (fc (x:=.b (s.op==9)) (lb (by first|rfl|(rw [Ze Je])|(rw [Z7 Je])|(simp [Je];done)|(rw [Xq];simp [Je];done)|omega)) fl)))
    exact UR (ZO ⟨rfl,rfl⟩ (wk [0,0] (fc (x:=.b (s.op==10)) (lb (by first|rfl|(rw [Ze Je])|(rw [Z7 Je])|(simp [Je];done)|(rw [Xq];simp [Je];done)|omega)) fl)))
   rintro F h ⟨rfl,rfl⟩
   refine ac ((s.op==9)||(s.op==10)) (p:=(s.op=9)∨(s.op=10)) (Yx Zo Zo) (fun Z5r=>?_) (fun Z5r=>?_)
   ·exact Zv 3 [1,0] (Zz [] (Zcc n us s) (Zq (ZY (.i (Tx n us s.op s.num s.args)) (li (by first|rfl|( grind)|(have q:=UI (ds:=n.decls) (us:=us) (args:=s.args) om; grind)|(have q:=UJ (ds:=n.decls) (us:=us) (args:=s.args) om ‹s.args[0]? = some _› om; grind)|(have q:=Uz (ds:=n.decls) (us:=us) (args:=s.args) om ‹s.args[0]? = some _› om ‹us[_]? = some _›; grind))))))
   refine ar (YC (s.op==11) Zo (fun Z5s=>?_) (fun Z5s=>?_))
   ·refine aD 26 (ZI 24 26 [0,1] [0] (dw 2 (Y8 s.args) (Zk 21 23 [3,4] (db (b:=((s.args.length:Int)==2)) 130 (fun V1=>?_) (fun V1=>?_)))))
    ·have Td:(s.args.length:Int)=2:=(Zo).1 V1
     refine ZI 19 21 [5,6] [0] ?_
     obtain ⟨x1,Z3⟩:=Zr s.args 0 om
     refine dx 7 (Zj none 0 1 (Y0 Z3)) (Zk 16 18 [8,9] (dw 10 (Y8 us) (da 11 (((us.length:Int)-1)) (((us.length:Int))-(1)) (Z9 12 (Yo 12 [] [] [] (Ti x1 0 ((us.length:Int)-1)) (Zk 11 13 [13,14] (db (b:=(decide (0<=x1/\x1<=((us.length:Int)-1)))) 140 (fun Vk=>?_) (fun Vk=>?_))))))))
     ·have US:0<=x1/\x1<=((us.length:Int)-1):=(dq).1 Vk
      refine ZI 6 11 [15,16,17,18,19] [1,0] (dx 20 (Zj none 0 1 (Y0 Z3)) (Zk 4 5 [21] ?_))
      obtain ⟨x2,Zu⟩:=Zr us x1.toNat om
      refine dx 22 (Zj none x1 1 (Y0 Zu)) (Zk 2 3 [23] (Z9 24 (Yo 24 [] [] [] (E2 n.decls x2) (Zk 0 1 [25] (de (ac (XT n.decls x2) Iff.rfl (fun Z5t=>?_) (fun Z5t=>?_)))))))
      ·refine aD 14 (ZI 9 14 [0,1,2,3,4] [1,0] (dx 5 (Zj none 0 1 (Y0 Z3)) (Zk 7 8 [6] (dx 7 (Zj none x1 1 (Y0 Zu)) (Zk 5 6 [8] (da 9 ((x2-1)) ((x2)-(1)) (hb:=(by have:=I7 ‹XT n.decls _=true›;omega)) ?_))))))
       obtain ⟨x3,YN⟩:=Zr n.decls ((x2-1).toNat) (by have:=I7 ‹XT n.decls _=true›;omega)
       have had:=SM (us:=us) (args:=s.args) om ‹s.args[0]? = some _› om ‹us[_]? = some _› ‹XT n.decls _=true› YN
       refine dx 10 (Am (es:=X1 n.decls) (hv:=none) (j:=(x2-1)) (sz:=3) (y:=Bw x3) kr (by have:=I7 ‹XT n.decls _=true›;omega) (VJ YN) rfl) (Zk 2 3 [11] (Z9 12 (dA 12 [0,1] [b2,b1] [.i 0,.i 0,nl] fun b3=>Z9 13 (YI 13 0 [] [] b3 (QK x3) (de (aD 8 (ZI 5 8 [0,1,2] [1] (dx 3 (Jg (es:=Z6 s.args) (hv:=none) (l:=1) (m:=(((Z6 s.args).length:Nat):Int)) (sz:=1) (es':=Z6 (s.args.drop 1)) kr om (by simp<;>omega) (by simp<;>omega) (Yy _) (by first|(simp only [U9,VP,Ja,A1];done)|(simp only [U9,VP,Ja,A1];rfl)|(simp [Ja,A1];done))) (ZI 2 4 [4,5] [0] (Z9 6 (dL 6 [1] [b2] (Z6 [x3.frm]) 1 1 fun v5=>Yt 1 1 [] [(170,Z4 [x3.frm])] (Z9 7 (Yo 7 [] [] [] (Bc us (s.args.drop 1) [x3.frm] (hl_tys:=(by first|(simp;done)|(have:=U4 Xr s.num;omega)))) (de (ac (W7 us (s.args.drop 1) [x3.frm]) Iff.rfl (fun NK=>?_) (fun NK=>?_))))))))))))))))
       ·exact AN [1] (ZD (ZY (.i x3.to_) (li (by first|rfl|(clear Z3 Zu YN;grind)|(have q:=UI (ds:=n.decls) (us:=us) (args:=s.args) om;clear Z3 Zu YN;grind)|(have q:=UJ (ds:=n.decls) (us:=us) (args:=s.args) om ‹s.args[0]? = some _› om;clear Z3 Zu YN;grind)|(have q:=Uz (ds:=n.decls) (us:=us) (args:=s.args) om ‹s.args[0]? = some _› om ‹us[_]? = some _›;clear Z3 Zu YN;grind)))))
       exact ak (ar (Zq (ZY (.i (-1)) (li (by first|rfl|(clear Z3 Zu YN;grind)|(have q:=UI (ds:=n.decls) (us:=us) (args:=s.args) om;clear Z3 Zu YN;grind)|(have q:=UJ (ds:=n.decls) (us:=us) (args:=s.args) om ‹s.args[0]? = some _› om;clear Z3 Zu YN;grind)|(have q:=Uz (ds:=n.decls) (us:=us) (args:=s.args) om ‹s.args[0]? = some _› om ‹us[_]? = some _›;clear Z3 Zu YN;grind))))))
      exact ak (ar (Zq (ZY (.i (-1)) (li (by first|rfl|(clear Z3 Zu;grind)|(have q:=UI (ds:=n.decls) (us:=us) (args:=s.args) om;clear Z3 Zu;grind)|(have q:=UJ (ds:=n.decls) (us:=us) (args:=s.args) om ‹s.args[0]? = some _› om;clear Z3 Zu;grind)|(have q:=Uz (ds:=n.decls) (us:=us) (args:=s.args) om ‹s.args[0]? = some _› om ‹us[_]? = some _›;clear Z3 Zu;grind))))))
     have Qi:¬(0<=x1/\x1<=((us.length:Int)-1)):=Yc dq Vk
     exact Zk 0 11 [15,16,17,18,19,20,21,22,23,24,25] (de (Wn (ak (ar (Zq (ZY (.i (-1)) (li (by first|rfl|(clear Z3;grind)|(have q:=UI (ds:=n.decls) (us:=us) (args:=s.args) om;clear Z3;grind)|(have q:=UJ (ds:=n.decls) (us:=us) (args:=s.args) om ‹s.args[0]? = some _› om;clear Z3;grind)|(have q:=Uz (ds:=n.decls) (us:=us) (args:=s.args) om ‹s.args[0]? = some _› om ‹us[_]? = some _›;clear Z3;grind)))))))))
    have Q3:¬((s.args.length:Int)=2):=Yc Zo V1
    exact Zk 0 21 [5,6,7,8,9,10,11,12,13,14,15,16,17,18,19,20,21,22,23,24,25] (de (Wn (ak (ar (Zq (ZY (.i (-1)) (li (by first|rfl|( grind)|(have q:=UI (ds:=n.decls) (us:=us) (args:=s.args) om; grind)|(have q:=UJ (ds:=n.decls) (us:=us) (args:=s.args) om ‹s.args[0]? = some _› om; grind)|(have q:=Uz (ds:=n.decls) (us:=us) (args:=s.args) om ‹s.args[0]? = some _› om ‹us[_]? = some _›; grind)))))))))
   refine Yb (XK (fun fz gz F h=>F=sF [1,3,5] fz [(174,.b ((s.op==14)||((s.op==15)||((s.op==16)||(s.op==17)))))]/\h=gz) ?_ ?_)
   ·refine ac (s.op==14) Zo (fun TD=>?_) (fun TD=>?_)
    ·exact ak (ZO ⟨rfl,rfl⟩ (wk [0,0] (fc (x:=.b (s.op==14)) (lb (by first|rfl|(rw [Ze TD])|(rw [Z7 TD])|(simp [TD];done)|(rw [Xq];simp [TD];done)|omega)) fl)))
    refine ar (YC (s.op==15) Zo (fun Ad=>?_) (fun Ad=>?_))
    ·exact ak (ZO ⟨rfl,rfl⟩ (wk [0,0] (fc (x:=.b (s.op==15)) (lb (by first|rfl|(rw [Ze TD])|(rw [Z7 TD])|(simp [TD,Ad];done)|(rw [Xq];simp [TD,Ad];done)|omega)) fl)))
    refine ar (YC (s.op==16) Zo (fun Dy=>?_) (fun Dy=>?_))
    ·exact ak (ZO ⟨rfl,rfl⟩ (wk [0,0] (fc (x:=.b (s.op==16)) (lb (by first|rfl|(rw [Ze TD])|(rw [Z7 TD])|(simp [TD,Ad,Dy];done)|(rw [Xq];simp [TD,Ad,Dy];done)|omega)) fl)))
    exact UR (ZO ⟨rfl,rfl⟩ (wk [0,0] (fc (x:=.b (s.op==17)) (lb (by first|rfl|(rw [Ze TD])|(rw [Z7 TD])|(simp [TD,Ad,Dy];done)|(rw [Xq];simp [TD,Ad,Dy];done)|omega)) fl)))
   rintro F h ⟨rfl,rfl⟩
   refine ac ((s.op==14)||((s.op==15)||((s.op==16)||(s.op==17)))) (p:=(s.op=14)∨((s.op=15)∨((s.op=16)∨(s.op=17)))) (Yx Zo (Yx Zo (Yx Zo Zo))) (fun Z5u=>?_) (fun Z5u=>?_)
   ·exact Zv 3 [1,0] (Zz [] (Zc3 n us s) (Zq (ZY (.i (Qf n.decls us s.op s.args)) (li (by first|rfl|( grind)|(have q:=UI (ds:=n.decls) (us:=us) (args:=s.args) om; grind)|(have q:=UJ (ds:=n.decls) (us:=us) (args:=s.args) om ‹s.args[0]? = some _› om; grind)|(have q:=Uz (ds:=n.decls) (us:=us) (args:=s.args) om ‹s.args[0]? = some _› om ‹us[_]? = some _›; grind))))))
   exact ak (ar (Zq (ZY (.i (-1)) (li (by first|rfl|( grind)|(have q:=UI (ds:=n.decls) (us:=us) (args:=s.args) om; grind)|(have q:=UJ (ds:=n.decls) (us:=us) (args:=s.args) om ‹s.args[0]? = some _› om; grind)|(have q:=Uz (ds:=n.decls) (us:=us) (args:=s.args) om ‹s.args[0]? = some _› om ‹us[_]? = some _›; grind))))))
  refine Z2 1 (ib (b:=((s.num != 0)&&(!VC s.op))) 17 (fun V9=>?_) (fun V9=>?_))
  ·have KH:(s.num≠0)/\(¬(VC s.op=true)):=((YB Yn (YD Iff.rfl))).1 V9
   exact Z2 5 (Yu (wk [0,0] (Zs true V9 fl)) hj2)
  have KI:¬((s.num≠0)/\(¬(VC s.op=true))):=Yc (YB Yn (YD Iff.rfl)) V9
  exact ZM 2 [0] (Zz [] (Zcn us s) (Z2 2 (Yu (wk [0,0] (Zs (!Uk us s.op s.into) V9 fl)) hj2)))
 refine ZM 4 [0] (ib (b:=(s.num != 0)) 11 (fun Va=>?_) (fun Va=>?_))
 ·have AR:s.num≠0:=(Yn).1 Va
  exact ZM 2 [0] (Zz [] (Zc4 s.op) (Z2 2 (Yu (wk [0,0] (Zs (!VC s.op) Va fl)) hj1)))
 have Jf:¬(s.num≠0):=Yc Yn Va
 exact Z2 5 (Yu (wk [0,0] (Zs false Va fl)) hj1)
theorem Zbz (n:Zp) (us:LI) (b:Z8) (hn:X0 n:=by exact ob) (hb:us.length+4*b.sz<=1000000000:=by exact ob) (ih:∀(s:Z5) (us:LI),(s.sz<b.sz)->(us.length+4*s.sz<=1000000000)->Zi 164 [Yl n,Z4 us,YF s] [] (Yk (.i (Ya n us s)))):Zi 128 [Yl n,Z4 us,ZZ b] [] (Yk (.i (Xi n us b))):=by
 have hbz:=U0 b
 have hbe:=En n us b
 refine ZF 52 Tryz.func128 (ar (iA (YR n) fun b1=>iA (Xg b) fun b2=>Z0 (Y6 1 (ic [] (Ui us) ?_))))
 rintro _ _ ⟨v1,rfl,rfl⟩
 refine Z0 (Yb (ab 0 (Y3 (fun fz gz m F h=>∃(k:Nat) (vs:LI) (v:Value),(k<=b.steps.length)/\(vs.length<=us.length+k)/\(Ws n (b.steps.drop k) vs=Ws n b.steps us)/\F=sF [3,5] fz [(7,ZV vs v),(8,.i k)]/\h=[Zc gz 1,Zc gz 2,.tail v 1]/\m=b.steps.length-k) _ _ _ ⟨0,us,v1,ob,ob,ob,rfl,rfl,rfl⟩ (wk [1,1,0] (fr (Y9 fl))) ?_)))
 rintro m F h ⟨k,vs,v,Yf,Zh,Zw,rfl,rfl,rfl⟩
 refine Yi 3 [0] (iw (VT b.steps) (Y1 ((k:Int)<(b.steps.length:Int)) (fun Za=>?_) (fun Za=>?_)))
 ·refine ak (aq (ab 1 (aD 9 (ZI 4 9 [0,1,2,3,4] [1,0] ?_))))
  obtain ⟨x1,Z3⟩:=Zr b.steps k om
  have hss:=C1 Z3
  refine dx 5 (Zj none (k:Int) 5 (WL Z3)) (Yt 2 3 [6] [(20,Z4 vs)] (Z9 7 (Yo 7 [] [] [] (ih x1 vs ob ob) (Zk 0 1 [8] (de (X2 (Y1 ((Ya n vs x1)<0) (fun Zg=>?_) (fun Zg=>?_))))))))
  ·refine ZE ?_
   rw [Y5 Z3] at Zw
   exact ZD (ZY (.i (-1)) (li (by clear Z3;first|rfl|omega|grind [Ws])))
  refine ak (Zv 3 [0] (Zm (Zj none (k:Int) 5 (WL Z3)) (Z2 2 (Zz [] (KR x1.op) (ie (Jv (fun fz gz F h=>∃(w:Value),F=sF [3,5,8] fz [(7,ZV (if XL x1.op=true then vs++[Ya n vs x1] else vs) w)]/\h=[Zc gz 0,Zc gz 1,.tail w 1]) (fun _ _=>rfl) ?_ ?_))))))
  ·refine ac (XL x1.op) Iff.rfl (fun ZC=>?_) (fun ZC=>?_)
   ·exact az (Z2 2 (iL (Z6 [Ya n vs x1]) 1 1 fun v2=>ZQ 0 [(38,Z4 [Ya n vs x1])] (ip 3 (Z6 (vs++[Ya n vs x1])) (Z6 vs) (Z6 [Ya n vs x1]) v none 1 (Yy _) (Yy _) (XZ _) (by simp<;>omega) (by simp [XY,Z6]) fun v3=>Z0 (ZO ⟨v3,rfl,rfl⟩ (wk [2,2,0] (fc (x:=ZV (vs++[Ya n vs x1]) v3) (Zd.slh _ (Ym Z6 (by first|rfl|(rw [Ze ZC])|(rw [Z7 ZC])|(simp [ZC];done)|(rw [Xq];simp [ZC];done)|omega))) fl))))))
   exact ak (ZO ⟨v,rfl,rfl⟩ (ZG 3 (fc (x:=ZV vs v) (Zd.slh _ (Ym Z6 (by first|rfl|(rw [Ze ZC])|(rw [Z7 ZC])|(simp [ZC];done)|(rw [Xq];simp [ZC];done)|omega))) fl)))
  rintro F h ⟨w,rfl,rfl⟩
  refine az (Z2 1 (ZJ k (Z0 ?_)))
  have hdr:=Y5 Z3
  exact ZL ⟨k+1,(if XL x1.op=true then vs++[Ya n vs x1] else vs),w,ob,(by split<;>(try simp)<;>omega),(by rw [hdr] at Zw;clear hdr Z3;grind [Ws]),rfl,rfl,rfl⟩ (ZG 3 (fr (ZP k fl)))
 refine ax 0 (Yi 3 [0] (iw (Y8 vs) (ia (((vs.length:Int)-1)) (((vs.length:Int))-(1)) (Zz [] (Ti b.result 0 ((vs.length:Int)-1)) (YC (!(decide (0<=b.result/\b.result<=((vs.length:Int)-1)))) (p:=¬(0<=b.result/\b.result<=((vs.length:Int)-1))) (YD dq) (fun Yd=>?_) (fun Yd=>?_))))))
 ·refine ZE ?_
  try rw [Xe (xs:=b.steps) (k:=k) om] at Zw
  exact ZD (ZY (.i (-1)) (li (by rw [hbe,<-Zw];show _=(Xz vs b.result).getD (-1);rw [K7 Yd];rfl)))
 refine ak (Zv 3 [0] ?_)
 obtain ⟨x2,Zu⟩:=Zr vs b.result.toNat om
 refine Zm (Zj (some v) b.result 1 (Y0 Zu)) (Z0 ?_)
 try rw [Xe (xs:=b.steps) (k:=k) om] at Zw
 exact ZD (ZY (.i x2) (li (by rw [hbe,<-Zw];show _=(Xz vs b.result).getD (-1);rw [TX om Zu];rfl)))
theorem Zcj (b:Z8) (l:Int) (hb:b.sz<=1000000000) (hl:0<=l/\l<=600) (ih:∀(b2:Z8) (l:Int),(b2.sz<b.sz)->(0<=l/\l<=600)->Zi 103 [ZZ b2,.i l] [] (Yk (.i (WG b2 l)))):Zi 103 [ZZ b,.i l] [] (Yk (.i (WG b l))):=by
 have hbz:=U0 b
 have hbe:=OF b l
 refine ZF 43 Tryz.func103 (ar (iA (Xg b) fun b1=>?_))
 refine Z0 (Yb (ab 0 (Y3 (fun fz gz m F h=>∃(k:Nat) (q:Int),(k<=b.steps.length)/\(0<=q/\q<=600)/\(TN (b.steps.drop k) q=TN b.steps l)/\F=sF [2] fz [(1,.i q),(5,.i k)]/\h=gz/\m=b.steps.length-k) _ _ _ ⟨0,l,ob,ob,ob,rfl,rfl,rfl⟩ (wk [0] (fr (Y9 fl))) ?_)))
 rintro m F h ⟨k,q,Yf,Zh,Zw,rfl,rfl,rfl⟩
 refine Yi 3 [0] (iw (VT b.steps) (Y1 ((k:Int)<(b.steps.length:Int)) (fun Za=>?_) (fun Za=>?_)))
 ·refine ak (aq (ab 1 (X2 (Y1 (q<1) (fun Zg=>?_) (fun Zg=>?_)))))
  ·refine ZE ?_
   try rw [Xe (xs:=b.steps) (k:=k) om] at Zw
   obtain ⟨x1,Z3⟩:=Zr b.steps k om
   rw [Y5 Z3] at Zw
   clear Z3
   exact ZD (ZY (.i (-1)) (li (by first|rfl|omega|grind [TN])))
  obtain ⟨s1,hxs1⟩:=Zr b.steps k om
  have hss:=JJ hxs1
  have hkz:=Tv s1
  refine ak (Y6 1 (ia ((q-1)) ((q)-(1)) (Z0 (ZE (ab 2 (Y3 (fun fz gz m F h=>∃(j:Nat) (j2:Int),(j<=s1.kids.length)/\(0<=j2/\j2<=600)/\(Q7 (s1.kids.drop j) j2=Q7 s1.kids (q-1))/\F=sF [2,5] fz [(1,.i j2),(6,.i j)]/\h=gz/\m=s1.kids.length-j) _ _ _ ⟨0,(q-1),ob,ob,ob,rfl,rfl,rfl⟩ (wk [0] (fr (Y9 fl))) ?_))))))
  rintro m F h ⟨j,j2,Um,XV,XO,rfl,rfl,rfl⟩
  refine Yi 4 [0] (Zm (Zj none (k:Int) 5 (WL hxs1)) (Z2 2 (iw (Ub s1.kids) (Y1 ((j:Int)<(s1.kids.length:Int)) (fun ZC=>?_) (fun ZC=>?_)))))
  ·refine ak (aq (ab 3 (Zv 3 [0] (Zm (Zj none (k:Int) 5 (WL hxs1)) (Z2 3 ?_)))))
   obtain ⟨x1,Z3⟩:=Zr s1.kids j om
   have hks:=Tt Z3
   have hle:=Io.2 x1 j2 om
   refine Zm (Zj none (j:Int) 2 (UN Z3)) (Z2 2 (Zz [] (ih x1 j2 ob ob) (Z0 (ar (Y1 ((WG x1 j2)<0) (fun Yd=>?_) (fun Yd=>?_))))))
   ·refine ZE ?_
    rw [Y5 hxs1] at Zw
    rw [Y5 Z3] at XO
    have hls:=Ft s1 (q-1)
    exact ZD (ZY (.i (-1)) (li (by clear Z3 hxs1;first|rfl|omega|grind [TN,Q7])))
   refine ak (az (Z2 1 (ZJ j (Z0 ?_))))
   have hdr:=Y5 Z3
   exact ZL ⟨j+1,(WG x1 j2),ob,ob,(by rw [hdr] at XO;clear hdr Z3 hxs1;grind [Q7]),rfl,rfl,rfl⟩ (wk [0] (fr (ZP j fl)))
  refine ax 2 (az (Z2 1 (ZJ k (Z0 ?_))))
  rw [Xe om] at XO
  have hls:=Ft s1 (q-1)
  rw [Q7] at XO
  have hdr:=Y5 hxs1
  exact ZL ⟨k+1,j2,ob,ob,(by rw [hdr] at Zw;clear hdr hxs1;grind [TN]),rfl,rfl,rfl⟩ (wk [0] (fr (ZP k fl)))
 refine ax 0 (ZE ?_)
 try rw [Xe (xs:=b.steps) (k:=k) om] at Zw
 exact ZD (ZY (.i q) (li (by first|rfl|omega|grind [TN])))
theorem Zci (b:Z8) (l:Int) (hb:b.sz<=1000000000) (hl:0<=l/\l<=600):Zi 103 [.agg [.sl (Zy b.steps) none,.i b.result],.i l] [] (Yk (.i (WG b l))):=by
 have key:∀m:Nat,∀(b:Z8) (l:Int),b.sz<=m->b.sz<=1000000000->(0<=l/\l<=600)->Zi 103 [.agg [.sl (Zy b.steps) none,.i b.result],.i l] [] (Yk (.i (WG b l))):=by
  intro m
  induction m with
  | zero=>intro b l h;have:=b.sz_pos;omega
  | succ m ih=>intro b l h1 h2 h3;exact Zcj b l h2 h3 fun b2 l2 k1 k2=>ih b2 l2 om om k2
 exact key b.sz b l (X4 _) hb hl
theorem Zby (n:Zp) (hn:X0 n) (m:Nat):∀(b:Z8) (us:LI),(b.sz<=m)->(us.length+4*b.sz<=1000000000)->Zi 128 [Yl n,Z4 us,ZZ b] [] (Yk (.i (Xi n us b))):=by
 induction m with
 | zero=>intro b us h;have:=b.sz_pos;omega
 | succ m ih=>intro b us h1 h2;exact Zbz n us b hn h2 fun s us2 k1 k2=>Ro n us2 s hn k2 fun b2 us3 q1 q2=>ih b2 us3 om q2
theorem Re (n:Zp) (us:LI) (b:Z8) (hn:X0 n) (hb:us.length+4*b.sz<=1000000000):Zi 128 [Yl n,Z4 us,ZZ b] [] (Yk (.i (Xi n us b))):=
 Zby n hn b.sz b us (X4 _) hb
theorem Ll (n:Zp) (us:LI) (s:Z5) (hn:X0 n) (hb:us.length+4*s.sz<=1000000000):Zi 164 [Yl n,Z4 us,YF s] [] (Yk (.i (Ya n us s))):=
 Ro n us s hn hb fun b2 us3 _ q2=>Re n us3 b2 hn q2
theorem Zck (b:Z8) (hb:b.sz<=1000000000:=by exact ob):Zi 66 [ZZ b] [] (Yk (.i (TF b))):=by
 have hle:=Io.2 b 600 om
 refine ZF 10 Tryz.func66 (ar (iA (Xg b) fun b1=>Z0 (Zv 1 [0] (Zz [] (Zci b 600 ob ob) (Z0 (X2 (Y1 ((WG b 600)<0) (fun Za=>?_) (fun Za=>?_))))))))
 ·exact ar (Zq (ZY (.i (-1)) (li (by first|rfl|omega|grind [TF]))))
 exact ak (Y6 1 (ia ((600-(WG b 600))) ((600)-(WG b 600)) (Zq (ZY (.i (600-(WG b 600))) (li (by first|rfl|omega|grind [TF]))))))
theorem A8 (z:Int) :Zi 226 [.i z] [] (Yk (Y2 (Z1.mk 0 z []))):=by
 exact ZF 6 Tryz.func226 (ar (iA [.i 0,.i 0,nl] fun b1=>ie (Y6 1 (iL (Yq []) 0 3 fun v1=>Z2 1 (ZH 1 b1 [.i 0,.i z,Ql [] v1] (ie (ZD (r3 [] [.agg [.i 0,.i z,Ql [] v1]] [0] [(b1,b1)] ⟨rfl,rfl⟩ (Zd.agg (.cons li (.cons li (.cons (Zd.sl _ (Ym Yq rfl)) .nil))))))))))))
theorem Q1 (z:Int) :Zi 273 [.i z] [] (Yk (Y2 (Z1.mk 12 z []))):=by
 exact ZF 6 Tryz.func273 (ar (iA [.i 0,.i 0,nl] fun b1=>ie (Y6 1 (iL (Yq []) 0 3 fun v1=>Z2 1 (ZH 1 b1 [.i 12,.i z,Ql [] v1] (ie (ZD (r3 [] [.agg [.i 12,.i z,Ql [] v1]] [0] [(b1,b1)] ⟨rfl,rfl⟩ (Zd.agg (.cons li (.cons li (.cons (Zd.sl _ (Ym Yq rfl)) .nil))))))))))))
theorem XM (op:Int) (nm:Int) (ks:List Z1) :Zi 271 [.i op,.i nm,Xx ks] [] (Yk (Y2 (Z1.mk op nm ks))):=by
 exact ZF 11 Tryz.func271 (ar (iA [.i 0,.i 0,nl] fun b1=>ie (Y6 4 (ZH 0 b1 [.i op,.i nm,Xx ks] (ie (ZD (r3 [] [.agg [.i op,.i nm,Xx ks]] [0] [(b1,b1)] ⟨rfl,rfl⟩ (Zd.agg (.cons li (.cons li (.cons (Zd.sl _ (Ym Yq rfl)) .nil)))))))))))
theorem ND (rd:Nat) (bs:LI) (p:Nat) (ZK:∀z∈bs,0<=z/\z<=255) (hp:p+4<=1000000000:=by exact ob):Zi 294 [.p rd 0] [Yv rd bs p] (fun r h=>∃(z:Int),r=.i z/\h=[.obj rd [U8 bs,.i (p+4:Nat)]]/\-2000<=z/\z<=2000):=by
 refine ZF 12 Tryz.func294 (ZE (Y6 2 (ic [0] (Wb rd bs p 6 (ZK:=ob)) ?_)))
 rintro _ _ ⟨k1,rfl,rfl,ZX⟩
 have qhp1:=ZX.lt om
 refine Z2 1 (ic [0] (Wb rd bs (p+1) 6 (ZK:=ob)) ?_)
 rintro _ _ ⟨k2,rfl,rfl,Yh⟩
 have qhp2:=Yh.lt om
 refine Z2 1 (ic [0] (Wb rd bs ((p+1)+1) 40 (ZK:=ob)) ?_)
 rintro _ _ ⟨k3,rfl,rfl,YH⟩
 have qhp3:=YH.lt om
 refine iL (Z6 [k1,k2,0,1,2,-1,3,k3,999,-998]) 10 1 fun v1=>ZQ 0 [(10,Z4 [k1,k2,0,1,2,-1,3,k3,999,-998])] (ic [1] (VW rd bs (((p+1)+1)+1) [k1,k2,0,1,2,-1,3,k3,999,-998] (ZK:=ob)) ?_)
 rintro _ _ ⟨z1,rfl,rfl,YQ⟩
 exact Zq (r1 [0] ⟨z1,rfl,rfl,(by simp at YQ;omega)⟩)
theorem Ns (g:W4) (gb:Nat) (rs:List Func) (t:Int) (hg:GP g:=by exact ob) (Wk:g.funcs <+: rs:=by exact ob):Zi 306 [.agg (Wo g gb),.i t] [XJ gb rs] (fun r h=>∃(xs:LI),r=Z4 xs/\h=[XJ gb rs]/\xs.length<=4/\∀i∈xs,JO g t i):=by
 have hgl:=hg.len
 have hdl:=hg.decls.len
 refine ZF 53 Tryz.func306 (ar (iA (Wo g gb) fun b1=>Z0 (ar (iL (Z6 []) 0 1 fun v1=>?_))))
 refine Z0 (Yb (ab 0 (Y3 (fun fz gz m F h=>∃(k:Nat) (ys:LI) (u:Value),(k<=g.funcs.length)/\(ys.length<=k)/\(∀i∈ys,JO g t i)/\F=sF [1,2] fz [(5,ZV ys u),(6,.i k)]/\h=[Zc gz 1,Zc gz 2,.tail u 1]/\m=g.funcs.length-k) _ _ _ ⟨0,[],v1,ob,ob,(fun i hi=>by cases hi),rfl,rfl,rfl⟩ (wk [1,1,0] (fr (Y9 fl))) ?_)))
 rintro m F h ⟨k,ys,u,Yf,Zh,Zw,rfl,rfl,rfl⟩
 refine Yi 3 [0] (io (.i g.funcs.length) (.i g.funcs.length) (lr _) (Y1 ((k:Int)<(g.funcs.length:Int)) (fun Za=>?_) (fun Za=>?_)))
 ·refine ak (aq (ab 1 (Zv 3 [0] ?_)))
  obtain ⟨x1,Z3⟩:=Zr g.funcs k om
  have hso:=(hg.sigs _ (Y4 Z3)).bd
  refine Zm (Wj gb g.funcs.length 4 k 5 (k:Int)) (Z2 1 (V2 (Vl 1 gb 4 4 5 (k*5+0) (Zl (Xp rs)) [Z4 x1.params] 31 (Z4 x1.params) (UB Wk Z3 0 rfl (V5 rfl))) (iw (Y8 x1.params) (Z0 (aD 25 (Zk 22 25 [0,1,2] (db (b:=(decide ((x1.params.length:Int)>0))) 25 (fun Zb=>?_) (fun Zb=>?_))))))))
  ·have ZX:(x1.params.length:Int)>0:=(dq).1 Zb
   refine ZI 17 22 [3,4,5,6,7] [0,0] (dx 8 (Wj gb g.funcs.length 4 k 5 (k:Int)) (Zk 15 16 [9] (U5 10 (Vl 1 gb 4 4 5 (k*5+0) (Zl (Xp rs)) [Z4 x1.params] 31 (Z4 x1.params) (UB Wk Z3 0 rfl (V5 rfl))) (Zk 13 14 [11] (da 12 ((((x1.params.length-1):Nat):Int)) (((x1.params.length:Int))-(1)) ?_)))))
   obtain ⟨x2,Zu⟩:=Zr x1.params (x1.params.length-1) om
   refine dx 13 (Zj none (((x1.params.length-1):Nat):Int) 1 (Y0 Zu)) (ZI 7 11 [14,15,16,17] [0] (dx 18 (Wj gb g.funcs.length 4 k 5 (k:Int)) (Zk 5 6 [19] (U5 20 (Vl 1 gb 4 4 5 (k*5+1) (Zl (Xp rs)) [.i x1.result] 3 (.i x1.result) (UB Wk Z3 1 rfl (V5 rfl))) (Zk 3 4 [22] (Z9 21 (Yo 21 [] [] [] (Rd g.decls x2 x1.result) (Zk 0 2 [23,24] (de (ac ((Ua g.decls x2 x1.result)==t) Zo (fun Zg=>?_) (fun Zg=>?_)))))))))))
   ·exact az (Z2 2 (iL (Z6 [(k:Int)]) 1 1 fun v2=>ZQ 0 [(50,Z4 [(k:Int)])] (ip 3 (Z6 (ys++[(k:Int)])) (Z6 ys) (Z6 [(k:Int)]) u none 1 (Yy _) (Yy _) (XZ _) (by simp<;>omega) (by simp [XY,Z6]) fun v3=>Z0 (az (Z2 1 (ZJ k (Z0 (ZL ⟨k+1,(ys++[(k:Int)]),v3,ob,ob,(Xy Zw (JO.mk Z3 om Zu Zg)),rfl,rfl,rfl⟩ (wk [2,2,0] (fr (ZP k fl)))))))))))
   exact ak (az (Z2 1 (ZJ k (Z0 (ZL ⟨k+1,ys,u,ob,ob,ob,rfl,rfl,rfl⟩ (ZG 3 (fr (ZP k fl))))))))
  have Yh:¬((x1.params.length:Int)>0):=Yc dq Zb
  exact Zk 0 22 [3,4,5,6,7,8,9,10,11,12,13,14,15,16,17,18,19,20,21,22,23,24] (de (Wn (ak (az (Z2 1 (ZJ k (Z0 (ZL ⟨k+1,ys,u,ob,ob,ob,rfl,rfl,rfl⟩ (ZG 3 (fr (ZP k fl)))))))))))
 exact ax 0 (ar (Zq (r2 [1] [ZV ys u] ⟨ys,rfl,rfl,⟨by omega,Zw⟩⟩ (Zd.forget _ _))))
theorem Z5n (vs:LI) (t:Int) (hv:vs.length<=2000:=by exact ob):Zi 295 [Z4 vs,.i t] [] (fun r h=>∃(xs:LI),r=Z4 xs/\h=[]/\xs.length<=vs.length/\∀i∈xs,0<=i/\i<vs.length):=by
 refine ZF 25 Tryz.func295 (ZE (ar (iL (Z6 []) 0 1 fun v1=>?_)))
 refine Z0 (Yb (ab 0 (Y3 (fun fz gz m F h=>∃(k:Nat) (ys:LI) (u:Value),(k<=vs.length)/\(ys.length<=k)/\(∀i∈ys,0<=i/\i<vs.length)/\F=sF [0,1] fz [(5,ZV ys u),(6,.i k)]/\h=[.tail u 1]/\m=vs.length-k) _ _ _ ⟨0,[],v1,ob,ob,(fun i hi=>by cases hi),rfl,rfl,rfl⟩ (wk [0] (fr (Y9 fl))) ?_)))
 rintro m F h ⟨k,ys,u,Yf,Zh,Zw,rfl,rfl,rfl⟩
 refine YM 2 (iw (Y8 vs) (Y1 ((k:Int)<(vs.length:Int)) (fun Za=>?_) (fun Za=>?_)))
 ·refine ak (aq (ab 1 (Y6 2 ?_)))
  obtain ⟨x1,Z3⟩:=Zr vs k om
  refine Zm (Zj none (k:Int) 1 (Y0 Z3)) (YC (x1==t) Zo (fun Zg=>?_) (fun Zg=>?_))
  ·exact az (Z2 2 (iL (Z6 [(k:Int)]) 1 1 fun v2=>ZQ 0 [(22,Z4 [(k:Int)])] (ip 1 (Z6 (ys++[(k:Int)])) (Z6 ys) (Z6 [(k:Int)]) u none 1 (Yy _) (Yy _) (XZ _) (by simp<;>omega) (by simp [XY,Z6]) fun v3=>Z0 (az (Z2 1 (ZJ k (Z0 (ZL ⟨k+1,(ys++[(k:Int)]),v3,ob,ob,(Xy Zw om),rfl,rfl,rfl⟩ (wk [0] (fr (ZP k fl)))))))))))
  exact ak (az (Z2 1 (ZJ k (Z0 (ZL ⟨k+1,ys,u,ob,ob,ob,rfl,rfl,rfl⟩ (wk [0] (fr (ZP k fl))))))))
 exact ax 0 (ar (Zq (r2 [] [ZV ys u] ⟨ys,rfl,rfl,⟨by omega,Zw⟩⟩ (Zd.forget _ _))))
theorem F3 (g:W4) (gb:Nat) (rs:List Func) (vs:LI) (t:Int) (hg:GP g:=by exact ob) (Wk:g.funcs <+: rs:=by exact ob) (hv:vs.length<=2000:=by exact ob):Zi 296 [.agg (Wo g gb),Z4 vs,.i t] [XJ gb rs] (fun r h=>∃(w:Bool),r=.b w/\h=[XJ gb rs]):=by
 have Xr:=hg.decls.ok
 refine ZF 24 Tryz.func296 (ar (iA (Wo g gb) fun b1=>Z0 (Zv 3 [0] (Zz [] (E2 g.decls t) (Z2 2 (ib (b:=(!XT g.decls t)) 12 (fun Zb=>?_) (fun Zb=>?_)))))))
 ·exact Zq (r1 [1] ⟨true,rfl,rfl⟩)
 refine ZM 2 [0] (ic [1] (Ns g gb rs t) ?_)
 rintro _ _ ⟨xs1,rfl,rfl,YH⟩
 have qhp3:=YH.1
 refine iw (Y8 xs1) (Z2 3 (ib (b:=(decide ((xs1.length:Int)>0))) 19 (fun ZB=>?_) (fun ZB=>?_)))
 ·exact Zq (r1 [0] ⟨true,rfl,rfl⟩)
 exact Z2 2 (Zz [] (UF vs t) (Zq (r1 [0] ⟨(decide (t∈vs)),rfl,rfl⟩)))
theorem Z5e (rd:Nat) (bs:LI) (p:Nat) (g:W4) (gb:Nat) (rs:List Func) (t:Int) (ZK:∀z∈bs,0<=z/\z<=255) (hp:p+5+15*rk t<=1000000000) (hg:GP g) (Wk:g.funcs <+: rs) (ih:∀(rd:Nat) (bs:LI) (p:Nat) (t2:Int),(∀z∈bs,0<=z/\z<=255)->(p+5+15*rk t2<=1000000000)->(rk t2<rk t)->Zi 297 [.p rd 0,.agg (Wo g gb),.i t2] [Yv rd bs p,XJ gb rs] (fun r h=>∃(e:Z1) (p2:Nat),r=Y2 e/\h=[Yv rd bs p2,XJ gb rs]/\SE g (1+3*rk t2) e/\p<=p2/\p2<=p+5+15*rk t2)):Zi 297 [.p rd 0,.agg (Wo g gb),.i t] [Yv rd bs p,XJ gb rs] (fun r h=>∃(e:Z1) (p2:Nat),r=Y2 e/\h=[Yv rd bs p2,XJ gb rs]/\SE g (1+3*rk t) e/\p<=p2/\p2<=p+5+15*rk t):=by
 have Xr:=hg.decls.ok
 have hgl:=hg.len
 have hrk:=IT t
 refine ZF 118 Tryz.func297 (ar (iA (Wo g gb) fun b1=>iA [.i 0,.i 0,nl] fun b2=>ie (Zv 3 [1] (ic [] (JH g.decls t) ?_))))
 rintro _ _ ⟨v1,rfl,rfl⟩
 refine Z0 (YM 1 (io (.i (((ZW g.decls t).length:Nat):Int)) (.i (((Z6 (ZW g.decls t)).length:Nat):Int)) (li (by rw [Y8])) (Y1 ((((ZW g.decls t).length:Nat):Int)>0) (fun Za=>?_) (fun Za=>?_))))
 ·refine Y6 1 ?_
  obtain ⟨x1,Z3⟩:=Zr (ZW g.decls t) 0 om
  refine Zm (Zj (some v1) 0 1 (Y0 Z3)) (Z0 (aq (aq (XK (fun fz gz F h=>∃(w1:Bool) (p5:Nat),(w1=true->1<(ZW g.decls t).length)/\(p<=p5/\p5<=p+1)/\F=sF [0,2,4,6,8] fz [(7,Z4 (ZW g.decls t)),(34,.b w1)]/\h=[Zc gz 1,Zc gz 2,Yv rd bs p5,Zc gz 4]) ?_ ?_))))
  ·refine az (Z2 1 (io (.i (((ZW g.decls t).length:Nat):Int)) (.i (((Z6 (ZW g.decls t)).length:Nat):Int)) (li (by rw [Y8])) (Z2 2 (ib (b:=(decide ((((ZW g.decls t).length:Nat):Int)>1))) 30 (fun Zb=>?_) (fun Zb=>?_)))))
   ·have ZX:(((ZW g.decls t).length:Nat):Int)>1:=(dq).1 Zb
    refine Z2 1 (ic [3] (Wb rd bs p 4 (ZK:=ob)) ?_)
    rintro _ _ ⟨k1,rfl,rfl,Yh⟩
    have qhp2:=Yh.lt om
    exact Z0 (ZO ⟨(k1==0),p+1,(by first|exact (fun h=>by cases h)|exact fun _=>by omega),ob,rfl,rfl⟩ (wk [2,2,0,1] fl))
   have YH:¬((((ZW g.decls t).length:Nat):Int)>1):=Yc dq Zb
   exact Z0 (ZO ⟨false,p,(by first|exact (fun h=>by cases h)|exact fun _=>by omega),ob,rfl,rfl⟩ (wk [1,1,1,1] fl))
  rintro F h ⟨w1,p5,kR4_0,kR4_1,rfl,rfl⟩
  refine XK (fun fz gz F h=>∃(c1:Int),(c1∈ZW g.decls t)/\F=sF [0,2,4,6,7] fz [(8,.i c1)]/\h=gz) ?_ ?_
  ·refine ac w1 Iff.rfl (fun Zg=>?_) (fun Zg=>?_)
   ·refine az (Z2 1 ?_)
    obtain ⟨x2,Zu⟩:=Zr (ZW g.decls t) 1 (kR4_0 (by assumption))
    exact Zm (Zj none 1 1 (Y0 Zu)) (Z0 (ZO ⟨x2,(Y4 Zu),rfl,rfl⟩ (ZG 4 fl)))
   exact ak (ZO ⟨x1,(Y4 Z3),rfl,rfl⟩ (ZG 4 fl))
  rintro F h ⟨c1,VY,rfl,rfl⟩
  have hcf:=U4 Xr c1
  refine Yi 3 [1] (Zz [] (Ki g.decls c1) (Z2 1 (Zz [] (UF (ZU g.decls c1) t) (ie (XK (fun fz gz F h=>∃(c2:Int),(Az g.decls t c2)/\F=sF [0,4,6] fz [(8,.i c2)]/\h=gz) ?_ ?_)))))
  ·refine XX (t∈(ZU g.decls c1)) (fun ZC=>?_) (fun ZC=>?_)
   ·exact az (Z2 1 (Zm (Zj none 0 1 (Y0 Z3)) (Z0 (ZO ⟨x1,(Zb6 hg.decls VY (by assumption) Z3),rfl,rfl⟩ (ZG 4 fl)))))
   exact ak (ZO ⟨c1,(Zb5 hg.decls VY (by assumption)),rfl,rfl⟩ (ZG 4 fl))
  rintro F h ⟨c2,CA,rfl,rfl⟩
  obtain ⟨NK,TD,Ad⟩:=CA
  refine ar (iL (Yq []) 0 3 fun v2=>?_)
  refine Z0 (Zv 3 [2] (Zz [] (Ki g.decls c2) (Z0 (Yb (ab 0 (Y3 (fun fz gz m F h=>∃(k:Nat) (ys:List Z1) (u:Value) (pq:Nat),(k<=(ZU g.decls c2).length)/\(ys.length=k)/\(∀e∈ys,SE g 1 e)/\(p<=pq/\pq<=p+1+5*k)/\F=sF [0,4,6,8,10] fz [(9,Ql ys u),(11,.i k)]/\h=[Zc gz 1,Zc gz 2,Yv rd bs pq,Zc gz 4,.tail u 3]/\m=(ZU g.decls c2).length-k) _ _ _ ⟨0,[],v2,p5,ob,ob,(fun e he=>by cases he),ob,rfl,rfl,rfl⟩ (wk [1,1,1,1,0] (fr (Y9 fl))) ?_))))))
  rintro m F h ⟨k,ys,u,pq,Yf,Zh,Zw,Yp,rfl,rfl,rfl⟩
  refine YM 2 (io (.i (((ZU g.decls c2).length:Nat):Int)) (.i (((Z6 (ZU g.decls c2)).length:Nat):Int)) (li (by rw [Y8])) (Y1 ((k:Int)<(((ZU g.decls c2).length:Nat):Int)) (fun Yd=>?_) (fun Yd=>?_)))
  ·refine ak (aq (ab 1 (aE 11 (ZI 6 11 [0,1,2,3,4] [1] ?_))))
   obtain ⟨x3,YN⟩:=Zr (ZU g.decls c2) k om
   have hz3:=Pu (Ad _ (Y4 YN))
   refine dx 5 (Zj none (k:Int) 1 (Y0 YN)) (Zk 4 5 [6] (Z9 7 (dc 7 [2,2] [] [] (ih rd bs pq x3 ob ob om) ?_)))
   rintro _ _ ⟨e1,p21,rfl,rfl,YQ⟩
   have hse:=YQ.1
   rw [hz3] at hse
   exact Z9 8 (Wy 8 [] [] [Y2 e1] (Yq [e1]) (XI [e1]).symm 1 3 fun v3=>Yt 2 2 [] [(66,Xx [e1])] (Z9 9 (dp 9 5 [] [] (Yq (ys++[e1])) (Yq ys) (Yq [e1]) u none 3 (T8 _) (T8 _) (JA _) (by simp<;>omega) (by simp [Jz,Yq]) fun v4=>Zk 0 1 [10] (de (az (Z2 1 (ZJ k (Z0 (ZL ⟨k+1,(ys++[e1]),v4,p21,ob,ob,(Xy Zw hse),ob,rfl,rfl,rfl⟩ (wk [4,4,2,2,0] (fr (ZP k fl))))))))))))
  exact ax 0 (ar (ZQ 2 [(69,Xx ys)] (Zz [] (XM 6 c2 ys) (ZH 0 b2 (YX (Z1.mk 6 c2 ys)) (ie (ZD (r3 [2,2] [Y2 (Z1.mk 6 c2 ys)] [0] [(b2,b2)] ⟨(Z1.mk 6 c2 ys),pq,rfl,rfl,⟨SE.node (k:=3*rk t) (.inl rfl) om Zw om om om,by omega⟩⟩ (lr _))))))))
 refine ak (Zv 2 [2] (ic [4] (Ns g gb rs t) ?_))
 rintro _ _ ⟨xs1,rfl,rfl,Xa⟩
 have hcl:=Xa.2
 have hcn:=Xa.1
 refine Z0 (X2 (Xo [0,4,6,12] [(80,.b ((decide (t>0))&&(decide ((xs1.length:Int)>0))))] (fun gz=>gz) ?_ ?_))
 ·refine Z2 3 (ib (b:=(decide (t>0))) 76 (fun ZB=>?_) (fun ZB=>?_))
  ·have XP:t>0:=(dq).1 ZB
   exact Z2 1 (iw (Y8 xs1) (Z0 (ZG 5 (Zs (decide ((xs1.length:Int)>0)) ZB fl))))
  have Wr:¬(t>0):=Yc dq ZB
  exact Z0 (ZG 5 (Zs false ZB fl))
 refine ac ((decide (t>0))&&(decide ((xs1.length:Int)>0))) (p:=(t>0)/\((xs1.length:Int)>0)) (YB dq dq) (fun Xf=>?_) (fun Xf=>?_)
 ·refine Y6 3 (iw (Y8 xs1) (ic [4] (Wb rd bs p (xs1.length:Int) (ZK:=ob)) ?_))
  rintro _ _ ⟨k2,rfl,rfl,WT⟩
  have qhp8:=WT.lt om
  obtain ⟨x4,Vs⟩:=Zr xs1 k2.toNat om
  have hclo:=hcl _ (Y4 Vs)
  have hcb:=hclo.lt
  refine Zm (Zj none k2 1 (Y0 Vs)) (Z0 (Zv 3 [4] ?_))
  obtain ⟨x5,Ue⟩:=Zr g.funcs x4.toNat om
  have hso:=(hg.sigs _ (Y4 Ue)).bd
  have hr1:=Za6 (t:=t) hg.decls om om
  have hfu:=Ue
  refine Zm (Wj gb g.funcs.length 4 x4.toNat 5 x4) (Z2 1 (V2 (Vl 1 gb 4 4 5 (x4.toNat * 5+0) (Zl (Xp rs)) [Z4 x5.params] 31 (Z4 x5.params) (UB Wk Ue 0 rfl (V5 rfl))) (Z0 (ar (iL (Yq []) 0 3 fun v5=>?_)))))
  refine Z0 (Yb (ab 2 (Y3 (fun fz gz m F h=>∃(k:Nat) (ys:List Z1) (u:Value) (pq:Nat),(k<=x5.params.length)/\(ys.length=k)/\(∀e∈ys,SE g 1 e)/\(p<=pq/\pq<=p+1+5*k)/\F=sF [0,4,6,13,14] fz [(15,Ql ys u),(16,.i k)]/\h=[Yv rd bs pq,Zc gz 2,Zc gz 4,Zc gz 5,.tail u 3]/\m=x5.params.length-k) _ _ _ ⟨0,[],v5,p+1,ob,ob,(fun e he=>by cases he),ob,rfl,rfl,rfl⟩ (wk [1,1,2,2,0] (fr (Y9 fl))) ?_)))
  rintro m F h ⟨k,ys,u,pq,Um,XV,XO,J4,rfl,rfl,rfl⟩
  refine YM 1 (ZJ k (Z2 1 (iw (Y8 x5.params) (Y1 (((k+1:Nat):Int)<(x5.params.length:Int)) (fun Xb=>?_) (fun Xb=>?_)))))
  ·refine ak (aq (ab 3 (aE 11 (ZI 6 11 [0,1,2,3,4] [3] ?_))))
   obtain ⟨x6,BO⟩:=Zr x5.params k om
   have hz3:=hclo.low hg om hfu om BO
   refine dx 5 (Zj none (k:Int) 1 (Y0 BO)) (Zk 4 5 [6] (Z9 7 (dc 7 [0,0] [] [] (ih rd bs pq x6 ob ob om) ?_)))
   rintro _ _ ⟨e2,p22,rfl,rfl,Ve⟩
   have hse:=Ve.1
   rw [hz3] at hse
   exact Z9 8 (Wy 8 [] [] [Y2 e2] (Yq [e2]) (XI [e2]).symm 1 3 fun v6=>Yt 2 2 [] [(110,Xx [e2])] (Z9 9 (dp 9 5 [] [] (Yq (ys++[e2])) (Yq ys) (Yq [e2]) u none 3 (T8 _) (T8 _) (JA _) (by simp<;>omega) (by simp [Jz,Yq]) fun v7=>Zk 0 1 [10] (de (az (Z2 1 (ZJ k (Z0 (ZL ⟨k+1,(ys++[e2]),v7,p22,ob,ob,(Xy XO hse),ob,rfl,rfl,rfl⟩ (wk [2,2,2,2,0] (fr (ZP k fl))))))))))))
  exact ax 2 (ar (ZQ 2 [(113,Xx ys)] (Zz [] (XM 10 x4 ys) (ZH 2 b2 (YX (Z1.mk 10 x4 ys)) (ie (ZD (r3 [1,1] [Y2 (Z1.mk 10 x4 ys)] [0] [(b2,b2)] ⟨(Z1.mk 10 x4 ys),pq,rfl,rfl,⟨SE.node (k:=3) (.inr rfl) om XO om om om,by omega⟩⟩ (lr _))))))))
 refine ak (Y6 1 (ic [4] (ND rd bs p (ZK:=ob)) ?_))
 rintro _ _ ⟨z1,rfl,rfl,UD⟩
 exact Zz [] (A8 z1) (ZH 3 b2 (YX (Z1.mk 0 z1 [])) (ie (ZD (r3 [1,1] [Y2 (Z1.mk 0 z1 [])] [0] [(b2,b2)] ⟨(Z1.mk 0 z1 []),p+4,rfl,rfl,⟨SE.int om om,by omega⟩⟩ (lr _)))))
theorem Z5d (rd:Nat) (bs:LI) (p:Nat) (g:W4) (gb:Nat) (rs:List Func) (t:Int) (ZK:∀z∈bs,0<=z/\z<=255) (hp:p+5+15*rk t<=1000000000:=by exact ob) (hg:GP g:=by exact ob) (Wk:g.funcs <+: rs:=by exact ob):Zi 297 [.p rd 0,.agg (Wo g gb),.i t] [Yv rd bs p,XJ gb rs] (fun r h=>∃(e:Z1) (p2:Nat),r=Y2 e/\h=[Yv rd bs p2,XJ gb rs]/\SE g (1+3*rk t) e/\p<=p2/\p2<=p+5+15*rk t):=by
 have key:∀k:Nat,∀(rd:Nat) (bs:LI) (p:Nat) (t2:Int),(∀z∈bs,0<=z/\z<=255)->(p+5+15*rk t2<=1000000000)->(rk t2<k)->Zi 297 [.p rd 0,.agg (Wo g gb),.i t2] [Yv rd bs p,XJ gb rs] (fun r h=>∃(e:Z1) (p2:Nat),r=Y2 e/\h=[Yv rd bs p2,XJ gb rs]/\SE g (1+3*rk t2) e/\p<=p2/\p2<=p+5+15*rk t2):=by
  intro k
  induction k with
  | zero=>intro rd bs p t2 h1 h2 h3;omega
  | succ k ih=>intro rd bs p t2 h1 h2 h3;exact Z5e rd bs p g gb rs t2 h1 h2 hg Wk fun rd bs p t3 q1 q2 q3=>ih rd bs p t3 q1 q2 om
 exact key 2 rd bs p t ZK hp (by have:=IT t;omega)
theorem Cq (rd:Nat) (bs:LI) (p:Nat) (g:W4) (gb:Nat) (rs:List Func) (vs:LI) (t:Int) (ZK:∀z∈bs,0<=z/\z<=255) (hp:p+30<=1000000000:=by exact ob) (hg:GP g:=by exact ob) (Wk:g.funcs <+: rs:=by exact ob) (hv:vs.length<=2000:=by exact ob):Zi 274 [.p rd 0,.agg (Wo g gb),Z4 vs,.i t] [Yv rd bs p,XJ gb rs] (fun r h=>∃(e:Z1) (p2:Nat),r=Y2 e/\h=[Yv rd bs p2,XJ gb rs]/\GE g vs.length 4 e/\p<=p2/\p2<=p+30):=by
 have hrk:=IT t
 refine ZF 40 Tryz.func274 (ar (iA (Wo g gb) fun b1=>iA [.i 0,.i 0,nl] fun b2=>ie (Y6 2 (ic [] (Z5n vs t) ?_))))
 rintro _ _ ⟨xs1,rfl,rfl,ZX⟩
 have hxs:=ZX
 refine Z0 (aq (aq (XK (fun fz gz F h=>∃(wb:Bool) (p5:Nat),(wb=true->0<xs1.length)/\(p<=p5/\p5<=p+1)/\F=sF [0,3,5,8,9] fz [(27,.b wb)]/\h=[Zc gz 0,Zc gz 1,Yv rd bs p5,Zc gz 3]) ?_ ?_)))
 ·refine az (Z2 1 (iw (Y8 xs1) (Z2 2 (ib (b:=(decide ((xs1.length:Int)>0))) 16 (fun Zb=>?_) (fun Zb=>?_)))))
  ·have Yh:(xs1.length:Int)>0:=(dq).1 Zb
   refine Z2 1 (ic [2] (Wb rd bs p 6 (ZK:=ob)) ?_)
   rintro _ _ ⟨k1,rfl,rfl,YH⟩
   have qhp3:=YH.lt om
   refine Z2 2 (ib (b:=(decide (k1>0))) 20 (fun ZB=>?_) (fun ZB=>?_))
   ·have YQ:k1>0:=(dq).1 ZB
    exact Z0 (ZO ⟨true,p+1,(by first|exact (fun h=>Bool.noConfusion h)|exact fun _=>by omega),ob,rfl,rfl⟩ (wk [1,1,0,0] fl))
   have Xa:¬(k1>0):=Yc dq ZB
   refine ZM 1 [2] (iL (Z6 []) 0 1 fun v1=>ZQ 1 [(22,Z4 [])] (ic [4] (F3 g gb rs [] t) ?_))
   rintro _ _ ⟨w1,rfl,rfl⟩
   exact Z0 (ZO ⟨(!w1),p+1,(by first|exact (fun h=>Bool.noConfusion h)|exact fun _=>by omega),ob,rfl,rfl⟩ (wk [3,3,2,0] fl))
  have XP:¬((xs1.length:Int)>0):=Yc dq Zb
  exact Z0 (ZO ⟨false,p,(by first|exact (fun h=>Bool.noConfusion h)|exact fun _=>by omega),ob,rfl,rfl⟩ (ZG 4 fl))
 rintro F h ⟨wb,p5,kR2_0,kR2_1,rfl,rfl⟩
 refine ac wb Iff.rfl (fun Za=>?_) (fun Za=>?_)
 ·have hk0:=kR2_0 Za
  refine Y6 3 (iw (Y8 xs1) (ic [2] (Wb rd bs p5 (xs1.length:Int) (ZK:=ob)) ?_))
  rintro _ _ ⟨k2,rfl,rfl,Wr⟩
  have qhp7:=Wr.lt om
  obtain ⟨x1,Z3⟩:=Zr xs1 k2.toNat om
  have hxv:=hxs.2 _ (Y4 Z3)
  exact Zm (Zj none k2 1 (Y0 Z3)) (Z2 1 (Zz [] (Q1 x1) (ZH 1 b2 (YX (Z1.mk 12 x1 [])) (ie (ZD (r3 [1,2] [Y2 (Z1.mk 12 x1 [])] [0] [(b2,b2)] ⟨(Z1.mk 12 x1 []),p5+1,rfl,rfl,⟨GE.var hxv om om,by omega⟩⟩ (lr _)))))))
 refine ak (Zv 3 [1] (ic [2,2] (Z5d rd bs p5 g gb rs t (ZK:=ob)) ?_))
 rintro _ _ ⟨e1,p21,rfl,rfl,WT⟩
 have hse:=WT.1
 exact ZH 2 b2 (YX e1) (ie (ZD (r3 [1,1] [Y2 e1] [0] [(b2,b2)] ⟨e1,p21,rfl,rfl,⟨hse.ge om,by omega⟩⟩ (lr _))))
theorem Z3t (rd:Nat) (bs:LI) (p:Nat) (g:W4) (gb:Nat) (rs:List Func) (vs:LI) (ZK:∀z∈bs,0<=z/\z<=255) (hp:p+1<=1000000000:=by exact ob) (hg:GP g:=by exact ob) (Wk:g.funcs <+: rs:=by exact ob) (hv:vs.length<=2000:=by exact ob):Zi 289 [.p rd 0,.agg (Wo g gb),Z4 vs] [Yv rd bs p,XJ gb rs] (fun r h=>∃(z:Int),r=.i z/\h=[.obj rd [U8 bs,.i (p+1:Nat)],XJ gb rs]/\0<=z/\z<=4):=by
 have Xr:=hg.decls.ok
 have hgl:=hg.len
 have hdl:=hg.decls.len
 refine ZF 24 Tryz.func289 (ar (iA (Wo g gb) fun b1=>Z0 (Y6 1 (iL (Z6 [1,1,3,0,2,4,3]) 7 1 fun v1=>ZQ 0 [(9,Z4 [1,1,3,0,2,4,3])] (ic [2] (VW rd bs p [1,1,3,0,2,4,3] (ZK:=ob)) ?_)))))
 rintro _ _ ⟨z1,rfl,rfl,ZX⟩
 have hz:=B3 (a:=0) (b:=4) ZX (by decide)
 refine Z0 (aq (aq (XK (fun fz gz F h=>∃(wb:Bool),(True)/\F=sF [7] fz [(22,.b wb)]/\h=[Zc gz 0,Zc gz 3]) ?_ ?_)))
 ·refine az (ZM 3 [2] (iw (Uo g.decls) (Z2 2 (ib (b:=(decide (z1>(g.decls.length:Int)))) 16 (fun Zb=>?_) (fun Zb=>?_)))))
  ·exact Z0 (ZO ⟨true,True.intro,rfl,rfl⟩ (wk [0,2] fl))
  refine ZM 3 [2] (ic [3] (F3 g gb rs vs z1) ?_)
  rintro _ _ ⟨w1,rfl,rfl⟩
  exact Z0 (ZO ⟨(!w1),True.intro,rfl,rfl⟩ (wk [1,0] fl))
 rintro F h ⟨wb,kR2_0,rfl,rfl⟩
 refine ac wb Iff.rfl (fun Za=>?_) (fun Za=>?_)
 ·exact ar (Zq (r1 [0,0] ⟨1,rfl,rfl,om⟩))
 exact ak (ar (Zq (r1 [0,0] ⟨z1,rfl,rfl,om⟩)))
theorem Z3x (g:W4) (gb:Nat) (rs:List Func) (t:Int) (hg:GP g:=by exact ob) (Wk:g.funcs <+: rs:=by exact ob):Zi 292 [.agg (Wo g gb),.i t] [XJ gb rs] (fun r h=>∃(xs:LI),r=Z4 xs/\h=[XJ gb rs]/\xs.length<=4/\∀i∈xs,1<=i/\i<g.funcs.length):=by
 have Xr:=hg.decls.ok
 have hgl:=hg.len
 have hdl:=hg.decls.len
 refine ZF 57 Tryz.func292 (ar (iA (Wo g gb) fun b1=>Z0 (ar (iL (Z6 []) 0 1 fun v1=>?_))))
 refine Z0 (Yb (ab 0 (Y3 (fun fz gz m F h=>∃(k:Nat) (ys:LI) (u:Value),(1<=k/\k<=g.funcs.length)/\(ys.length<=k)/\(∀i∈ys,1<=i/\i<g.funcs.length)/\F=sF [1,2] fz [(5,ZV ys u),(6,.i k)]/\h=[Zc gz 1,Zc gz 2,.tail u 1]/\m=g.funcs.length-k) _ _ _ ⟨1,[],v1,ob,ob,(fun i hi=>by cases hi),rfl,rfl,rfl⟩ (wk [1,1,0] (fr (fc (x:=.i 1) li fl))) ?_)))
 rintro m F h ⟨k,ys,u,Yf,Zh,Zw,rfl,rfl,rfl⟩
 refine Yi 3 [0] (io (.i g.funcs.length) (.i g.funcs.length) (lr _) (Y1 ((k:Int)<(g.funcs.length:Int)) (fun Za=>?_) (fun Za=>?_)))
 ·refine ak (aq (ab 1 (Zv 3 [0] ?_)))
  obtain ⟨x1,Z3⟩:=Zr g.funcs k om
  have hso:=(hg.sigs _ (Y4 Z3)).bd
  refine Zm (Wj gb g.funcs.length 4 k 5 (k:Int)) (Z2 1 (V2 (Vl 1 gb 4 4 5 (k*5+1) (Zl (Xp rs)) [.i x1.result] 3 (.i x1.result) (UB Wk Z3 1 rfl (V5 rfl))) (Z0 (Yb (ab 2 (Y3 (fun fz gz m F h=>∃(j:Nat) (wo:Bool),(True)/\F=sF [1,2,5,6] fz [(7,.b wo),(8,.i j)]/\h=gz/\m=x1.params.length-j) _ _ _ ⟨0,(x1.result==t),True.intro,rfl,rfl,rfl⟩ (ZG 3 (fr (Y9 fl))) ?_))))))
  rintro m F h ⟨j,wo,Um,rfl,rfl,rfl⟩
  refine Yi 4 [0] (Zm (Wj gb g.funcs.length 4 k 5 (k:Int)) (Z2 1 (V2 (Vl 1 gb 4 4 5 (k*5+0) (Zl (Xp rs)) [Z4 x1.params] 31 (Z4 x1.params) (UB Wk Z3 0 rfl (V5 rfl))) (iw (Y8 x1.params) (Y1 ((j:Int)<(x1.params.length:Int)) (fun Zg=>?_) (fun Zg=>?_))))))
  ·refine ak (aq (ab 3 (aE 16 (Zk 14 16 [0,1] (db (b:=wo) 37 (fun Zb=>?_) (fun Zb=>?_))))))
   ·refine ZI 10 14 [2,4,5,6] [0,0] (dx 7 (Wj gb g.funcs.length 4 k 5 (k:Int)) (Zk 8 9 [8] (U5 9 (Vl 1 gb 4 4 5 (k*5+0) (Zl (Xp rs)) [Z4 x1.params] 31 (Z4 x1.params) (UB Wk Z3 0 rfl (V5 rfl))) (Zk 6 7 [10] ?_))))
    obtain ⟨x2,Zu⟩:=Zr x1.params j om
    refine dx 11 (Zj none (j:Int) 1 (Y0 Zu)) (Zk 4 5 [12] (Z9 3 (dL 3 [1,0,0] [gb,b1,b1] (Z6 []) 0 1 fun v2=>Yt 3 3 [] [(39,Z4 [])] (Z9 13 (dc 13 [2] [] [] (F3 g gb rs [] x2) ?_)))))
    rintro _ _ ⟨w1,rfl,rfl⟩
    exact Zk 0 2 [14,15] (de (az (Z2 1 (ZJ j (Z0 (ZL ⟨j+1,w1,True.intro,rfl,rfl,rfl⟩ (wk [2,0,1] (fr (ZP j fl)))))))))
   exact Zk 0 14 [2,3,4,5,6,7,8,9,10,11,12,13,14,15] (de (az (Z2 1 (ZJ j (Z0 (ZL ⟨j+1,false,ob,rfl,rfl,rfl⟩ (ZG 3 (fr (ZP j fl)))))))))
  refine ax 2 (ar (YC wo Iff.rfl (fun ZC=>?_) (fun ZC=>?_)))
  ·exact az (Z2 2 (iL (Z6 [(k:Int)]) 1 1 fun v3=>ZQ 0 [(54,Z4 [(k:Int)])] (ip 3 (Z6 (ys++[(k:Int)])) (Z6 ys) (Z6 [(k:Int)]) u none 1 (Yy _) (Yy _) (XZ _) (by simp<;>omega) (by simp [XY,Z6]) fun v4=>Z0 (az (Z2 1 (ZJ k (Z0 (ZL ⟨k+1,(ys++[(k:Int)]),v4,ob,ob,(Xy Zw om),rfl,rfl,rfl⟩ (wk [2,2,0] (fr (ZP k fl)))))))))))
  exact ak (az (Z2 1 (ZJ k (Z0 (ZL ⟨k+1,ys,u,ob,ob,ob,rfl,rfl,rfl⟩ (ZG 3 (fr (ZP k fl))))))))
 exact ax 0 (ar (Zq (r2 [1] [ZV ys u] ⟨ys,rfl,rfl,⟨by omega,Zw⟩⟩ (Zd.forget _ _))))
theorem Z52 (e:Z1) (left:Int) (hz:e.sz<=1000000:=by exact ob) (hl:0<=left/\left<=1000:=by exact ob) (ih:∀(e2:Z1) (left:Int),(e2.sz<e.sz)->(0<=left/\left<=1000)->Zi 275 [Y2 e2,.i left] [] (fun r h=>∃(w:Int),r=.i w/\h=[]/\NL e2.sz left w)):Zi 275 [Y2 e,.i left] [] (fun r h=>∃(w:Int),r=.i w/\h=[]/\NL e.sz left w):=by
 have hes:=e.sz_eq
 have hel:=N5 (xs:=e.kids)
 refine ZF 27 Tryz.func275 (ar (iA (YX e) fun b1=>Z0 (X2 (Y1 (left<1) (fun Za=>?_) (fun Za=>?_)))))
 ·exact ar (Zq (r1 [] ⟨(-1),rfl,rfl,(.inr ⟨by omega,rfl⟩)⟩))
 refine ak (Y6 1 (ia ((left-1)) ((left)-(1)) (Z0 (Yb (ab 0 (Y3 (fun fz gz m F h=>∃(k:Nat) (q:Int),(k<=e.kids.length)/\(0<=q/\q+1+Xu (e.kids.take k)=left)/\F=sF [2] fz [(1,.i q),(5,.i k)]/\h=gz/\m=e.kids.length-k) _ _ _ ⟨0,(left-1),ob,(by simp [Xu];omega),rfl,rfl,rfl⟩ (wk [0] (fr (Y9 fl))) ?_))))))
 rintro m F h ⟨k,q,Yf,Zh,rfl,rfl,rfl⟩
 refine Yi 3 [0] (iw (Hs e.kids) (Y1 ((k:Int)<(e.kids.length:Int)) (fun Zg=>?_) (fun Zg=>?_)))
 ·refine ak (aq (ab 1 (Zv 3 [0] ?_)))
  obtain ⟨x1,Z3⟩:=Zr e.kids k om
  have hks:=BI Z3
  have htk:Xu (e.kids.take (k+1))=Xu (e.kids.take k)+(x1).sz:=by rw [V4 Z3,Dn,Xu,Xu];rfl
  have htl:Xu (e.kids.take (k+1))<=Xu e.kids:=by have h:=Ym Xu (T1 (k+1) e.kids);rw [Dn] at h;omega
  refine Zm (Zj none (k:Int) 3 (Cj Z3)) (Z2 2 (ic [] (ih x1 q ob ob) ?_))
  rintro _ _ ⟨w1,rfl,rfl,ZX⟩
  have hnl:=ZX
  unfold NL at hnl
  refine Z0 (ar (Y1 (w1<0) (fun ZC=>?_) (fun ZC=>?_)))
  ·exact ar (Zq (r1 [] ⟨(-1),rfl,rfl,(.inr ⟨by omega,rfl⟩)⟩))
  exact ak (az (Z2 1 (ZJ k (Z0 (ZL ⟨k+1,w1,ob,ob,rfl,rfl,rfl⟩ (wk [0] (fr (ZP k fl))))))))
 refine ax 0 (ZE ?_)
 have htk:Xu (e.kids.take k)=Xu e.kids:=by rw [Vi om]
 exact ZD (r1 [] ⟨q,rfl,rfl,(.inl ⟨by omega,by omega⟩)⟩)
theorem Z51 (e:Z1) (left:Int) (hz:e.sz<=1000000:=by exact ob) (hl:0<=left/\left<=1000:=by exact ob):Zi 275 [Y2 e,.i left] [] (fun r h=>∃(w:Int),r=.i w/\h=[]/\NL e.sz left w):=by
 have key:∀k:Nat,∀(e2:Z1) (left:Int),(e2.sz<k)->(e2.sz<=1000000)->(0<=left/\left<=1000)->Zi 275 [Y2 e2,.i left] [] (fun r h=>∃(w:Int),r=.i w/\h=[]/\NL e2.sz left w):=by
  intro k
  induction k with
  | zero=>intro e2 left h;omega
  | succ k ih=>intro e2 left h1 h2 h3;exact Z52 e2 left h2 h3 fun e3 l3 q1 q2=>ih e3 l3 om om q2
 exact key (e.sz+1) e left om hz hl
theorem NB (e:Z1) (hz:e.sz<=1000000:=by exact ob):Zi 232 [Y2 e] [] (fun r h=>∃(w:Int),r=.i w/\h=[]/\((w=e.sz/\e.sz<=30)∨(w=-1/\30<e.sz))):=by
 refine ZF 10 Tryz.func232 (ar (iA (YX e) fun b1=>Z0 (Zv 1 [0] (ic [] (Z51 e 30) ?_))))
 rintro _ _ ⟨w1,rfl,rfl,ZX⟩
 have hnl:=ZX
 unfold NL at hnl
 refine Z0 (X2 (Y1 (w1<0) (fun Za=>?_) (fun Za=>?_)))
 ·exact ar (Zq (r1 [] ⟨(-1),rfl,rfl,ob⟩))
 exact ak (Y6 1 (ia ((30-w1)) ((30)-(w1)) (Zq (r1 [] ⟨(30-w1),rfl,rfl,ob⟩))))
theorem BK (rd:Nat) (bs:LI) (p:Nat) (g:W4) (gb:Nat) (rs:List Func) (vs:LI) (ts:LI) (b:Nat) (bb:Nat) (ZK:∀z∈bs,0<=z/\z<=255) (hp:p+ts.length*bC (b / ts.length)<=1000000000:=by exact ob) (hg:GP g:=by exact ob) (Wk:g.funcs <+: rs:=by exact ob) (hv:vs.length+3*bb<=900:=by exact ob) (ht:ts.length<=3:=by exact ob) (hb:b<bb/\bb<=1000:=by exact ob) (ih:∀(rd:Nat) (bs:LI) (p:Nat) (vs2:LI) (t2:Int) (b2:Nat),(∀z∈bs,0<=z/\z<=255)->(p+bC b2<=1000000000)->(vs2.length+3*b2<=900)->(b2<bb)->Zi 270 [.p rd 0,.agg (Wo g gb),Z4 vs2,.i t2,.i b2] [Yv rd bs p,XJ gb rs] (fun r h=>∃(e:Z1) (p2:Nat),r=Y2 e/\h=[Yv rd bs p2,XJ gb rs]/\GE g vs2.length (bS b2) e/\p<=p2/\p2<=p+bC b2)):Zi 290 [.p rd 0,.agg (Wo g gb),Z4 vs,Z4 ts,.i b] [Yv rd bs p,XJ gb rs] (fun r h=>∃(ys:List Z1) (p2:Nat),r=Xx ys/\h=[Yv rd bs p2,XJ gb rs]/\ys.length=ts.length/\(∀e∈ys,GE g vs.length (bS (b / ts.length)) e)/\p<=p2/\p2<=p+ts.length*bC (b / ts.length)):=by
 have hqb:=Nat.div_le_self b ts.length
 refine ZF 36 Tryz.func290 (ar (iA (Wo g gb) fun b1=>Z0 (ar (iL (Yq []) 0 3 fun v1=>?_))))
 refine Z0 (Yb (ab 0 (Y3 (fun fz gz m F h=>∃(k:Nat) (ys:List Z1) (u:Value) (pq:Nat),(k<=ts.length)/\(ys.length=k)/\(∀e∈ys,GE g vs.length (bS (b / ts.length)) e)/\(p<=pq/\pq<=p+k*bC (b / ts.length))/\F=sF [0,2,3,4,6] fz [(11,Ql ys u),(12,.i k)]/\h=[Zc gz 1,Yv rd bs pq,Zc gz 3,.tail u 3]/\m=ts.length-k) _ _ _ ⟨0,[],v1,p,ob,ob,(fun e he=>by cases he),(by simp),rfl,rfl,rfl⟩ (wk [1,1,1,0] (fr (Y9 fl))) ?_)))
 rintro m F h ⟨k,ys,u,pq,Yf,Zh,Zw,Yp,rfl,rfl,rfl⟩
 refine YM 2 (iw (Y8 ts) (Y1 ((k:Int)<(ts.length:Int)) (fun Za=>?_) (fun Za=>?_)))
 ·obtain ⟨hm1,hm2⟩:=OQ (k:=k) (L:=ts.length) (C:=bC (b / ts.length)) om
  refine ak (aq (ab 1 (aE 16 (ZI 10 16 [0,1,2,3,4,5] [0] ?_))))
  obtain ⟨x1,Z3⟩:=Zr ts k om
  refine dx 6 (Zj none (k:Int) 1 (Y0 Z3)) (Zk 6 9 [7,8,9] (dw 10 (Y8 ts) (dx 11 (BR b ts.length om om) (Z9 12 (dc 12 [1,1] [] [] (ih rd bs pq vs x1 (b / ts.length) ob ob ob ob) ?_)))))
  rintro _ _ ⟨e1,p21,rfl,rfl,ZX⟩
  have Xc:=ZX.1
  exact Z9 13 (Wy 13 [] [] [Y2 e1] (Yq [e1]) (XI [e1]).symm 1 3 fun v2=>Yt 2 2 [] [(33,Xx [e1])] (Z9 14 (dp 14 4 [] [] (Yq (ys++[e1])) (Yq ys) (Yq [e1]) u none 3 (T8 _) (T8 _) (JA _) (by simp<;>omega) (by simp [Jz,Yq]) fun v3=>Zk 0 1 [15] (de (az (Z2 1 (ZJ k (Z0 (ZL ⟨k+1,(ys++[e1]),v3,p21,ob,ob,(Xy Zw (by assumption)),om,rfl,rfl,rfl⟩ (wk [4,2,2,0] (fr (ZP k fl))))))))))))
 have hke:k=ts.length:=by omega
 subst hke
 exact ax 0 (ar (Zq (r2 [1,1] [Ql ys u] ⟨ys,pq,rfl,rfl,⟨by omega,Zw,by omega⟩⟩ (Zd.forget _ _))))
theorem Z4f (rd:Nat) (bs:LI) (p:Nat) (g:W4) (gb:Nat) (rs:List Func) (vs:LI) (t:Int) (b:Nat) (ZK:∀z∈bs,0<=z/\z<=255) (hp:p+(bC b-1)<=1000000000:=by exact ob) (hg:GP g:=by exact ob) (Wk:g.funcs <+: rs:=by exact ob) (hv:vs.length+3*b<=900:=by exact ob) (hb:3<=b:=by exact ob) (ih:∀(rd:Nat) (bs:LI) (p:Nat) (vs2:LI) (t2:Int) (b2:Nat),(∀z∈bs,0<=z/\z<=255)->(p+bC b2<=1000000000)->(vs2.length+3*b2<=900)->(b2<b)->Zi 270 [.p rd 0,.agg (Wo g gb),Z4 vs2,.i t2,.i b2] [Yv rd bs p,XJ gb rs] (fun r h=>∃(e:Z1) (p2:Nat),r=Y2 e/\h=[Yv rd bs p2,XJ gb rs]/\GE g vs2.length (bS b2) e/\p<=p2/\p2<=p+bC b2)):Zi 291 [.p rd 0,.agg (Wo g gb),Z4 vs,.i t,.i b] [Yv rd bs p,XJ gb rs] (fun r h=>∃(e:Z1) (p2:Nat),r=Y2 e/\h=[Yv rd bs p2,XJ gb rs]/\GE g vs.length (bS b) e/\p<=p2/\p2<=p+(bC b-1)):=by
 have Xr:=hg.decls.ok
 have hgl:=hg.len
 have hdl:=hg.decls.len
 have hcm:=Mi b
 refine ZF 69 Tryz.func291 (ar (iA (Wo g gb) fun b1=>iA [.i 0,.i 0,nl] fun b2=>ie (Y6 1 (iL (Z6 [1,1,3,4]) 4 1 fun v1=>ZQ 0 [(16,Z4 [1,1,3,4])] (ic [3] (VW rd bs p [1,1,3,4] (ZK:=ob)) ?_)))))
 rintro _ _ ⟨z1,rfl,rfl,ZX⟩
 have hz:=B3 (a:=1) (b:=4) ZX (by decide)
 refine Z0 (Yi 3 [3] (iw (Uo g.decls) (Xo [0,2,3,4,6,10,11] [(28,.b ((decide (z1>(g.decls.length:Int)))||XT g.decls z1))] (fun gz=>gz) ?_ ?_)))
 ·refine Z2 2 (ib (b:=(decide (z1>(g.decls.length:Int)))) 23 (fun Zb=>?_) (fun Zb=>?_))
  ·exact Z0 (ZG 5 (Zs true Zb fl))
  exact ZM 3 [3] (Zz [] (E2 g.decls z1) (Z0 (ZG 5 (Zs (XT g.decls z1) Zb fl))))
 refine XK (fun fz gz F h=>∃(d:Int),(1<=d/\d<=4)/\F=sF [0,2,3,4,6,10] fz [(11,.i d)]/\h=[Zc gz 0,Zc gz 2,Zc gz 3,Zc gz 4]) ?_ ?_
 ·refine ac ((decide (z1>(g.decls.length:Int)))||XT g.decls z1) (p:=(z1>(g.decls.length:Int))∨(XT g.decls z1=true)) (Yx dq Iff.rfl) (fun Za=>?_) (fun Za=>?_)
  ·exact UR (ZO ⟨1,om,rfl,rfl⟩ (wk [0,1,1,1] fl))
  exact ak (ZO ⟨z1,om,rfl,rfl⟩ (wk [0,1,1,1] fl))
 rintro F h ⟨d,KJ,rfl,rfl⟩
 have hcl:=Iz Xr d
 have hmc:=Z8r (L:=(ZW g.decls d).length) (q:=((b-2) / (ZW g.decls d).length)) (b:=b) om hb (TY _ _)
 have hqb:=Nat.div_le_self (b-2) (ZW g.decls d).length
 refine Zv 3 [2] (ic [] (JH g.decls d) ?_)
 rintro _ _ ⟨v2,rfl,rfl⟩
 refine Z0 (Zv 4 [3] (ic [1,3] (Cq rd bs (p+1) g gb rs vs d (ZK:=ob)) ?_))
 rintro _ _ ⟨e1,p21,rfl,rfl,YQ⟩
 have hle:=YQ.1
 refine UE [Y2 e1] (Yq [e1]) (XI [e1]).symm 1 3 fun v3=>?_
 refine Z0 (Yb (ab 0 (Y3 (fun fz gz m F h=>∃(k:Nat) (ys:List Z1) (u:Value) (pq:Nat),(k<=(ZW g.decls d).length)/\(ys.length=k)/\(QC g.decls g.funcs.length (TR g.decls 8 d vs.length) 1 ys)/\(∀e∈ys,e.sz<=bS ((b-2) / (ZW g.decls d).length))/\(p<=pq/\pq<=p+31+k*bC ((b-2) / (ZW g.decls d).length))/\F=sF [0,2,3,4,6,10,11] fz [(12,Z4 (ZW g.decls d)),(13,Ql (e1::ys) u),(14,.i k)]/\h=[Yv rd bs pq,Zc gz 2,Zc gz 4,Zc gz 5,.tail u 3]/\m=(ZW g.decls d).length-k) _ _ _ ⟨0,[],v3,p21,ob,rfl,True.intro,(fun e he=>by cases he),(by simp only [Nat.zero_mul];omega),rfl,rfl,rfl⟩ (wk [1,1,2,2,0] (fc (x:=ZV (ZW g.decls d) v2) (Zd.forget _ _) (fc (x:=Ql [e1] v3) (Zd.slh _ (Ym Yq rfl)) (Y9 fl)))) ?_)))
 rintro m F h ⟨k,ys,u,pq,Yf,Zh,Zw,Yp,XN,rfl,rfl,rfl⟩
 refine YM 2 (io (.i (((ZW g.decls d).length:Nat):Int)) (.i (((Z6 (ZW g.decls d)).length:Nat):Int)) (li (by rw [Y8])) (Y1 ((k:Int)<(((ZW g.decls d).length:Nat):Int)) (fun Zg=>?_) (fun Zg=>?_)))
 ·refine ak (aq (ab 1 (aE 22 (ZI 14 22 [0,1,2,3,4,5,6,7] [3,3] ?_))))
  obtain ⟨x1,Z3⟩:=Zr (ZW g.decls d) k om
  have hcf:=U4 Xr x1
  have harm:=CR (m:=vs.length) Z3
  obtain ⟨hm1,hm2⟩:=OQ (k:=k) (L:=(ZW g.decls d).length) (C:=bC ((b-2) / (ZW g.decls d).length)) om
  refine dx 8 (Zj none (k:Int) 1 (Y0 Z3)) (Zk 10 13 [9,12,13] (da 14 (((b-2:Nat):Int)) (((b:Int))-(2)) (Zk 8 9 [15] (dn 16 (.i (((ZW g.decls d).length:Nat):Int)) (.i (((Z6 (ZW g.decls d)).length:Nat):Int)) (li (by rw [Y8])) (dx 17 (BR (b-2) ((ZW g.decls d).length) om om) (Z9 10 (Yo 10 [] [3] [b1] (Ki g.decls x1) (Z9 11 (dc 11 [] [3] [b1] (QU vs (ZU g.decls x1)) ?_)))))))))
  rintro _ _ ⟨v4,rfl,rfl⟩
  refine Yt 4 4 [] [(56,Z4 (vs++(ZU g.decls x1)))] (Z9 18 (dc 18 [1,1] [] [] (ih rd bs pq (vs++(ZU g.decls x1)) t ((b-2) / ((ZW g.decls d).length)) ob ob (by simp only [Ys];omega) ob) ?_))
  rintro _ _ ⟨e2,p22,rfl,rfl,Xa⟩
  have Xc:=Xa.1
  exact Z9 19 (Wy 19 [] [] [Y2 e2] (Yq [e2]) (XI [e2]).symm 1 3 fun v5=>Yt 2 2 [] [(64,Xx [e2])] (Z9 20 (dp 20 6 [] [] (Yq ((e1::ys)++[e2])) (Yq (e1::ys)) (Yq [e2]) u none 3 (T8 _) (T8 _) (JA _) (by simp<;>omega) (by simp [Jz,Yq]) fun v6=>Zk 0 1 [21] (de (az (Z2 1 (ZJ k (Z0 (ZL ⟨k+1,(ys++[e2]),v6,p22,ob,ob,(N0.2 ⟨Zw,by rw [Zh,harm,<-Ys];exact Xc.1,True.intro⟩),(Xy Yp Xc.2),om,rfl,rfl,rfl⟩ (wk [2,2,3,3,0] (fr (fc (x:=Ql ((e1::ys)++[e2]) v6) (Zd.slh _ (Ym Yq rfl)) (ZP k fl)))))))))))))
 refine ax 0 (ar (ZQ 2 [(67,Xx (e1::ys))] (Zz [] (XM 8 d (e1::ys)) (ZH 2 b2 (YX (Z1.mk 8 d (e1::ys))) (ie ?_)))))
 have hke:k=(ZW g.decls d).length:=by omega
 subst hke
 exact ZD (r3 [1,1] [Y2 (Z1.mk 8 d (e1::ys))] [0] [(b2,b2)] ⟨(Z1.mk 8 d (e1::ys)),pq,rfl,rfl,⟨GE.match_ om hle Zw Yp Zh rfl om (Z8s om hb (TY _ _)),by omega⟩⟩ (lr _))
theorem Nv (rd:Nat) (bs:LI) (p:Nat) (g:W4) (gb:Nat) (rs:List Func) (vs:LI) (t:Int) (b:Nat) (ZK:∀z∈bs,0<=z/\z<=255) (hp:p+(bC b-1)<=1000000000:=by exact ob) (hg:GP g:=by exact ob) (Wk:g.funcs <+: rs:=by exact ob) (hv:vs.length+3*b<=900:=by exact ob) (hb:3<=b:=by exact ob) (ih:∀(rd:Nat) (bs:LI) (p:Nat) (vs2:LI) (t2:Int) (b2:Nat),(∀z∈bs,0<=z/\z<=255)->(p+bC b2<=1000000000)->(vs2.length+3*b2<=900)->(b2<b)->Zi 270 [.p rd 0,.agg (Wo g gb),Z4 vs2,.i t2,.i b2] [Yv rd bs p,XJ gb rs] (fun r h=>∃(e:Z1) (p2:Nat),r=Y2 e/\h=[Yv rd bs p2,XJ gb rs]/\GE g vs2.length (bS b2) e/\p<=p2/\p2<=p+bC b2)):Zi 293 [.p rd 0,.agg (Wo g gb),Z4 vs,.i t,.i b] [Yv rd bs p,XJ gb rs] (fun r h=>∃(e:Z1) (p2:Nat),r=Y2 e/\h=[Yv rd bs p2,XJ gb rs]/\GE g vs.length (bS b) e/\p<=p2/\p2<=p+(bC b-1)):=by
 have Xr:=hg.decls.ok
 have hgl:=hg.len
 have hdl:=hg.decls.len
 have hac:=SF hb
 have has:=SG hb
 refine ZF 120 Tryz.func293 (ar (iA (Wo g gb) fun b1=>iA [.i 0,.i 0,nl] fun b2=>ie (YM 1 (ic [2] (Wb rd bs p 4 (ZK:=ob)) ?_))))
 rintro _ _ ⟨k1,rfl,rfl,ZX⟩
 have qhp1:=ZX.lt om
 refine Z0 (XK (fun fz gz F h=>∃(p5:Nat),(p<=p5/\p5<=p+1)/\F=sF [0,2,3,4,6,10] fz []/\h=[Yv rd bs p5,Zc gz 1,Zc gz 2,Zc gz 3]) ?_ ?_)
 ·refine ac (k1==0) Zo (fun Za=>?_) (fun Za=>?_)
  ·refine ZE (ab 0 (Y3 (fun fz gz m F h=>∃(a:Nat),(1<=a/\a<=g.decls.length+1)/\F=sF [0,2,3,4,6,10] fz [(11,.i a)]/\h=gz/\m=g.decls.length+1-a) _ _ _ ⟨1,ob,rfl,rfl,rfl⟩ (ZG 4 (fc (x:=.i 1) li fl)) ?_))
   rintro m F h ⟨a,Yf,rfl,rfl,rfl⟩
   refine Yi 3 [2] (iw (Uo g.decls) (Y1 ((a:Int)<=(g.decls.length:Int)) (fun Zg=>?_) (fun Zg=>?_)))
   ·refine ak (aq (ab 1 (aq (XK (fun fz gz F h=>∃(wb:Bool),(True)/\F=sF [0,2,3,4,6,10,11] fz [(44,.b wb)]/\h=gz) ?_ ?_))))
    ·refine az (ZM 3 [2] (Zz [] (E2 g.decls (a:Int)) (Z2 1 (ib (b:=XT g.decls (a:Int)) 28 (fun Zb=>?_) (fun Zb=>?_)))))
     ·refine ZM 3 [2] (ia (((a-1:Nat):Int)) (((a:Int))-(1)) ?_)
      obtain ⟨x1,Z3⟩:=Zr g.decls (a-1) om
      refine Zm (Zj none ((a-1:Nat):Int) 3 (VJ Z3)) (Z2 6 (ib (b:=(x1.to_==t)) 39 (fun ZB=>?_) (fun ZB=>?_)))
      ·refine ZM 3 [2] (ic [3] (F3 g gb rs vs (a:Int)) ?_)
       rintro _ _ ⟨w1,rfl,rfl⟩
       exact Z0 (ZO ⟨w1,True.intro,rfl,rfl⟩ (wk [1,1,1,0] fl))
      exact Z0 (ZO ⟨false,True.intro,rfl,rfl⟩ (ZG 4 fl))
     exact Z0 (ZO ⟨false,True.intro,rfl,rfl⟩ (ZG 4 fl))
    rintro F h ⟨wb,kR5_0,rfl,rfl⟩
    refine ac wb Iff.rfl (fun ZC=>?_) (fun ZC=>?_)
    ·refine aD 21 (ZI 11 21 [0,1,2,3,5,6,7,8,9,10] [2,2,2] (da 11 (((a-1:Nat):Int)) (((a:Int))-(1)) ?_))
     obtain ⟨x2,Zu⟩:=Zr g.decls (a-1) om
     refine dx 12 (Zj none ((a-1:Nat):Int) 3 (VJ Zu)) (Zk 6 9 [13,14,15] (da 16 (((b-2:Nat):Int)) (((b:Int))-(2)) (Z9 4 (dc 4 [0,2] [1,1] [b1,b1] (Cq rd bs (p+1) g gb rs vs (a:Int) (ZK:=ob)) ?_))))
     rintro _ _ ⟨e1,p21,rfl,rfl,XP⟩
     have hle:=XP.1
     refine Z9 17 (dc 17 [0,0] [] [] (ih rd bs p21 vs x2.frm (b-2) ob ob ob ob) ?_)
     rintro _ _ ⟨e2,p22,rfl,rfl,Wr⟩
     have Xc:=Wr.1
     exact Z9 18 (Wy 18 [] [] [Y2 e1,Y2 e2] (Yq [e1,e2]) (XI [e1,e2]).symm 2 3 fun v1=>Yt 2 2 [] [(63,Xx [e1,e2])] (Z9 19 (Yo 19 [] [] [] (XM 11 0 [e1,e2]) (Z9 20 (YI 20 3 [] [] b2 (YX (Z1.mk 11 0 [e1,e2])) (de (ZD (r3 [2,2] [Y2 (Z1.mk 11 0 [e1,e2])] [0] [(b2,b2)] ⟨(Z1.mk 11 0 [e1,e2]),p22,rfl,rfl,⟨GE.two om om hle Xc om,by omega⟩⟩ (lr _)))))))))
    exact ak (az (Z2 1 (ZJ a (Z0 (ZL ⟨a+1,ob,rfl,rfl,rfl⟩ (ZG 4 (ZP a fl)))))))
   exact ax 0 (ZO ⟨p+1,ob,rfl,rfl⟩ (ZG 4 fl))
  exact ak (ZO ⟨p+1,ob,rfl,rfl⟩ (ZG 4 fl))
 rintro F h ⟨p5,KJ,rfl,rfl⟩
 refine Zv 3 [2] (ic [] (JH g.decls t) ?_)
 rintro _ _ ⟨v2,rfl,rfl⟩
 refine Z0 (YM 1 (io (.i (((ZW g.decls t).length:Nat):Int)) (.i (((Z6 (ZW g.decls t)).length:Nat):Int)) (li (by rw [Y8])) (Y1 ((((ZW g.decls t).length:Nat):Int)>0) (fun Yd=>?_) (fun Yd=>?_))))
 ·refine Y6 3 (io (.i (((ZW g.decls t).length:Nat):Int)) (.i (((Z6 (ZW g.decls t)).length:Nat):Int)) (li (by rw [Y8])) (ic [1] (Wb rd bs p5 (((ZW g.decls t).length:Nat):Int) (ZK:=ob)) ?_))
  rintro _ _ ⟨k2,rfl,rfl,WT⟩
  have qhp8:=WT.lt om
  obtain ⟨x3,YN⟩:=Zr (ZW g.decls t) k2.toNat om
  have hcc:=hg.decls.cons_cases (Y4 YN)
  refine Zm (Zj (some v2) k2 1 (Y0 YN)) (Z0 (aD 13 (ZI 5 13 [0,1,2,3,4,5,6,8] [3,3] (da 9 (((b-1:Nat):Int)) (((b:Int))-(1)) (Z9 7 (Yo 7 [] [2] [b1] (Ki g.decls x3) (Z9 10 (dc 10 [0,3] [] [] (BK rd bs (p5+1) g gb rs vs (ZU g.decls x3) (b-1) b (ZK:=ob) (hp:=(BS (p:=p) (by first|omega|simp) hb om om)) (ht:=(by first|omega|simp)) (hb:=om) (ih:=ih)) ?_))))))))
  rintro _ _ ⟨ys1,p23,rfl,rfl,Ve⟩
  have hga1:=Ve.1
  have hga2:=Ve.2.1
  have hga3:=Ve.2.2
  have hnc:=Ai (b:=b) (show (ys1).length<=3 by rw [hga1];first|omega|simp) hb (TY _ (b-1))
  rw [hga1] at hnc
  exact Z9 11 (Yo 11 [] [] [] (XM 6 x3 ys1) (Z9 12 (YI 12 3 [] [] b2 (YX (Z1.mk 6 x3 ys1)) (de (ZD (r3 [1,1] [Y2 (Z1.mk 6 x3 ys1)] [0] [(b2,b2)] ⟨(Z1.mk 6 x3 ys1),p23,rfl,rfl,⟨GE.node om (fun h=>by omega) om hga2 hga1 (by first|omega|simp) (DL (by first|omega|simp) hb (TY _ _)),by omega⟩⟩ (lr _)))))))
 refine ak (X2 (Y1 (t>0) (fun Xf=>?_) (fun Xf=>?_)))
 ·refine Zv 4 [3] (ic [1,3] (Cq rd bs p5 g gb rs vs t (ZK:=ob)) ?_)
  rintro _ _ ⟨e3,p24,rfl,rfl,UD⟩
  have hle:=UD.1
  exact ZH 3 b2 (YX e3) (ie (ZD (r3 [1,1] [Y2 e3] [0] [(b2,b2)] ⟨e3,p24,rfl,rfl,⟨hle.le (Mj b),by omega⟩⟩ (lr _))))
 refine ak (YM 1 (ic [1] (Wb rd bs p5 3 (ZK:=ob)) ?_))
 rintro _ _ ⟨k3,rfl,rfl,Td⟩
 have qhp11:=Td.lt om
 refine YC (k3==0) Zo (fun Xb=>?_) (fun Xb=>?_)
 ·refine Zv 3 [3] (iL (Z6 [0]) 1 1 fun v3=>Z2 1 (ia (((b-1:Nat):Int)) (((b:Int))-(1)) (ZQ 0 [(104,Z4 [0])] (ic [1,4] (BK rd bs (p5+1) g gb rs vs [0] (b-1) b (ZK:=ob) (hp:=(BS (p:=p) (by first|omega|simp) hb om om)) (ht:=(by first|omega|simp)) (hb:=om) (ih:=ih)) ?_))))
  rintro _ _ ⟨ys2,p25,rfl,rfl,US⟩
  have hga1:=US.1
  have hga2:=US.2.1
  have hga3:=US.2.2
  have hnc:=Ai (b:=b) (show (ys2).length<=3 by rw [hga1];first|omega|simp) hb (TY _ (b-1))
  rw [hga1] at hnc
  exact Zz [] (XM 5 0 ys2) (ZH 4 b2 (YX (Z1.mk 5 0 ys2)) (ie (ZD (r3 [1,1] [Y2 (Z1.mk 5 0 ys2)] [0] [(b2,b2)] ⟨(Z1.mk 5 0 ys2),p25,rfl,rfl,⟨GE.node om (fun h=>by omega) om hga2 hga1 (by first|omega|simp) (DL (by first|omega|simp) hb (TY _ _)),by omega⟩⟩ (lr _)))))
 refine ak (aD 12 (ZI 7 12 [0,3,4,5,7] [3] (da 8 (((b-1:Nat):Int)) (((b:Int))-(1)) (Kx (fun fz gz F h=>∃(z1:Int) (ys3:List Z1) (p26:Nat),(z1∈[1,2,3,4])/\(ys3.length=[0,0].length/\(∀e∈ys3,GE g vs.length (bS ((b-1) / [0,0].length)) e)/\((p5+1)+1)<=p26/\p26<=((p5+1)+1)+[0,0].length*bC ((b-1) / [0,0].length))/\F=sF [10] fz []/\h=[.obj b2 (YX (Z1.mk z1 0 ys3)),Yv rd bs p26,Zc gz 4,Zc gz 1,Zc gz 3]) ?_ ?_))))
 ·refine VA 1 6 ?_ ?_
  ·refine dL 1 [2] [b1] (Z6 [1,2,3,4]) 4 1 fun v4=>Yt 5 5 [] [(110,Z4 [1,2,3,4])] (VA 2 6 ?_ ?_)
   ·refine dc 2 [1] [1] [b1] (VW rd bs (p5+1) [1,2,3,4] (ZK:=ob)) ?_
    rintro _ _ ⟨z1,rfl,rfl,Qi⟩
    have hz:=B3 (a:=1) (b:=4) Qi (by decide)
    refine Z9 6 (dL 6 [2] [b1] (Z6 [0,0]) 2 1 fun v5=>Yt 3 3 [] [(115,Z4 [0,0])] (Z9 9 (dc 9 [1,5] [] [] (BK rd bs ((p5+1)+1) g gb rs vs [0,0] (b-1) b (ZK:=ob) (hp:=(BS (p:=p) (by first|omega|simp) hb om om)) (ht:=(by first|omega|simp)) (hb:=om) (ih:=ih)) ?_)))
    rintro _ _ ⟨ys3,p26,rfl,rfl,Q3⟩
    have hga1:=Q3.1
    have hga2:=Q3.2.1
    have hga3:=Q3.2.2
    have hnc:=Ai (b:=b) (show (ys3).length<=3 by rw [hga1];first|omega|simp) hb (TY _ (b-1))
    rw [hga1] at hnc
    exact Z9 10 (Yo 10 [] [] [] (XM z1 0 ys3) (Z9 11 (YI 11 5 [] [] b2 (YX (Z1.mk z1 0 ys3)) (de (ZO ⟨z1,ys3,p26,(by assumption),(by assumption),rfl,rfl⟩ (wk [0,0,0,2,2] fl))))))
   refine dL 6 [2] [b1] (Z6 [0,0]) 2 1 fun v6=>Z9 2 (dc 2 [2] [1] [b1] (VW rd bs (p5+1) [1,2,3,4] (ZK:=ob)) ?_)
   rintro _ _ ⟨z2,rfl,rfl,KH⟩
   have hz:=B3 (a:=1) (b:=4) KH (by decide)
   refine Yt 3 3 [] [(115,Z4 [0,0])] (Z9 9 (dc 9 [0,5] [] [] (BK rd bs ((p5+1)+1) g gb rs vs [0,0] (b-1) b (ZK:=ob) (hp:=(BS (p:=p) (by first|omega|simp) hb om om)) (ht:=(by first|omega|simp)) (hb:=om) (ih:=ih)) ?_))
   rintro _ _ ⟨ys4,p27,rfl,rfl,KI⟩
   have hga1:=KI.1
   have hga2:=KI.2.1
   have hga3:=KI.2.2
   have hnc:=Ai (b:=b) (show (ys4).length<=3 by rw [hga1];first|omega|simp) hb (TY _ (b-1))
   rw [hga1] at hnc
   exact Z9 10 (Yo 10 [] [] [] (XM z2 0 ys4) (Z9 11 (YI 11 5 [] [] b2 (YX (Z1.mk z2 0 ys4)) (de (ZO ⟨z2,ys4,p27,(by assumption),(by assumption),rfl,rfl⟩ (wk [0,0,0,2,2] fl))))))
  refine dL 6 [2] [b1] (Z6 [0,0]) 2 1 fun v7=>Z9 1 (dL 1 [2] [b1] (Z6 [1,2,3,4]) 4 1 fun v8=>Yt 4 4 [] [(110,Z4 [1,2,3,4])] (Z9 2 (dc 2 [2] [1] [b1] (VW rd bs (p5+1) [1,2,3,4] (ZK:=ob)) ?_)))
  rintro _ _ ⟨z3,rfl,rfl,AR⟩
  have hz:=B3 (a:=1) (b:=4) AR (by decide)
  refine Yt 3 3 [] [(115,Z4 [0,0])] (Z9 9 (dc 9 [0,5] [] [] (BK rd bs ((p5+1)+1) g gb rs vs [0,0] (b-1) b (ZK:=ob) (hp:=(BS (p:=p) (by first|omega|simp) hb om om)) (ht:=(by first|omega|simp)) (hb:=om) (ih:=ih)) ?_))
  rintro _ _ ⟨ys5,p28,rfl,rfl,Jf⟩
  have hga1:=Jf.1
  have hga2:=Jf.2.1
  have hga3:=Jf.2.2
  have hnc:=Ai (b:=b) (show (ys5).length<=3 by rw [hga1];first|omega|simp) hb (TY _ (b-1))
  rw [hga1] at hnc
  exact Z9 10 (Yo 10 [] [] [] (XM z3 0 ys5) (Z9 11 (YI 11 5 [] [] b2 (YX (Z1.mk z3 0 ys5)) (de (ZO ⟨z3,ys5,p28,(by assumption),(by assumption),rfl,rfl⟩ (wk [0,0,0,2,2] fl))))))
 rintro F h ⟨z1,ys3,p26,Qi,Q3,rfl,rfl⟩
 have hz:=B3 (a:=1) (b:=4) Qi (by decide)
 have hga1:=Q3.1
 have hga2:=Q3.2.1
 have hga3:=Q3.2.2
 have hnc:=Ai (b:=b) (show (ys3).length<=3 by rw [hga1];first|omega|simp) hb (TY _ (b-1))
 rw [hga1] at hnc
 exact ZD (r3 [1,1] [Y2 (Z1.mk z1 0 ys3)] [0] [(b2,b2)] ⟨(Z1.mk z1 0 ys3),p26,rfl,rfl,⟨GE.node om (fun h=>by omega) om hga2 hga1 (by first|omega|simp) (DL (by first|omega|simp) hb (TY _ _)),by omega⟩⟩ (lr _))
theorem Z4g (rd:Nat) (bs:LI) (p:Nat) (g:W4) (gb:Nat) (rs:List Func) (vs:LI) (t:Int) (b:Nat) (ZK:∀z∈bs,0<=z/\z<=255) (hp:p+bC b<=1000000000) (hg:GP g) (Wk:g.funcs <+: rs) (hv:vs.length+3*b<=900) (ih:∀(rd:Nat) (bs:LI) (p:Nat) (vs2:LI) (t2:Int) (b2:Nat),(∀z∈bs,0<=z/\z<=255)->(p+bC b2<=1000000000)->(vs2.length+3*b2<=900)->(b2<b)->Zi 270 [.p rd 0,.agg (Wo g gb),Z4 vs2,.i t2,.i b2] [Yv rd bs p,XJ gb rs] (fun r h=>∃(e:Z1) (p2:Nat),r=Y2 e/\h=[Yv rd bs p2,XJ gb rs]/\GE g vs2.length (bS b2) e/\p<=p2/\p2<=p+bC b2)):Zi 270 [.p rd 0,.agg (Wo g gb),Z4 vs,.i t,.i b] [Yv rd bs p,XJ gb rs] (fun r h=>∃(e:Z1) (p2:Nat),r=Y2 e/\h=[Yv rd bs p2,XJ gb rs]/\GE g vs.length (bS b) e/\p<=p2/\p2<=p+bC b):=by
 have Xr:=hg.decls.ok
 have hgl:=hg.len
 have hdl:=hg.decls.len
 have hbm:=Mj b
 have hcm:=Mi b
 refine ZF 114 Tryz.func270 (ar (iA (Wo g gb) fun b1=>iA [.i 0,.i 0,nl] fun b2=>ie (X2 (Y1 ((b:Int)<3) (fun Za=>?_) (fun Za=>?_)))))
 ·refine Zv 4 [1] (ic [2,2] (Cq rd bs p g gb rs vs t (ZK:=ob)) ?_)
  rintro _ _ ⟨e1,p21,rfl,rfl,ZX⟩
  have hle:=ZX.1
  exact ZH 2 b2 (YX e1) (ie (ZD (r3 [1,1] [Y2 e1] [0] [(b2,b2)] ⟨e1,p21,rfl,rfl,⟨hle.le hbm,by omega⟩⟩ (lr _))))
 have hb:3<=b:=by omega
 have hlc:=Z8l hb
 have hls:=Z8m hb
 refine ak (YM 1 (ic [2] (Wb rd bs p 12 (ZK:=ob)) ?_))
 rintro _ _ ⟨k1,rfl,rfl,Yh⟩
 have qhp2:=Yh.lt om
 refine ie (ab 0 (ar (YC (k1==0) Zo (fun Zg=>?_) (fun Zg=>?_))))
 ·refine Zv 4 [2] (ic [0,2] (Cq rd bs (p+1) g gb rs vs t (ZK:=ob)) ?_)
  rintro _ _ ⟨e2,p22,rfl,rfl,YH⟩
  have hle:=YH.1
  exact ZH 2 b2 (YX e2) (ie (ZD (r3 [1,1] [Y2 e2] [0] [(b2,b2)] ⟨e2,p22,rfl,rfl,⟨hle.le hbm,by omega⟩⟩ (lr _))))
 refine Yb (XK (fun fz gz F h=>F=sF [0,2,3,4,6,10,22] fz [(30,.b ((k1==1)||(k1==2)))]/\h=gz) ?_ ?_)
 ·refine ac (k1==1) Zo (fun ZC=>?_) (fun ZC=>?_)
  ·exact ak (ZO ⟨rfl,rfl⟩ (ZG 4 (fc (x:=.b (k1==1)) (lb (by first|rfl|(rw [Ze ZC])|(rw [Z7 ZC])|(simp [ZC];done)|(rw [Xq];simp [ZC];done)|omega)) fl)))
  exact UR (ZO ⟨rfl,rfl⟩ (ZG 4 (fc (x:=.b (k1==2)) (lb (by first|rfl|(rw [Ze ZC])|(rw [Z7 ZC])|(simp [ZC];done)|(rw [Xq];simp [ZC];done)|omega)) fl)))
 rintro F h ⟨rfl,rfl⟩
 refine ac ((k1==1)||(k1==2)) (p:=(k1=1)∨(k1=2)) (Yx Zo Zo) (fun Yd=>?_) (fun Yd=>?_)
 ·refine Zv 3 [2] (ic [0,2] (Z3t rd bs (p+1) g gb rs vs (ZK:=ob)) ?_)
  rintro _ _ ⟨z1,rfl,rfl,YQ⟩
  refine Z0 (aD 20 (ZI 15 20 [0,1,2,3,4] [3] (dx 5 (BR b 2 om om) (ZI 8 14 [7,8,9,10,13,14] [3] (dx 15 (BR b 2 om om) (Kx (fun fz gz F h=>∃(e3:Z1) (e4:Z1) (p24:Nat) (p23:Nat),(GE g vs.length (bS (b / 2)) e3/\((p+1)+1)<=p23/\p23<=((p+1)+1)+bC (b / 2))/\(GE g (vs++[z1]).length (bS (b / 2)) e4/\p23<=p24/\p24<=p23+bC (b / 2))/\F=sF [10] fz []/\h=[.obj b2 (YX (Z1.mk 13 0 [e3,e4])),Yv rd bs p24,Zc gz 1,Zc gz 3]) ?_ ?_))))))
  ·refine VA 6 11 ?_ ?_
   ·refine dc 6 [0,0] [1] [b1] (ih rd bs ((p+1)+1) vs z1 (b / 2) ob ob (by first|omega|(simp only [Ys,YS,Xt];omega)) ob) ?_
    rintro _ _ ⟨e3,p23,rfl,rfl,Xa⟩
    have hgehp5:=Xa.1
    refine Z9 11 (dL 11 [3] [b1] (Z6 [z1]) 1 1 fun v1=>Yt 5 5 [] [(48,Z4 [z1])] (Z9 12 (dc 12 [] [3] [b1] (QU vs [z1]) ?_)))
    rintro _ _ ⟨v2,rfl,rfl⟩
    refine Yt 4 4 [] [(49,Z4 (vs++[z1]))] (Z9 16 (dc 16 [2,2] [] [] (ih rd bs p23 (vs++[z1]) t (b / 2) ob ob (by first|omega|(simp only [Ys,YS,Xt];omega)) ob) ?_))
    rintro _ _ ⟨e4,p24,rfl,rfl,XP⟩
    have hgehp6:=XP.1
    exact Z9 17 (Wy 17 [] [] [Y2 e3,Y2 e4] (Yq [e3,e4]) (XI [e3,e4]).symm 2 3 fun v3=>Yt 2 2 [] [(54,Xx [e3,e4])] (Z9 18 (Yo 18 [] [] [] (XM 13 0 [e3,e4]) (Z9 19 (YI 19 5 [] [] b2 (YX (Z1.mk 13 0 [e3,e4])) (de (ZO ⟨e3,e4,p24,_,(by assumption),(by assumption),rfl,rfl⟩ (wk [0,1,1,3] fl))))))))
   refine dL 11 [3,3] [b1,b1] (Z6 [z1]) 1 1 fun v4=>Z9 6 (dc 6 [1,1] [1] [b1] (ih rd bs ((p+1)+1) vs z1 (b / 2) ob ob (by first|omega|(simp only [Ys,YS,Xt];omega)) ob) ?_)
   rintro _ _ ⟨e5,p25,rfl,rfl,Wr⟩
   have hgehp7:=Wr.1
   refine Yt 5 5 [] [(48,Z4 [z1])] (Z9 12 (dc 12 [] [3] [b1] (QU vs [z1]) ?_))
   rintro _ _ ⟨v5,rfl,rfl⟩
   refine Yt 4 4 [] [(49,Z4 (vs++[z1]))] (Z9 16 (dc 16 [1,1] [] [] (ih rd bs p25 (vs++[z1]) t (b / 2) ob ob (by first|omega|(simp only [Ys,YS,Xt];omega)) ob) ?_))
   rintro _ _ ⟨e6,p26,rfl,rfl,WT⟩
   have hgehp8:=WT.1
   exact Z9 17 (Wy 17 [] [] [Y2 e5,Y2 e6] (Yq [e5,e6]) (XI [e5,e6]).symm 2 3 fun v6=>Yt 2 2 [] [(54,Xx [e5,e6])] (Z9 18 (Yo 18 [] [] [] (XM 13 0 [e5,e6]) (Z9 19 (YI 19 5 [] [] b2 (YX (Z1.mk 13 0 [e5,e6])) (de (ZO ⟨e5,e6,p26,_,(by assumption),(by assumption),rfl,rfl⟩ (wk [0,1,1,3] fl))))))))
  rintro F h ⟨e3,e4,p24,p23,Xa,XP,rfl,rfl⟩
  have hgehp5:=Xa.1
  have hgehp6:=XP.1
  exact ZD (r3 [1,1] [Y2 (Z1.mk 13 0 [e3,e4])] [0] [(b2,b2)] ⟨(Z1.mk 13 0 [e3,e4]),p24,rfl,rfl,⟨GE.let_ (by assumption) (by have h:=‹GE g (vs++[_]).length (bS (b / 2)) _›;rw [Ys] at h;exact h) hls,by omega⟩⟩ (lr _))
 refine ar (YC (k1==3) Zo (fun Xf=>?_) (fun Xf=>?_))
 ·refine Zv 5 [2] (iL (Z6 [0,t,t]) 3 1 fun v7=>Z2 1 (ia (((b-1:Nat):Int)) (((b:Int))-(1)) (ZQ 0 [(63,Z4 [0,t,t])] (ic [1,3] (BK rd bs (p+1) g gb rs vs [0,t,t] (b-1) b (ZK:=ob) (hp:=(BS (p:=p) (by first|omega|simp) hb om om)) (ht:=(by first|omega|simp)) (hb:=om) (ih:=ih)) ?_))))
  rintro _ _ ⟨ys1,p27,rfl,rfl,Ve⟩
  have hga1:=Ve.1
  have hga2:=Ve.2.1
  have hga3:=Ve.2.2
  have hnc:=Ai (b:=b) (show (ys1).length<=3 by rw [hga1];first|omega|simp) hb (TY _ (b-1))
  rw [hga1] at hnc
  exact Zz [] (XM 7 0 ys1) (ZH 3 b2 (YX (Z1.mk 7 0 ys1)) (ie (ZD (r3 [1,1] [Y2 (Z1.mk 7 0 ys1)] [0] [(b2,b2)] ⟨(Z1.mk 7 0 ys1),p27,rfl,rfl,⟨GE.if_ om hga2 hga1 (DL (by simp) hb (TY 3 _)),by omega⟩⟩ (lr _)))))
 refine Yb (XK (fun fz gz F h=>F=sF [0,2,3,4,6,10,22] fz [(68,.b ((k1==4)||((k1==5)||(k1==6))))]/\h=gz) ?_ ?_)
 ·refine ac (k1==4) Zo (fun Xb=>?_) (fun Xb=>?_)
  ·exact ak (ZO ⟨rfl,rfl⟩ (ZG 4 (fc (x:=.b (k1==4)) (lb (by first|rfl|(rw [Ze Xb])|(rw [Z7 Xb])|(simp [Xb];done)|(rw [Xq];simp [Xb];done)|omega)) fl)))
  refine ar (YC (k1==5) Zo (fun VK=>?_) (fun VK=>?_))
  ·exact ak (ZO ⟨rfl,rfl⟩ (ZG 4 (fc (x:=.b (k1==5)) (lb (by first|rfl|(rw [Ze Xb])|(rw [Z7 Xb])|(simp [Xb,VK];done)|(rw [Xq];simp [Xb,VK];done)|omega)) fl)))
  exact UR (ZO ⟨rfl,rfl⟩ (ZG 4 (fc (x:=.b (k1==6)) (lb (by first|rfl|(rw [Ze Xb])|(rw [Z7 Xb])|(simp [Xb,VK];done)|(rw [Xq];simp [Xb,VK];done)|omega)) fl)))
 rintro F h ⟨rfl,rfl⟩
 refine ac ((k1==4)||((k1==5)||(k1==6))) (p:=(k1=4)∨((k1=5)∨(k1=6))) (Yx Zo (Yx Zo Zo)) (fun VD=>?_) (fun VD=>?_)
 ·refine Zv 5 [2] (ic [0,2] (Z4f rd bs (p+1) g gb rs vs t b (ZK:=ob) (ih:=ih)) ?_)
  rintro _ _ ⟨e7,p28,rfl,rfl,UD⟩
  have hgm:=UD.1
  exact ZH 2 b2 (YX e7) (ie (ZD (r3 [1,1] [Y2 e7] [0] [(b2,b2)] ⟨e7,p28,rfl,rfl,⟨hgm,by omega⟩⟩ (lr _))))
 refine Yb (XK (fun fz gz F h=>F=sF [0,2,3,4,6,10] fz [(78,.b ((k1==7)||(k1==8)))]/\h=gz) ?_ ?_)
 ·refine ac (k1==7) Zo (fun VE=>?_) (fun VE=>?_)
  ·exact ak (ZO ⟨rfl,rfl⟩ (ZG 4 (fc (x:=.b (k1==7)) (lb (by first|rfl|(rw [Ze VE])|(rw [Z7 VE])|(simp [VE];done)|(rw [Xq];simp [VE];done)|omega)) fl)))
  exact UR (ZO ⟨rfl,rfl⟩ (ZG 4 (fc (x:=.b (k1==8)) (lb (by first|rfl|(rw [Ze VE])|(rw [Z7 VE])|(simp [VE];done)|(rw [Xq];simp [VE];done)|omega)) fl)))
 rintro F h ⟨rfl,rfl⟩
 refine ac ((k1==7)||(k1==8)) (p:=(k1=7)∨(k1=8)) (Yx Zo Zo) (fun Tq=>?_) (fun Tq=>?_)
 ·refine Zv 2 [2] (ic [3] (Z3x g gb rs t) ?_)
  rintro _ _ ⟨xs1,rfl,rfl,Td⟩
  have hcal:=Td
  refine Z0 (Y6 1 (iw (Y8 xs1) (Y1 ((xs1.length:Int)>0) (fun Jd=>?_) (fun Jd=>?_))))
  ·refine Y6 3 (iw (Y8 xs1) (ic [1] (Wb rd bs (p+1) (xs1.length:Int) (ZK:=ob)) ?_))
   rintro _ _ ⟨k2,rfl,rfl,US⟩
   have qhp12:=US.lt om
   obtain ⟨x1,Z3⟩:=Zr xs1 k2.toNat om
   have hcv:=hcal.2 _ (Y4 Z3)
   refine Zm (Zj none k2 1 (Y0 Z3)) (Z0 (aD 15 (ZI 8 15 [0,1,2,3,4,5,6] [3,3] ?_)))
   obtain ⟨x2,Zu⟩:=Zr g.funcs x1.toNat om
   have hso:=(hg.sigs _ (Y4 Zu)).bd
   refine dx 7 (Wj gb g.funcs.length 4 x1.toNat 5 x1) (Zk 6 7 [8] (U5 9 (Vl 1 gb 4 4 5 (x1.toNat * 5+0) (Zl (Xp rs)) [Z4 x2.params] 31 (Z4 x2.params) (UB Wk Zu 0 rfl (V5 rfl))) (Zk 4 5 [10] (da 11 (((b-1:Nat):Int)) (((b:Int))-(1)) (Z9 12 (dc 12 [0,0] [] [] (BK rd bs ((p+1)+1) g gb rs vs x2.params (b-1) b (ZK:=ob) (hp:=(BS (p:=p) (by first|omega|simp) hb om om)) (ht:=(by first|omega|simp)) (hb:=om) (ih:=ih)) ?_))))))
   rintro _ _ ⟨ys2,p29,rfl,rfl,Qi⟩
   have hga1:=Qi.1
   have hga2:=Qi.2.1
   have hga3:=Qi.2.2
   have hnc:=Ai (b:=b) (show (ys2).length<=3 by rw [hga1];first|omega|simp) hb (TY _ (b-1))
   rw [hga1] at hnc
   exact Z9 13 (Yo 13 [] [] [] (XM 9 x1 ys2) (Z9 14 (YI 14 2 [] [] b2 (YX (Z1.mk 9 x1 ys2)) (de (ZD (r3 [1,1] [Y2 (Z1.mk 9 x1 ys2)] [0] [(b2,b2)] ⟨(Z1.mk 9 x1 ys2),p29,rfl,rfl,⟨GE.node om (fun _=>by omega) om hga2 hga1 (by first|omega|simp) (DL (by first|omega|simp) hb (TY _ _)),by omega⟩⟩ (lr _)))))))
  refine ak (Zv 5 [3] (ic [1,0] (Nv rd bs (p+1) g gb rs vs t b (ZK:=ob) (ih:=ih)) ?_))
  rintro _ _ ⟨e8,p210,rfl,rfl,Q3⟩
  have hgm:=Q3.1
  exact ZH 2 b2 (YX e8) (ie (ZD (r3 [1,1] [Y2 e8] [0] [(b2,b2)] ⟨e8,p210,rfl,rfl,⟨hgm,by omega⟩⟩ (lr _))))
 refine ak (Zv 5 [2] (ic [0,2] (Nv rd bs (p+1) g gb rs vs t b (ZK:=ob) (ih:=ih)) ?_))
 rintro _ _ ⟨e9,p211,rfl,rfl,KH⟩
 have hgm:=KH.1
 exact ZH 2 b2 (YX e9) (ie (ZD (r3 [1,1] [Y2 e9] [0] [(b2,b2)] ⟨e9,p211,rfl,rfl,⟨hgm,by omega⟩⟩ (lr _))))
theorem QE (rd:Nat) (bs:LI) (p:Nat) (g:W4) (gb:Nat) (rs:List Func) (vs:LI) (t:Int) (b:Nat) (ZK:∀z∈bs,0<=z/\z<=255) (hp:p+bC b<=1000000000:=by exact ob) (hg:GP g:=by exact ob) (Wk:g.funcs <+: rs:=by exact ob) (hv:vs.length+3*b<=900:=by exact ob):Zi 270 [.p rd 0,.agg (Wo g gb),Z4 vs,.i t,.i b] [Yv rd bs p,XJ gb rs] (fun r h=>∃(e:Z1) (p2:Nat),r=Y2 e/\h=[Yv rd bs p2,XJ gb rs]/\GE g vs.length (bS b) e/\p<=p2/\p2<=p+bC b):=by
 have key:∀k:Nat,∀(rd:Nat) (bs:LI) (p:Nat) (vs:LI) (t:Int) (b2:Nat),(∀z∈bs,0<=z/\z<=255)->(p+bC b2<=1000000000)->(vs.length+3*b2<=900)->(b2<k)->Zi 270 [.p rd 0,.agg (Wo g gb),Z4 vs,.i t,.i b2] [Yv rd bs p,XJ gb rs] (fun r h=>∃(e:Z1) (p2:Nat),r=Y2 e/\h=[Yv rd bs p2,XJ gb rs]/\GE g vs.length (bS b2) e/\p<=p2/\p2<=p+bC b2):=by
  intro k
  induction k with
  | zero=>intro rd bs p vs t b2 h1 h2 h3 h4;omega
  | succ k ih=>intro rd bs p vs t b2 h1 h2 h3 h4;exact Z4g rd bs p g gb rs vs t b2 h1 h2 hg Wk h3 fun rd bs p vs t b3 q1 q2 q3 q4=>ih rd bs p vs t b3 q1 q2 q3 om
 exact key (b+1) rd bs p vs t b ZK hp hv om
theorem Nu (rd:Nat) (bs:LI) (p:Nat) (g:W4) (gb:Nat) (rs:List Func) (vs:LI) (t:Int) (b:Nat) (ZK:∀z∈bs,0<=z/\z<=255) (hp:p+40000<=1000000000:=by exact ob) (hg:GP g:=by exact ob) (Wk:g.funcs <+: rs:=by exact ob) (hv:vs.length+3*b<=900:=by exact ob) (hb:b<=20:=by exact ob):Zi 231 [.p rd 0,.agg (Wo g gb),Z4 vs,.i t,.i b] [Yv rd bs p,XJ gb rs] (fun r h=>∃(e:Z1) (p2:Nat),r=Y2 e/\h=[Yv rd bs p2,XJ gb rs]/\GE g vs.length 30 e/\p<=p2/\p2<=p+40000):=by
 have Cu:=Ek hb
 refine ZF 34 Tryz.func231 (ar (iA (Wo g gb) fun b1=>iA [.i 0,.i 0,nl] fun b2=>ie (Zv 5 [1] (ic [2,2] (QE rd bs p g gb rs vs t b (ZK:=ob)) ?_))))
 rintro _ _ ⟨e1,p21,rfl,rfl,ZX⟩
 have Xc:=ZX.1
 refine iA [.i 0,.i 0,nl] fun b3=>?_
 refine ZH 0 b3 (YX e1) (ie (aq (ab 0 (Y3 (fun fz gz m F h=>∃(bq:Nat) (eQ:Z1) (pq:Nat),(GE g vs.length (bS bq) eQ)/\(bq<=b)/\(p<=pq/\pq+1900*bq<=p+1900*(b+1))/\F=sF [0,2,3,6,10,11] fz [(4,.i bq)]/\h=[.obj b3 (YX eQ),Yv rd bs pq,Zc gz 2,Zc gz 3,Zc gz 4]/\m=bq+1) _ _ _ ⟨b,e1,p21,Xc,ob,ob,rfl,rfl,rfl⟩ (ZG 5 fl) ?_))))
 rintro m F h ⟨bq,eQ,pq,Yf,Zh,Zw,rfl,rfl,rfl⟩
 refine Yi 1 [0] (ic [] (NB eQ (hz:=(by have h1:=Yf.2;have h2:=(Ek (b:=bq) om).1;omega))) ?_)
 rintro _ _ ⟨w1,rfl,rfl,Yh⟩
 have DA:=Yh
 have hq20:=Ek (b:=bq) om
 have hq21:=Ek (b:=bq / 2) om
 have Xl:=Yf.2
 refine Xo [0,2,3,4,6,10,11] [(24,.b ((decide (w1<0))&&(decide ((bq:Int)>2))))] (fun gz=>gz) ?_ ?_
 ·refine Z2 2 (ib (b:=(decide (w1<0))) 21 (fun Zb=>?_) (fun Zb=>?_))
  ·exact Z0 (ZG 5 (Zs (decide ((bq:Int)>2)) Zb fl))
  exact Z0 (ZG 5 (Zs false Zb fl))
 refine ac ((decide (w1<0))&&(decide ((bq:Int)>2))) (p:=(w1<0)/\((bq:Int)>2)) (YB dq dq) (fun Za=>?_) (fun Za=>?_)
 ·refine ak (ab 1 (Y6 1 (Zm (BR bq 2 om om) (Z0 (az (ZM 5 [4] (ic [1,1] (QE rd bs pq g gb rs vs t (bq / 2) (ZK:=ob)) ?_)))))))
  rintro _ _ ⟨e2,p22,rfl,rfl,Xa⟩
  have Xc:=Xa.1
  exact ZH 2 b3 (YX e2) (ie (ZL ⟨(bq / 2),e2,p22,Xc,ob,ob,rfl,rfl,rfl⟩ (ZG 5 (fc (x:=.i (bq / 2:Nat)) li fl))))
 exact ax 0 (Zv 1 [0] (ZH 3 b2 (YX eQ) (ie (ZD (r3 [2,2] [Y2 eQ] [0] [(b2,b2)] ⟨eQ,pq,rfl,rfl,⟨⟨Yf.1,by omega⟩,by omega⟩⟩ (lr _))))))
theorem Z4u (rd:Nat) (bs:LI) (p:Nat) (t:Int) (ZK:∀z∈bs,0<=z/\z<=255) (hp:p+14<=1000000000:=by exact ob):Zi 272 [.p rd 0,.i t] [Yv rd bs p] (fun r h=>∃(e:Z1) (p2:Nat),r=Y2 e/\h=[Yv rd bs p2]/\(∀g:W4,SE g 9 e)/\p<=p2/\p2<=p+14):=by
 refine ZF 45 Tryz.func272 (ar (iA [.i 0,.i 0,nl] fun b1=>ie (ar (iL (Yq []) 0 3 fun v1=>ZQ 0 [(10,Xx [])] (Zz [] (XM 6 0 []) (iA [.i 0,.i 0,nl] fun b2=>ZH 0 b2 (YX (Z1.mk 6 0 [])) (ie (X2 (YC (t==3) Zo (fun Za=>?_) (fun Za=>?_))))))))))
 ·refine ar (iL (Yq []) 0 3 fun v2=>ZQ 0 [(14,Xx [])] (Zz [] (XM 6 2 []) (iA [.i 0,.i 0,nl] fun b3=>?_)))
  refine ZH 0 b3 (YX (Z1.mk 6 2 [])) (ie (aD 9 (ZI 6 9 [0,1,4] [0,0] (Kx (fun fz gz F h=>∃(k1:Int) (b4:Nat),(Pk 9 k1)/\F=sF [0,4,6] fz [(7,.p b4 0)]/\h=[.obj b4 (YX (Z1.mk 6 3 [Z1.mk 6 2 [],Z1.mk 0 k1 [],Z1.mk 6 2 []])),.obj rd [U8 bs,.i (p+1:Nat)],Zc gz 0,Zc gz 1,Zc gz 2,Zc gz 3,Zc gz 4]) ?_ ?_))))
  ·refine VA 2 7 ?_ ?_
   ·refine dc 2 [5] [0,0] [b3,b3] (Wb rd bs p 9 (ZK:=ob)) ?_
    rintro _ _ ⟨k1,rfl,rfl,ZX⟩
    have qhp1:=ZX.lt om
    refine VA 3 7 ?_ ?_
    ·refine Yo 3 [] [1,1] [b3,b3] (A8 k1) (VA 5 7 ?_ ?_)
     ·refine Wy 5 [] [] [Y2 (Z1.mk 6 2 []),Y2 (Z1.mk 0 k1 []),Y2 (Z1.mk 6 2 [])] (Yq [Z1.mk 6 2 [],Z1.mk 0 k1 [],Z1.mk 6 2 []]) (XI [Z1.mk 6 2 [],Z1.mk 0 k1 [],Z1.mk 6 2 []]).symm 3 3 fun v3=>Yt 3 3 [] [(21,Xx [Z1.mk 6 2 [],Z1.mk 0 k1 [],Z1.mk 6 2 []])] (VA 6 7 ?_ ?_)
      ·exact Yo 6 [] [] [] (XM 6 3 [Z1.mk 6 2 [],Z1.mk 0 k1 [],Z1.mk 6 2 []]) (Z9 7 (dA 7 [] [] [.i 0,.i 0,nl] fun b4=>Z9 8 (YI 8 0 [] [] b4 (YX (Z1.mk 6 3 [Z1.mk 6 2 [],Z1.mk 0 k1 [],Z1.mk 6 2 []])) (de (ZO ⟨k1,b4,(by assumption),rfl,rfl⟩ (wk [0,1,1,1,1,1,1] fl))))))
      exact dA 7 [] [] [.i 0,.i 0,nl] fun b5=>Z9 6 (Yo 6 [] [] [] (XM 6 3 [Z1.mk 6 2 [],Z1.mk 0 k1 [],Z1.mk 6 2 []]) (Z9 8 (YI 8 0 [] [] b5 (YX (Z1.mk 6 3 [Z1.mk 6 2 [],Z1.mk 0 k1 [],Z1.mk 6 2 []])) (de (ZO ⟨k1,b5,(by assumption),rfl,rfl⟩ (wk [0,1,1,1,1,1,1] fl))))))
     exact dA 7 [1,1] [b3,b3] [.i 0,.i 0,nl] fun b6=>Z9 5 (Wy 5 [] [] [Y2 (Z1.mk 6 2 []),Y2 (Z1.mk 0 k1 []),Y2 (Z1.mk 6 2 [])] (Yq [Z1.mk 6 2 [],Z1.mk 0 k1 [],Z1.mk 6 2 []]) (XI [Z1.mk 6 2 [],Z1.mk 0 k1 [],Z1.mk 6 2 []]).symm 3 3 fun v4=>Yt 2 2 [] [(21,Xx [Z1.mk 6 2 [],Z1.mk 0 k1 [],Z1.mk 6 2 []])] (Z9 6 (Yo 6 [] [] [] (XM 6 3 [Z1.mk 6 2 [],Z1.mk 0 k1 [],Z1.mk 6 2 []]) (Z9 8 (YI 8 1 [] [] b6 (YX (Z1.mk 6 3 [Z1.mk 6 2 [],Z1.mk 0 k1 [],Z1.mk 6 2 []])) (de (ZO ⟨k1,b6,(by assumption),rfl,rfl⟩ (wk [0,1,1,1,1,1,1] fl))))))))
    exact dA 7 [1,1] [b3,b3] [.i 0,.i 0,nl] fun b7=>Z9 3 (Yo 3 [] [2,2] [b3,b3] (A8 k1) (Z9 5 (Wy 5 [] [] [Y2 (Z1.mk 6 2 []),Y2 (Z1.mk 0 k1 []),Y2 (Z1.mk 6 2 [])] (Yq [Z1.mk 6 2 [],Z1.mk 0 k1 [],Z1.mk 6 2 []]) (XI [Z1.mk 6 2 [],Z1.mk 0 k1 [],Z1.mk 6 2 []]).symm 3 3 fun v5=>Yt 2 2 [] [(21,Xx [Z1.mk 6 2 [],Z1.mk 0 k1 [],Z1.mk 6 2 []])] (Z9 6 (Yo 6 [] [] [] (XM 6 3 [Z1.mk 6 2 [],Z1.mk 0 k1 [],Z1.mk 6 2 []]) (Z9 8 (YI 8 1 [] [] b7 (YX (Z1.mk 6 3 [Z1.mk 6 2 [],Z1.mk 0 k1 [],Z1.mk 6 2 []])) (de (ZO ⟨k1,b7,(by assumption),rfl,rfl⟩ (wk [0,1,1,1,1,1,1] fl))))))))))
   refine dA 7 [0,0] [b3,b3] [.i 0,.i 0,nl] fun b8=>Z9 2 (dc 2 [6] [1,1] [b3,b3] (Wb rd bs p 9 (ZK:=ob)) ?_)
   rintro _ _ ⟨k2,rfl,rfl,Yh⟩
   have qhp2:=Yh.lt om
   exact Z9 3 (Yo 3 [] [2,2] [b3,b3] (A8 k2) (Z9 5 (Wy 5 [] [] [Y2 (Z1.mk 6 2 []),Y2 (Z1.mk 0 k2 []),Y2 (Z1.mk 6 2 [])] (Yq [Z1.mk 6 2 [],Z1.mk 0 k2 [],Z1.mk 6 2 []]) (XI [Z1.mk 6 2 [],Z1.mk 0 k2 [],Z1.mk 6 2 []]).symm 3 3 fun v6=>Yt 2 2 [] [(21,Xx [Z1.mk 6 2 [],Z1.mk 0 k2 [],Z1.mk 6 2 []])] (Z9 6 (Yo 6 [] [] [] (XM 6 3 [Z1.mk 6 2 [],Z1.mk 0 k2 [],Z1.mk 6 2 []]) (Z9 8 (YI 8 2 [] [] b8 (YX (Z1.mk 6 3 [Z1.mk 6 2 [],Z1.mk 0 k2 [],Z1.mk 6 2 []])) (de (ZO ⟨k2,b8,(by assumption),rfl,rfl⟩ (wk [0,1,1,1,1,1,1] fl))))))))))
  rintro F h ⟨k1,b4,ZX,rfl,rfl⟩
  have qhp1:=ZX.lt om
  refine aD 8 (ZI 5 8 [0,1,4] [0,2] (Z9 2 (dc 2 [1] [1,0] [b3,b4] (Wb rd bs (p+1) 9 (ZK:=ob)) ?_)))
  rintro _ _ ⟨k3,rfl,rfl,YH⟩
  have qhp3:=YH.lt om
  exact Z9 3 (Yo 3 [] [2,1] [b3,b4] (A8 k3) (Z9 5 (Wy 5 [] [] [Y2 (Z1.mk 6 3 [Z1.mk 6 2 [],Z1.mk 0 k1 [],Z1.mk 6 2 []]),Y2 (Z1.mk 0 k3 []),Y2 (Z1.mk 6 2 [])] (Yq [Z1.mk 6 3 [Z1.mk 6 2 [],Z1.mk 0 k1 [],Z1.mk 6 2 []],Z1.mk 0 k3 [],Z1.mk 6 2 []]) (XI [Z1.mk 6 3 [Z1.mk 6 2 [],Z1.mk 0 k1 [],Z1.mk 6 2 []],Z1.mk 0 k3 [],Z1.mk 6 2 []]).symm 3 3 fun v7=>Yt 2 2 [] [(28,Xx [Z1.mk 6 3 [Z1.mk 6 2 [],Z1.mk 0 k1 [],Z1.mk 6 2 []],Z1.mk 0 k3 [],Z1.mk 6 2 []])] (Z9 6 (Yo 6 [] [] [] (XM 6 3 [Z1.mk 6 3 [Z1.mk 6 2 [],Z1.mk 0 k1 [],Z1.mk 6 2 []],Z1.mk 0 k3 [],Z1.mk 6 2 []]) (Z9 7 (YI 7 7 [] [] b1 (YX (Z1.mk 6 3 [Z1.mk 6 3 [Z1.mk 6 2 [],Z1.mk 0 k1 [],Z1.mk 6 2 []],Z1.mk 0 k3 [],Z1.mk 6 2 []])) (de (ZD (r3 [2] [Y2 (Z1.mk 6 3 [Z1.mk 6 3 [Z1.mk 6 2 [],Z1.mk 0 k1 [],Z1.mk 6 2 []],Z1.mk 0 k3 [],Z1.mk 6 2 []])] [0] [(b1,b1)] ⟨(Z1.mk 6 3 [Z1.mk 6 3 [Z1.mk 6 2 [],Z1.mk 0 k1 [],Z1.mk 6 2 []],Z1.mk 0 k3 [],Z1.mk 6 2 []]),(p+1)+1,rfl,rfl,⟨fun g=>SE.three (s1:=4) (s2:=1) (s3:=1) om om (SE.three (s1:=1) (s2:=1) (s3:=1) om om (SE.nil om om om) (SE.int om om) (SE.nil om om om) om) (SE.int om om) (SE.nil om om om) om,by omega⟩⟩ (lr _)))))))))))
 refine ak (Zv 1 [0] (iA [.i 0,.i 0,nl] fun b9=>ZH 0 b9 (YX (Z1.mk 6 0 [])) (ie (YM 1 (ic [4] (Wb rd bs p 3 (ZK:=ob)) ?_)))))
 rintro _ _ ⟨k4,rfl,rfl,YQ⟩
 have qhp4:=YQ.lt om
 refine ia ((1+k4)) ((1)+(k4)) (Z0 (ab 0 (Y3 (fun fz gz m F h=>∃(j:Int) (eQ:Z1) (pq:Nat),(0<=j/\j<=3)/\(∀g:W4,SE g (7-2*j.toNat) eQ)/\(p+1<=pq/\pq+4*j.toNat<=p+13)/\F=sF [0,4,8] fz [(9,.i j)]/\h=[Yv rd bs pq,.obj b9 (YX eQ),Zc gz 4]/\m=j.toNat) _ _ _ ⟨(1+k4),(Z1.mk 6 0 []),p+1,ob,(fun g=>SE.nil om om om),ob,rfl,rfl,rfl⟩ (wk [0,0,2] fl) ?_)))
 rintro m F h ⟨j,eQ,pq,Yf,Zh,Zw,rfl,rfl,rfl⟩
 refine X2 (Y1 (j>0) (fun Zg=>?_) (fun Zg=>?_))
 ·refine ak (aq (ab 1 (aE 7 (ZI 5 7 [0,3] [1] (Z9 1 (dc 1 [0] [0] [b9] (ND rd bs pq (ZK:=ob)) ?_))))))
  rintro _ _ ⟨z1,rfl,rfl,Xa⟩
  have hz:=Xa
  exact Z9 2 (Yo 2 [] [1] [b9] (A8 z1) (Z9 4 (Wy 4 [] [] [Y2 (Z1.mk 0 z1 []),Y2 eQ] (Yq [Z1.mk 0 z1 [],eQ]) (XI [Z1.mk 0 z1 [],eQ]).symm 2 3 fun v8=>Yt 2 2 [] [(42,Xx [Z1.mk 0 z1 [],eQ])] (Z9 5 (Yo 5 [] [] [] (XM 6 1 [Z1.mk 0 z1 [],eQ]) (Z9 6 (YI 6 2 [] [] b9 (YX (Z1.mk 6 1 [Z1.mk 0 z1 [],eQ])) (de (az (Z2 1 (ia ((j-1)) ((j)-(1)) (Z0 (ZL ⟨(j-1),(Z1.mk 6 1 [Z1.mk 0 z1 [],eQ]),pq+4,ob,(fun g=>SE.two om om (SE.int (q:=1) om om) (Zh g) om),ob,rfl,rfl,rfl⟩ (wk [2,0,1] fl))))))))))))))
 exact ax 0 (Zv 1 [1] (ZH 2 b1 (YX eQ) (ie (ZD (r3 [1] [Y2 eQ] [0] [(b1,b1)] ⟨eQ,pq,rfl,rfl,⟨fun g=>(⟨(Zh g).1,by have:=(Zh g).2;omega⟩:SE g 9 _),by omega⟩⟩ (lr _))))))
theorem Z4x (rd:Nat) (bs:LI) (p:Nat) (g:W4) (gb:Nat) (rs:List Func) (ZK:∀z∈bs,0<=z/\z<=255) (hp:p+1600<=1000000000:=by exact ob) (hg:GP g:=by exact ob) (Wk:g.funcs <+: rs:=by exact ob):Zi 227 [.p rd 0,.agg (Wo g gb)] [Yv rd bs p,XJ gb rs] (fun r h=>∃(e:Z1) (p2:Nat),r=Y2 e/\h=[Yv rd bs p2,XJ gb rs]/\GE g 0 200 e/\p<=p2/\p2<=p+1600):=by
 have hbv:=Dd
 refine ZF 27 Tryz.func227 (ar (iA (Wo g gb) fun b1=>iA [.i 0,.i 0,nl] fun b2=>ie (Y6 1 (iL (Z6 [1,1,3]) 3 1 fun v1=>ZQ 0 [(8,Z4 [1,1,3])] (ic [3] (VW rd bs p [1,1,3] (ZK:=ob)) ?_)))))
 rintro _ _ ⟨z1,rfl,rfl,ZX⟩
 have hz:=B3 (a:=1) (b:=3) ZX (by decide)
 refine Z0 (Zv 3 [3] (iL (Z6 [z1]) 1 1 fun v2=>ZQ 0 [(13,Z4 [z1])] (ic [1,4] (QE rd bs (p+1) g gb rs [z1] 0 16 (ZK:=ob) (hv:=(by simp))) ?_)))
 rintro _ _ ⟨e1,p21,rfl,rfl,Yh⟩
 have Xc:=Yh.1
 have QF:=Yh.2
 rw [hbv.2.2.2.1] at Xc
 refine iA [.i 0,.i 0,nl] fun b3=>ZH 0 b3 (YX e1) (ie (YM 1 (ic [1] (Wb rd bs p21 3 (ZK:=ob)) ?_)))
 rintro _ _ ⟨k1,rfl,rfl,YH⟩
 have qhp3:=YH.lt om
 refine Z0 (XK (fun fz gz F h=>∃(eQ:Z1),(GE g 1 151 eQ)/\F=sF [0,4,5,6] fz []/\h=[Zc gz 0,.obj b3 (YX eQ),Zc gz 2,Zc gz 5]) ?_ ?_)
 ·refine ac (k1==0) Zo (fun Za=>?_) (fun Za=>?_)
  ·exact az (ZM 1 [1] (UE [Y2 e1] (Yq [e1]) (XI [e1]).symm 1 3 fun v3=>ZQ 0 [(19,Xx [e1])] (Zz [] (XM 5 0 [e1]) (ZH 2 b3 (YX (Z1.mk 5 0 [e1])) (ie (ZO ⟨(Z1.mk 5 0 [e1]),(GE.one om om Xc om),rfl,rfl⟩ (wk [2,0,1,3] fl)))))))
  exact ak (ZO ⟨e1,(GE.le Xc om),rfl,rfl⟩ (wk [0,0,0,2] fl))
 rintro F h ⟨eQ,KJ,rfl,rfl⟩
 refine aD 7 (ZI 4 7 [0,1,3] [1] (Z9 2 (dc 2 [0] [0] [b3] (Z4u rd bs (p21+1) z1 (ZK:=ob)) ?_)))
 rintro _ _ ⟨e2,p22,rfl,rfl,YQ⟩
 have hli:=YQ.1
 exact Z9 4 (Wy 4 [] [] [Y2 e2,Y2 eQ] (Yq [e2,eQ]) (XI [e2,eQ]).symm 2 3 fun v4=>Yt 2 2 [] [(25,Xx [e2,eQ])] (Z9 5 (Yo 5 [] [] [] (XM 13 0 [e2,eQ]) (Z9 6 (YI 6 4 [] [] b2 (YX (Z1.mk 13 0 [e2,eQ])) (de (ZD (r3 [2,3] [Y2 (Z1.mk 13 0 [e2,eQ])] [0] [(b2,b2)] ⟨(Z1.mk 13 0 [e2,eQ]),p22,rfl,rfl,⟨GE.letS ((hli g).ge (X4 _)) KJ om,by omega⟩⟩ (lr _)))))))))
theorem Z55 (rd:Nat) (bs:LI) (p:Nat) (g:W4) (gb:Nat) (rs:List Func) (f:Func) (i:Int) (w:Int) (ZK:∀z∈bs,0<=z/\z<=255) (hp:p+1000<=1000000000:=by exact ob) (hg:GP g:=by exact ob) (Wk:g.funcs <+: rs:=by exact ob) (hi:0<=i:=by exact ob) (hf:g.funcs[i.toNat]? = some f:=by exact ob) (hw:0<=w/\w<f.params.length:=by exact ob):Zi 228 [.p rd 0,.agg (Wo g gb),.i i,.i w] [Yv rd bs p,XJ gb rs] (fun r h=>∃(e:Z1) (p2:Nat),r=Y2 e/\h=[Yv rd bs p2,XJ gb rs]/\GE g f.params.length 200 e/\p<=p2/\p2<=p+1000):=by
 obtain ⟨hil,_⟩:=Xn.1 hf
 have hgl:=hg.len
 have hso:=(hg.sigs f (Y4 hf)).bd
 have hbv:=Dd
 refine ZF 136 Tryz.func228 (ar (iA (Wo g gb) fun b1=>iA [.i 0,.i 0,nl] fun b2=>ie (Zv 3 [1] (Zm (Wj gb g.funcs.length 4 i.toNat 5 i) (Z2 1 (V2 (Vl 3 gb 4 4 5 (i.toNat * 5+0) (Zl (Xp rs)) [Z4 f.params] 31 (Z4 f.params) (UB Wk hf 0 rfl (V5 rfl))) (Z0 (Y6 1 (iw (Y8 f.params) (Z0 (Y6 1 (iL (Z6 [0,1]) 2 1 fun v1=>ZQ 0 [(26,Z4 [0,1])] (ic [] (QU f.params [0,1]) ?_)))))))))))))
 rintro _ _ ⟨v2,rfl,rfl⟩
 refine Z0 (ar (iL (Yq []) 0 3 fun v3=>?_))
 refine Z0 (Yb (ab 0 (Y3 (fun fz gz m F h=>∃(k:Nat) (ys:List Z1) (u:Value) (pq:Nat),(k<=f.params.length)/\(ys.length=k)/\(∀e∈ys,GE g (f.params.length+2) 3 e)/\(p<=pq/\pq<=p+k)/\F=sF [0,2,3,5,8,9,10] fz [(11,Z4 (f.params++[0,1])),(12,Ql ys u),(13,.i k)]/\h=[Zc gz 3,Zc gz 4,Yv rd bs pq,Zc gz 6,.tail u 3]/\m=f.params.length-k) _ _ _ ⟨0,[],v3,p,ob,ob,(fun e he=>by cases he),ob,rfl,rfl,rfl⟩ (wk [3,3,3,3,0] (fc (x:=ZV (f.params++[0,1]) v2) (Zd.forget _ _) (fr (Y9 fl)))) ?_)))
 rintro m F h ⟨k,ys,u,pq,Yf,Zh,Zw,Yp,rfl,rfl,rfl⟩
 refine X2 (Y1 ((k:Int)<(f.params.length:Int)) (fun Za=>?_) (fun Za=>?_))
 ·refine ak (aq (ab 1 (ar (YC ((k:Int)==w) Zo (fun Zg=>?_) (fun Zg=>?_)))))
  ·exact az (Z2 2 (ia (((f.params.length+1:Nat):Int)) (((f.params.length:Int))+(1)) (Zz [] (Q1 ((f.params.length+1:Nat):Int)) (UE [Y2 (Z1.mk 12 ((f.params.length+1:Nat):Int) [])] (Yq [(Z1.mk 12 ((f.params.length+1:Nat):Int) [])]) (XI [(Z1.mk 12 ((f.params.length+1:Nat):Int) [])]).symm 1 3 fun v4=>ZQ 0 [(41,Xx [(Z1.mk 12 ((f.params.length+1:Nat):Int) [])])] (ip 5 (Yq (ys++[(Z1.mk 12 ((f.params.length+1:Nat):Int) [])])) (Yq ys) (Yq [(Z1.mk 12 ((f.params.length+1:Nat):Int) [])]) u none 3 (T8 _) (T8 _) (JA _) (by simp<;>omega) (by simp [Jz,Yq]) fun v5=>Z0 (az (Z2 1 (ZJ k (Z0 (ZL ⟨k+1,(ys++[(Z1.mk 12 ((f.params.length+1:Nat):Int) [])]),v5,pq,ob,ob,(Xy Zw (GE.var om om om)),ob,rfl,rfl,rfl⟩ (wk [2,2,2,2,0] (fw (ZP k fl)))))))))))))
  refine aq (XK (fun fz gz F h=>∃(wb:Bool) (p5:Nat),(pq<=p5/\p5<=pq+1)/\F=sF [0,2,3,5,8,9,10,11,12,13] fz [(52,.b wb)]/\h=[Zc gz 0,Zc gz 1,Yv rd bs p5,Zc gz 3,Zc gz 4]) ?_ ?_)
  ·refine az (Z2 2 ?_)
   obtain ⟨x1,Z3⟩:=Zr f.params k om
   refine Zm (Zj none (k:Int) 1 (Y0 Z3)) (Z2 3 (ib (b:=(x1==0)) 48 (fun Zb=>?_) (fun Zb=>?_)))
   ·refine Z2 1 (ic [2] (Wb rd bs pq 2 (ZK:=ob)) ?_)
    rintro _ _ ⟨k1,rfl,rfl,Yh⟩
    have qhp2:=Yh.lt om
    exact Z0 (ZO ⟨(k1==0),pq+1,om,rfl,rfl⟩ (wk [1,1,0,0,0] fl))
   exact Z0 (ZO ⟨false,pq,ob,rfl,rfl⟩ (ZG 5 fl))
  rintro F h ⟨wb,p5,kR10_0,rfl,rfl⟩
  refine ac wb Iff.rfl (fun ZC=>?_) (fun ZC=>?_)
  ·exact az (Z2 2 (Zz [] (Q1 (k:Int)) (Z2 1 (Zz [] (Q1 (f.params.length:Int)) (UE [Y2 (Z1.mk 12 (k:Int) []),Y2 (Z1.mk 12 (f.params.length:Int) [])] (Yq [(Z1.mk 12 (k:Int) []),(Z1.mk 12 (f.params.length:Int) [])]) (XI [(Z1.mk 12 (k:Int) []),(Z1.mk 12 (f.params.length:Int) [])]).symm 2 3 fun v6=>ZQ 0 [(58,Xx [(Z1.mk 12 (k:Int) []),(Z1.mk 12 (f.params.length:Int) [])])] (Zz [] (XM 1 0 [(Z1.mk 12 (k:Int) []),(Z1.mk 12 (f.params.length:Int) [])]) (UE [Y2 (Z1.mk 1 0 [(Z1.mk 12 (k:Int) []),(Z1.mk 12 (f.params.length:Int) [])])] (Yq [(Z1.mk 1 0 [(Z1.mk 12 (k:Int) []),(Z1.mk 12 (f.params.length:Int) [])])]) (XI [(Z1.mk 1 0 [(Z1.mk 12 (k:Int) []),(Z1.mk 12 (f.params.length:Int) [])])]).symm 1 3 fun v7=>ZQ 0 [(60,Xx [(Z1.mk 1 0 [(Z1.mk 12 (k:Int) []),(Z1.mk 12 (f.params.length:Int) [])])])] (ip 6 (Yq (ys++[(Z1.mk 1 0 [(Z1.mk 12 (k:Int) []),(Z1.mk 12 (f.params.length:Int) [])])])) (Yq ys) (Yq [(Z1.mk 1 0 [(Z1.mk 12 (k:Int) []),(Z1.mk 12 (f.params.length:Int) [])])]) u none 3 (T8 _) (T8 _) (JA _) (by simp<;>omega) (by simp [Jz,Yq]) fun v8=>Z0 (az (Z2 1 (ZJ k (Z0 (ZL ⟨k+1,(ys++[(Z1.mk 1 0 [(Z1.mk 12 (k:Int) []),(Z1.mk 12 (f.params.length:Int) [])])]),v8,p5,ob,ob,(Xy Zw (GE.two (s1:=1) (s2:=1) om om (GE.var om om om) (GE.var om om om) om)),ob,rfl,rfl,rfl⟩ (wk [3,3,3,3,0] (fw (ZP k fl))))))))))))))))
  exact az (Z2 2 (Zz [] (Q1 (k:Int)) (UE [Y2 (Z1.mk 12 (k:Int) [])] (Yq [(Z1.mk 12 (k:Int) [])]) (XI [(Z1.mk 12 (k:Int) [])]).symm 1 3 fun v9=>ZQ 0 [(65,Xx [(Z1.mk 12 (k:Int) [])])] (ip 5 (Yq (ys++[(Z1.mk 12 (k:Int) [])])) (Yq ys) (Yq [(Z1.mk 12 (k:Int) [])]) u none 3 (T8 _) (T8 _) (JA _) (by simp<;>omega) (by simp [Jz,Yq]) fun v10=>Z0 (az (Z2 1 (ZJ k (Z0 (ZL ⟨k+1,(ys++[(Z1.mk 12 (k:Int) [])]),v10,p5,ob,ob,(Xy Zw (GE.var om om om)),ob,rfl,rfl,rfl⟩ (wk [2,2,2,2,0] (fw (ZP k fl))))))))))))
 refine ax 0 (ar (ZQ 2 [(68,Xx ys)] (Zz [] (XM 9 i ys) (iA [.i 0,.i 0,nl] fun b3=>ZH 0 b3 (YX (Z1.mk 9 i ys)) (ie (Zv 1 [0] (iA [.i 0,.i 0,nl] fun b4=>?_)))))))
 refine ZH 0 b4 (YX (Z1.mk 9 i ys)) (ie (aq (aq (XK (fun fz gz F h=>∃(wb:Bool) (p5:Nat),(pq<=p5/\p5<=pq+1)/\F=sF [0,2,3,5,8,9,10,11,14,15] fz [(82,.b wb)]/\h=[Zc gz 0,Zc gz 1,Zc gz 2,Zc gz 3,Yv rd bs p5,Zc gz 5]) ?_ ?_))))
 ·refine az (ZM 3 [3] (Zm (Wj gb g.funcs.length 4 i.toNat 5 i) (Z2 1 (V2 (Vl 5 gb 4 4 5 (i.toNat * 5+1) (Zl (Xp rs)) [.i f.result] 3 (.i f.result) (UB Wk hf 1 rfl (V5 rfl))) (Z2 2 (ib (b:=(f.result==1)) 78 (fun ZB=>?_) (fun ZB=>?_)))))))
  ·refine Z2 1 (ic [4] (Wb rd bs pq 5 (ZK:=ob)) ?_)
   rintro _ _ ⟨k2,rfl,rfl,Xa⟩
   have qhp5:=Xa.lt om
   exact Z0 (ZO ⟨(decide (k2>0)),pq+1,ob,rfl,rfl⟩ (wk [1,1,1,1,0,0] fl))
  exact Z0 (ZO ⟨false,pq,ob,rfl,rfl⟩ (ZG 6 fl))
 rintro F h ⟨wb,p5,kR15_0,rfl,rfl⟩
 refine XK (fun fz gz F h=>∃(eQ:Z1) (p6:Nat),(GE g (f.params.length+2) 41 eQ)/\(p5<=p6/\p6<=p5+302)/\F=sF [0,2,3,5,8,9,15] fz []/\h=[.obj b4 (YX eQ),Zc gz 2,Zc gz 3,Yv rd bs p6,Zc gz 5]) ?_ ?_
 ·refine ac wb Iff.rfl (fun Yd=>?_) (fun Yd=>?_)
  ·refine Zv 3 [3] (ic [4,4] (QE rd bs p5 g gb rs (f.params++[0,1]) 0 4 (ZK:=ob) (hv:=(by first|omega|(simp only [Ys,YS,Xt];omega)))) ?_)
   rintro _ _ ⟨e1,p21,rfl,rfl,Wr⟩
   have Xc:=Wr.1
   have QF:=Wr.2
   try rw [Ys] at Xc
   rw [hbv.2.1] at Xc
   refine iA [.i 0,.i 0,nl] fun b5=>?_
   refine ZH 0 b5 (YX e1) (ie (aq (aq (XK (fun fz gz F h=>∃(wc:Bool),(True)/\F=sF [0,2,3,5,8,9,10,14,15,16] fz [(94,.b wc)]/\h=gz) ?_ ?_))))
   ·refine az (Z2 3 (ib (b:=(decide ((f.params.length:Int)>1))) 89 (fun Yz=>?_) (fun Yz=>?_)))
    ·refine Z2 1 ?_
     obtain ⟨x2,Zu⟩:=Zr f.params 0 om
     exact Zm (Zj none 0 1 (Y0 Zu)) (Z0 (ZO ⟨(x2==2),ob,rfl,rfl⟩ (ZG 7 fl)))
    exact Z0 (ZO ⟨false,ob,rfl,rfl⟩ (ZG 7 fl))
   rintro F h ⟨wc,kR17_0,rfl,rfl⟩
   refine XK (fun fz gz F h=>∃(eA:Z1),(GE g (f.params.length+2) 30 eA)/\F=sF [0,2,3,5,8,9,14,15,16] fz []/\h=[.obj b5 (YX eA),Zc gz 1,Zc gz 2,Zc gz 3,Zc gz 4,Zc gz 5,Zc gz 6]) ?_ ?_
   ·refine ac wc Iff.rfl (fun Xf=>?_) (fun Xf=>?_)
    ·exact az (Zz [] (Q1 0) (Z2 1 (Zz [] (Q1 (f.params.length:Int)) (UE [Y2 (Z1.mk 12 0 []),Y2 (Z1.mk 12 (f.params.length:Int) [])] (Yq [Z1.mk 12 0 [],(Z1.mk 12 (f.params.length:Int) [])]) (XI [Z1.mk 12 0 [],(Z1.mk 12 (f.params.length:Int) [])]).symm 2 3 fun v11=>ZQ 0 [(98,Xx [Z1.mk 12 0 [],(Z1.mk 12 (f.params.length:Int) [])])] (Zz [] (XM 11 0 [Z1.mk 12 0 [],(Z1.mk 12 (f.params.length:Int) [])]) (ZH 1 b5 (YX (Z1.mk 11 0 [Z1.mk 12 0 [],(Z1.mk 12 (f.params.length:Int) [])])) (ie (ZO ⟨(Z1.mk 11 0 [Z1.mk 12 0 [],(Z1.mk 12 (f.params.length:Int) [])]),(GE.two (s1:=1) (s2:=1) om om (GE.var om om om) (GE.var om om om) om),rfl,rfl⟩ (wk [0,1,1,1,1,1,1] fl)))))))))
    exact ak (ZO ⟨e1,Xc,rfl,rfl⟩ (ZG 7 fl))
   rintro F h ⟨eA,Z7l,rfl,rfl⟩
   exact az (ZM 2 [0,4] (UE [Y2 eA,Y2 (Z1.mk 9 i ys)] (Yq [eA,Z1.mk 9 i ys]) (XI [eA,Z1.mk 9 i ys]).symm 2 3 fun v12=>ZQ 0 [(102,Xx [eA,Z1.mk 9 i ys])] (Zz [] (XM 6 1 [eA,Z1.mk 9 i ys]) (ZH 4 b4 (YX (Z1.mk 6 1 [eA,Z1.mk 9 i ys])) (ie (ZO ⟨(Z1.mk 6 1 [eA,Z1.mk 9 i ys]),p21,(GE.two (s1:=30) (s2:=10) om om Z7l (GE.node (L:=f.params.length) (s:=3) (q:=10) om (fun _=>by omega) om Zw om om om) om),ob,rfl,rfl⟩ (wk [0,5,5,2,2] fl)))))))
  refine Zv 3 [3] (Zm (Wj gb g.funcs.length 4 i.toNat 5 i) (Z2 1 (V2 (Vl 5 gb 4 4 5 (i.toNat * 5+1) (Zl (Xp rs)) [.i f.result] 3 (.i f.result) (UB Wk hf 1 rfl (V5 rfl))) (YC (f.result==0) Zo (fun Xb=>?_) (fun Xb=>?_)))))
  ·refine aE 11 (ZI 6 11 [0,3,4,5,7] [3,1] (Z9 1 (dL 1 [1,3] [b3,b1] (Z6 [1,2]) 2 1 fun v13=>Yt 5 5 [] [(112,Z4 [1,2])] (Z9 2 (dc 2 [5] [1,3] [b3,b1] (VW rd bs p5 [1,2] (ZK:=ob)) ?_)))))
   rintro _ _ ⟨z1,rfl,rfl,UD⟩
   have hz:=B3 (a:=1) (b:=2) UD (by decide)
   refine Z9 6 (dc 6 [0,5] [1] [b3] (QE rd bs (p5+1) g gb rs (f.params++[0,1]) 0 4 (ZK:=ob) (hv:=(by first|omega|(simp only [Ys,YS,Xt];omega)))) ?_)
   rintro _ _ ⟨e2,p22,rfl,rfl,Td⟩
   have Xc:=Td.1
   have QF:=Td.2
   try rw [Ys] at Xc
   rw [hbv.2.1] at Xc
   exact Z9 8 (Wy 8 [] [] [Y2 e2,Y2 (Z1.mk 9 i ys)] (Yq [e2,Z1.mk 9 i ys]) (XI [e2,Z1.mk 9 i ys]).symm 2 3 fun v14=>Yt 2 2 [] [(119,Xx [e2,Z1.mk 9 i ys])] (Z9 9 (Yo 9 [] [] [] (XM z1 0 [e2,Z1.mk 9 i ys]) (Z9 10 (YI 10 4 [] [] b4 (YX (Z1.mk z1 0 [e2,Z1.mk 9 i ys])) (de (ZO ⟨(Z1.mk z1 0 [e2,Z1.mk 9 i ys]),p22,(GE.two (s1:=30) (s2:=10) om om Xc (GE.node (L:=f.params.length) (s:=3) (q:=10) om (fun _=>by omega) om Zw om om om) om),ob,rfl,rfl⟩ (wk [0,5,5,1,1] fl))))))))
  exact ak (ZO ⟨(Z1.mk 9 i ys),p5,(GE.le (GE.node (L:=f.params.length) (s:=3) (q:=10) om (fun _=>by omega) om Zw om om om) om),ob,rfl,rfl⟩ (wk [0,1,1,1,1] fl))
 rintro F h ⟨eQ,p6,QJ,Z7k,rfl,rfl⟩
 refine aD 16 (ZI 9 16 [0,2,3,4,5,6,7] [2,2] (dx 8 (Wj gb g.funcs.length 4 i.toNat 5 i) (Zk 7 8 [9] (U5 10 (Vl 4 gb 4 4 5 (i.toNat * 5+1) (Zl (Xp rs)) [.i f.result] 3 (.i f.result) (UB Wk hf 1 rfl (V5 rfl))) (ZI 5 6 [12] [0] (Z9 1 (Yo 1 [] [0,4,2,2] [b4,gb,b1,b1] (Q1 w) (Z9 11 (dc 11 [3,3] [0] [b4] (QE rd bs p6 g gb rs f.params f.result 4 (ZK:=ob) (hv:=(by first|omega|(simp only [Ys,YS,Xt];omega)))) ?_)))))))))
 rintro _ _ ⟨e3,p23,rfl,rfl,US⟩
 have Xc:=US.1
 have QF:=US.2
 try rw [Ys] at Xc
 rw [hbv.2.1] at Xc
 exact Z9 13 (Wy 13 [] [] [Y2 (Z1.mk 12 w []),Y2 e3,Y2 eQ] (Yq [Z1.mk 12 w [],e3,eQ]) (XI [Z1.mk 12 w [],e3,eQ]).symm 3 3 fun v15=>Yt 2 2 [] [(134,Xx [Z1.mk 12 w [],e3,eQ])] (Z9 14 (Yo 14 [] [] [] (XM 8 1 [Z1.mk 12 w [],e3,eQ]) (Z9 15 (YI 15 4 [] [] b2 (YX (Z1.mk 8 1 [Z1.mk 12 w [],e3,eQ])) (de (ZD (r3 [2,2] [Y2 (Z1.mk 8 1 [Z1.mk 12 w [],e3,eQ])] [0] [(b2,b2)] ⟨(Z1.mk 8 1 [Z1.mk 12 w [],e3,eQ]),p23,rfl,rfl,⟨GE.matchL hg (s1:=1) (s2:=30) (s3:=41) (GE.var om om om) Xc QJ om,by omega⟩⟩ (lr _)))))))))
theorem Z56 (rd:Nat) (bs:LI) (p:Nat) (g:W4) (gb:Nat) (rs:List Func) (f:Func) (i:Int) (ZK:∀z∈bs,0<=z/\z<=255) (hp:p+1000<=1000000000:=by exact ob) (hg:GP g:=by exact ob) (Wk:g.funcs <+: rs:=by exact ob) (hi:0<=i:=by exact ob) (hf:g.funcs[i.toNat]? = some f:=by exact ob) (h0:0<f.params.length:=by exact ob):Zi 229 [.p rd 0,.agg (Wo g gb),.i i] [Yv rd bs p,XJ gb rs] (fun r h=>∃(e:Z1) (p2:Nat),r=Y2 e/\h=[Yv rd bs p2,XJ gb rs]/\GE g f.params.length 200 e/\p<=p2/\p2<=p+1000):=by
 obtain ⟨hil,_⟩:=Xn.1 hf
 have hgl:=hg.len
 have hso:=(hg.sigs f (Y4 hf)).bd
 have hbv:=Dd
 refine ZF 96 Tryz.func229 (ar (iA (Wo g gb) fun b1=>iA [.i 0,.i 0,nl] fun b2=>ie (Zv 3 [1] (Zm (Wj gb g.funcs.length 4 i.toNat 5 i) (Z2 1 (V2 (Vl 3 gb 4 4 5 (i.toNat * 5+0) (Zl (Xp rs)) [Z4 f.params] 31 (Z4 f.params) (UB Wk hf 0 rfl (V5 rfl))) (Z0 (Y6 1 (iw (Y8 f.params) (Z0 (Y6 1 (Zz [] (Q1 (f.params.length:Int)) (UE [Y2 (Z1.mk 12 (f.params.length:Int) [])] (Yq [(Z1.mk 12 (f.params.length:Int) [])]) (XI [(Z1.mk 12 (f.params.length:Int) [])]).symm 1 3 fun v1=>Z0 (Y6 1 (ia (((f.params.length+2:Nat):Int)) (((f.params.length:Int))+(2)) (Zz [] (Q1 ((f.params.length+2:Nat):Int)) (UE [Y2 (Z1.mk 12 ((f.params.length+2:Nat):Int) [])] (Yq [(Z1.mk 12 ((f.params.length+2:Nat):Int) [])]) (XI [(Z1.mk 12 ((f.params.length+2:Nat):Int) [])]).symm 1 3 fun v2=>?_)))))))))))))))))
 refine Z0 (Yb (ab 0 (Y3 (fun fz gz m F h=>∃(k:Nat) (ys:List Z1) (u:Value) (zs:List Z1) (w:Value),(1<=k/\k<=f.params.length)/\(ys.length=k)/\(zs.length=k)/\(∀e∈ys,GE g (f.params.length+3) 1 e)/\(∀e∈zs,GE g (f.params.length+3) 1 e)/\F=sF [0,2,4,6,7,8] fz [(9,Ql ys u),(10,Ql zs w),(11,.i k)]/\h=[Zc gz 2,Zc gz 3,Zc gz 4,Zc gz 5,.tail u 3,.tail w 3]/\m=f.params.length-k) _ _ _ ⟨1,[(Z1.mk 12 (f.params.length:Int) [])],v1,[(Z1.mk 12 ((f.params.length+2:Nat):Int) [])],v2,ob,ob,ob,(GR (GE.var om om om)),(GR (GE.var om om om)),rfl,rfl,rfl⟩ (wk [2,2,2,2,1,0] (fw (fc (x:=.i 1) li fl))) ?_)))
 rintro m F h ⟨k,ys,u,zs,w,Yf,Zh,Zw,Yp,XN,rfl,rfl,rfl⟩
 refine X2 (Y1 ((k:Int)<(f.params.length:Int)) (fun Za=>?_) (fun Za=>?_))
 ·exact ak (aq (ab 1 (Y6 2 (Zz [] (Q1 (k:Int)) (UE [Y2 (Z1.mk 12 (k:Int) [])] (Yq [(Z1.mk 12 (k:Int) [])]) (XI [(Z1.mk 12 (k:Int) [])]).symm 1 3 fun v3=>ZQ 0 [(38,Xx [(Z1.mk 12 (k:Int) [])])] (ip 5 (Yq (ys++[(Z1.mk 12 (k:Int) [])])) (Yq ys) (Yq [(Z1.mk 12 (k:Int) [])]) u none 3 (T8 _) (T8 _) (JA _) (by simp<;>omega) (by simp [Jz,Yq]) fun v4=>Z0 (az (Z2 2 (Zz [] (Q1 (k:Int)) (UE [Y2 (Z1.mk 12 (k:Int) [])] (Yq [(Z1.mk 12 (k:Int) [])]) (XI [(Z1.mk 12 (k:Int) [])]).symm 1 3 fun v5=>ZQ 0 [(43,Xx [(Z1.mk 12 (k:Int) [])])] (ip 7 (Yq (zs++[(Z1.mk 12 (k:Int) [])])) (Yq zs) (Yq [(Z1.mk 12 (k:Int) [])]) w none 3 (T8 _) (T8 _) (JA _) (by simp<;>omega) (by simp [Jz,Yq]) fun v6=>Z0 (az (Z2 1 (ZJ k (Z0 (ZL ⟨k+1,(ys++[(Z1.mk 12 (k:Int) [])]),v4,(zs++[(Z1.mk 12 (k:Int) [])]),v6,ob,ob,ob,(Xy Yp (GE.var om om om)),(Xy XN (GE.var om om om)),rfl,rfl,rfl⟩ (wk [4,4,4,4,2,0] (fw (ZP k fl)))))))))))))))))))
 refine ax 0 (ar (ZQ 2 [(46,Xx ys)] (Zz [] (XM 9 i ys) (iA [.i 0,.i 0,nl] fun b3=>ZH 0 b3 (YX (Z1.mk 9 i ys)) (ie (ar (ZQ 2 [(49,Xx zs)] (Zz [] (XM 9 i zs) (iA [.i 0,.i 0,nl] fun b4=>?_)))))))))
 refine ZH 0 b4 (YX (Z1.mk 9 i zs)) (ie (aD 14 (ZI 9 14 [0,1,2,3,7] [1,3,0] (Kx (fun fz gz F h=>∃(e1:Z1) (p21:Nat) (b5:Nat),(GE g (f.params++[3,0,3]).length (bS 4) e1/\p<=p21/\p21<=p+bC 4)/\F=sF [0,2,4,6,7,8,12] fz [(14,.p b5 0)]/\h=[.obj b5 (YX (Z1.mk 1 0 [Z1.mk 9 i ys,Z1.mk 1 0 [e1,Z1.mk 9 i zs]])),Yv rd bs p21,Zc gz 5,Zc gz 0,Zc gz 1,Zc gz 2,Zc gz 3,Zc gz 6,Zc gz 7]) ?_ ?_))))
 ·refine VA 4 12 ?_ ?_
  ·refine dL 4 [0,3,1] [b4,b1,b3] (Z6 [3,0,3]) 3 1 fun v7=>Yt 8 8 [] [(55,Z4 [3,0,3])] (VA 5 12 ?_ ?_)
   ·refine dc 5 [] [0,3,1] [b4,b1,b3] (QU f.params [3,0,3]) ?_
    rintro _ _ ⟨v8,rfl,rfl⟩
    refine Yt 7 7 [] [(56,Z4 (f.params++[3,0,3]))] (VA 6 12 ?_ ?_)
    ·refine dc 6 [6,6] [0,1] [b4,b3] (QE rd bs p g gb rs (f.params++[3,0,3]) 0 4 (ZK:=ob) (hv:=(by first|omega|(simp only [Ys,YS,Xt];omega)))) ?_
     rintro _ _ ⟨e1,p21,rfl,rfl,ZX⟩
     have Xc:=ZX.1
     have QF:=ZX.2
     try rw [Ys] at Xc
     rw [hbv.2.1] at Xc
     refine VA 8 12 ?_ ?_
     ·refine Wy 8 [3] [b3] [Y2 e1,Y2 (Z1.mk 9 i zs)] (Yq [e1,Z1.mk 9 i zs]) (XI [e1,Z1.mk 9 i zs]).symm 2 3 fun v9=>Yt 5 5 [] [(59,Xx [e1,Z1.mk 9 i zs])] (VA 9 12 ?_ ?_)
      ·refine Yo 9 [] [3] [b3] (XM 1 0 [e1,Z1.mk 9 i zs]) (VA 10 12 ?_ ?_)
       ·refine Wy 10 [] [] [Y2 (Z1.mk 9 i ys),Y2 (Z1.mk 1 0 [e1,Z1.mk 9 i zs])] (Yq [Z1.mk 9 i ys,Z1.mk 1 0 [e1,Z1.mk 9 i zs]]) (XI [Z1.mk 9 i ys,Z1.mk 1 0 [e1,Z1.mk 9 i zs]]).symm 2 3 fun v10=>Yt 3 3 [] [(61,Xx [Z1.mk 9 i ys,Z1.mk 1 0 [e1,Z1.mk 9 i zs]])] (VA 11 12 ?_ ?_)
        ·exact Yo 11 [] [] [] (XM 1 0 [Z1.mk 9 i ys,Z1.mk 1 0 [e1,Z1.mk 9 i zs]]) (Z9 12 (dA 12 [] [] [.i 0,.i 0,nl] fun b5=>Z9 13 (YI 13 0 [] [] b5 (YX (Z1.mk 1 0 [Z1.mk 9 i ys,Z1.mk 1 0 [e1,Z1.mk 9 i zs]])) (de (ZO ⟨e1,p21,b5,(by assumption),rfl,rfl⟩ (wk [0,2,2,4,4,4,4,4,4] fl))))))
        exact dA 12 [] [] [.i 0,.i 0,nl] fun b6=>Z9 11 (Yo 11 [] [] [] (XM 1 0 [Z1.mk 9 i ys,Z1.mk 1 0 [e1,Z1.mk 9 i zs]]) (Z9 13 (YI 13 0 [] [] b6 (YX (Z1.mk 1 0 [Z1.mk 9 i ys,Z1.mk 1 0 [e1,Z1.mk 9 i zs]])) (de (ZO ⟨e1,p21,b6,(by assumption),rfl,rfl⟩ (wk [0,2,2,4,4,4,4,4,4] fl))))))
       exact dA 12 [3] [b3] [.i 0,.i 0,nl] fun b7=>Z9 10 (Wy 10 [] [] [Y2 (Z1.mk 9 i ys),Y2 (Z1.mk 1 0 [e1,Z1.mk 9 i zs])] (Yq [Z1.mk 9 i ys,Z1.mk 1 0 [e1,Z1.mk 9 i zs]]) (XI [Z1.mk 9 i ys,Z1.mk 1 0 [e1,Z1.mk 9 i zs]]).symm 2 3 fun v11=>Yt 2 2 [] [(61,Xx [Z1.mk 9 i ys,Z1.mk 1 0 [e1,Z1.mk 9 i zs]])] (Z9 11 (Yo 11 [] [] [] (XM 1 0 [Z1.mk 9 i ys,Z1.mk 1 0 [e1,Z1.mk 9 i zs]]) (Z9 13 (YI 13 1 [] [] b7 (YX (Z1.mk 1 0 [Z1.mk 9 i ys,Z1.mk 1 0 [e1,Z1.mk 9 i zs]])) (de (ZO ⟨e1,p21,b7,(by assumption),rfl,rfl⟩ (wk [0,2,2,4,4,4,4,4,4] fl))))))))
      exact dA 12 [3] [b3] [.i 0,.i 0,nl] fun b8=>Z9 9 (Yo 9 [] [4] [b3] (XM 1 0 [e1,Z1.mk 9 i zs]) (Z9 10 (Wy 10 [] [] [Y2 (Z1.mk 9 i ys),Y2 (Z1.mk 1 0 [e1,Z1.mk 9 i zs])] (Yq [Z1.mk 9 i ys,Z1.mk 1 0 [e1,Z1.mk 9 i zs]]) (XI [Z1.mk 9 i ys,Z1.mk 1 0 [e1,Z1.mk 9 i zs]]).symm 2 3 fun v12=>Yt 2 2 [] [(61,Xx [Z1.mk 9 i ys,Z1.mk 1 0 [e1,Z1.mk 9 i zs]])] (Z9 11 (Yo 11 [] [] [] (XM 1 0 [Z1.mk 9 i ys,Z1.mk 1 0 [e1,Z1.mk 9 i zs]]) (Z9 13 (YI 13 1 [] [] b8 (YX (Z1.mk 1 0 [Z1.mk 9 i ys,Z1.mk 1 0 [e1,Z1.mk 9 i zs]])) (de (ZO ⟨e1,p21,b8,(by assumption),rfl,rfl⟩ (wk [0,2,2,4,4,4,4,4,4] fl))))))))))
     exact dA 12 [2,3] [b4,b3] [.i 0,.i 0,nl] fun b9=>Z9 8 (Wy 8 [4] [b3] [Y2 e1,Y2 (Z1.mk 9 i zs)] (Yq [e1,Z1.mk 9 i zs]) (XI [e1,Z1.mk 9 i zs]).symm 2 3 fun v13=>Yt 4 4 [] [(59,Xx [e1,Z1.mk 9 i zs])] (Z9 9 (Yo 9 [] [4] [b3] (XM 1 0 [e1,Z1.mk 9 i zs]) (Z9 10 (Wy 10 [] [] [Y2 (Z1.mk 9 i ys),Y2 (Z1.mk 1 0 [e1,Z1.mk 9 i zs])] (Yq [Z1.mk 9 i ys,Z1.mk 1 0 [e1,Z1.mk 9 i zs]]) (XI [Z1.mk 9 i ys,Z1.mk 1 0 [e1,Z1.mk 9 i zs]]).symm 2 3 fun v14=>Yt 2 2 [] [(61,Xx [Z1.mk 9 i ys,Z1.mk 1 0 [e1,Z1.mk 9 i zs]])] (Z9 11 (Yo 11 [] [] [] (XM 1 0 [Z1.mk 9 i ys,Z1.mk 1 0 [e1,Z1.mk 9 i zs]]) (Z9 13 (YI 13 2 [] [] b9 (YX (Z1.mk 1 0 [Z1.mk 9 i ys,Z1.mk 1 0 [e1,Z1.mk 9 i zs]])) (de (ZO ⟨e1,p21,b9,(by assumption),rfl,rfl⟩ (wk [0,2,2,4,4,4,4,4,4] fl))))))))))))
    refine dA 12 [0,3,1] [b4,b1,b3] [.i 0,.i 0,nl] fun b10=>Z9 6 (dc 6 [7,7] [1,2] [b4,b3] (QE rd bs p g gb rs (f.params++[3,0,3]) 0 4 (ZK:=ob) (hv:=(by first|omega|(simp only [Ys,YS,Xt];omega)))) ?_)
    rintro _ _ ⟨e2,p22,rfl,rfl,Yh⟩
    have Xc:=Yh.1
    have QF:=Yh.2
    try rw [Ys] at Xc
    rw [hbv.2.1] at Xc
    exact Z9 8 (Wy 8 [4] [b3] [Y2 e2,Y2 (Z1.mk 9 i zs)] (Yq [e2,Z1.mk 9 i zs]) (XI [e2,Z1.mk 9 i zs]).symm 2 3 fun v15=>Yt 4 4 [] [(59,Xx [e2,Z1.mk 9 i zs])] (Z9 9 (Yo 9 [] [4] [b3] (XM 1 0 [e2,Z1.mk 9 i zs]) (Z9 10 (Wy 10 [] [] [Y2 (Z1.mk 9 i ys),Y2 (Z1.mk 1 0 [e2,Z1.mk 9 i zs])] (Yq [Z1.mk 9 i ys,Z1.mk 1 0 [e2,Z1.mk 9 i zs]]) (XI [Z1.mk 9 i ys,Z1.mk 1 0 [e2,Z1.mk 9 i zs]]).symm 2 3 fun v16=>Yt 2 2 [] [(61,Xx [Z1.mk 9 i ys,Z1.mk 1 0 [e2,Z1.mk 9 i zs]])] (Z9 11 (Yo 11 [] [] [] (XM 1 0 [Z1.mk 9 i ys,Z1.mk 1 0 [e2,Z1.mk 9 i zs]]) (Z9 13 (YI 13 4 [] [] b10 (YX (Z1.mk 1 0 [Z1.mk 9 i ys,Z1.mk 1 0 [e2,Z1.mk 9 i zs]])) (de (ZO ⟨e2,p22,b10,(by assumption),rfl,rfl⟩ (wk [0,2,2,4,4,4,4,4,4] fl))))))))))))
   refine dA 12 [0,3,1] [b4,b1,b3] [.i 0,.i 0,nl] fun b11=>Z9 5 (dc 5 [] [1,4,2] [b4,b1,b3] (QU f.params [3,0,3]) ?_)
   rintro _ _ ⟨v17,rfl,rfl⟩
   refine Yt 6 6 [] [(56,Z4 (f.params++[3,0,3]))] (Z9 6 (dc 6 [7,7] [1,2] [b4,b3] (QE rd bs p g gb rs (f.params++[3,0,3]) 0 4 (ZK:=ob) (hv:=(by first|omega|(simp only [Ys,YS,Xt];omega)))) ?_))
   rintro _ _ ⟨e3,p23,rfl,rfl,YH⟩
   have Xc:=YH.1
   have QF:=YH.2
   try rw [Ys] at Xc
   rw [hbv.2.1] at Xc
   exact Z9 8 (Wy 8 [4] [b3] [Y2 e3,Y2 (Z1.mk 9 i zs)] (Yq [e3,Z1.mk 9 i zs]) (XI [e3,Z1.mk 9 i zs]).symm 2 3 fun v18=>Yt 4 4 [] [(59,Xx [e3,Z1.mk 9 i zs])] (Z9 9 (Yo 9 [] [4] [b3] (XM 1 0 [e3,Z1.mk 9 i zs]) (Z9 10 (Wy 10 [] [] [Y2 (Z1.mk 9 i ys),Y2 (Z1.mk 1 0 [e3,Z1.mk 9 i zs])] (Yq [Z1.mk 9 i ys,Z1.mk 1 0 [e3,Z1.mk 9 i zs]]) (XI [Z1.mk 9 i ys,Z1.mk 1 0 [e3,Z1.mk 9 i zs]]).symm 2 3 fun v19=>Yt 2 2 [] [(61,Xx [Z1.mk 9 i ys,Z1.mk 1 0 [e3,Z1.mk 9 i zs]])] (Z9 11 (Yo 11 [] [] [] (XM 1 0 [Z1.mk 9 i ys,Z1.mk 1 0 [e3,Z1.mk 9 i zs]]) (Z9 13 (YI 13 5 [] [] b11 (YX (Z1.mk 1 0 [Z1.mk 9 i ys,Z1.mk 1 0 [e3,Z1.mk 9 i zs]])) (de (ZO ⟨e3,p23,b11,(by assumption),rfl,rfl⟩ (wk [0,2,2,4,4,4,4,4,4] fl))))))))))))
  refine dA 12 [0,3,1] [b4,b1,b3] [.i 0,.i 0,nl] fun b12=>Z9 4 (dL 4 [1,4,2] [b4,b1,b3] (Z6 [3,0,3]) 3 1 fun v20=>Yt 7 7 [] [(55,Z4 [3,0,3])] (Z9 5 (dc 5 [] [1,4,2] [b4,b1,b3] (QU f.params [3,0,3]) ?_)))
  rintro _ _ ⟨v21,rfl,rfl⟩
  refine Yt 6 6 [] [(56,Z4 (f.params++[3,0,3]))] (Z9 6 (dc 6 [7,7] [1,2] [b4,b3] (QE rd bs p g gb rs (f.params++[3,0,3]) 0 4 (ZK:=ob) (hv:=(by first|omega|(simp only [Ys,YS,Xt];omega)))) ?_))
  rintro _ _ ⟨e4,p24,rfl,rfl,YQ⟩
  have Xc:=YQ.1
  have QF:=YQ.2
  try rw [Ys] at Xc
  rw [hbv.2.1] at Xc
  exact Z9 8 (Wy 8 [4] [b3] [Y2 e4,Y2 (Z1.mk 9 i zs)] (Yq [e4,Z1.mk 9 i zs]) (XI [e4,Z1.mk 9 i zs]).symm 2 3 fun v22=>Yt 4 4 [] [(59,Xx [e4,Z1.mk 9 i zs])] (Z9 9 (Yo 9 [] [4] [b3] (XM 1 0 [e4,Z1.mk 9 i zs]) (Z9 10 (Wy 10 [] [] [Y2 (Z1.mk 9 i ys),Y2 (Z1.mk 1 0 [e4,Z1.mk 9 i zs])] (Yq [Z1.mk 9 i ys,Z1.mk 1 0 [e4,Z1.mk 9 i zs]]) (XI [Z1.mk 9 i ys,Z1.mk 1 0 [e4,Z1.mk 9 i zs]]).symm 2 3 fun v23=>Yt 2 2 [] [(61,Xx [Z1.mk 9 i ys,Z1.mk 1 0 [e4,Z1.mk 9 i zs]])] (Z9 11 (Yo 11 [] [] [] (XM 1 0 [Z1.mk 9 i ys,Z1.mk 1 0 [e4,Z1.mk 9 i zs]]) (Z9 13 (YI 13 6 [] [] b12 (YX (Z1.mk 1 0 [Z1.mk 9 i ys,Z1.mk 1 0 [e4,Z1.mk 9 i zs]])) (de (ZO ⟨e4,p24,b12,(by assumption),rfl,rfl⟩ (wk [0,2,2,4,4,4,4,4,4] fl))))))))))))
 rintro F h ⟨e1,p21,b5,ZX,rfl,rfl⟩
 have Xc:=ZX.1
 have QF:=ZX.2
 try rw [Ys] at Xc
 rw [hbv.2.1] at Xc
 refine Yi 3 [6] (Zm (Wj gb g.funcs.length 4 i.toNat 5 i) (Z2 1 (V2 (Vl 2 gb 4 4 5 (i.toNat * 5+1) (Zl (Xp rs)) [.i f.result] 3 (.i f.result) (UB Wk hf 1 rfl (V5 rfl))) (Z0 (XK (fun fz gz F h=>∃(eQ:Z1) (p6:Nat),(GE g (f.params.length+3) 52 eQ)/\(p<=p6/\p6<=p+650)/\F=sF [0,2,4,6,7,14] fz []/\h=[.obj b5 (YX eQ),Yv rd bs p6,Zc gz 2,Zc gz 5,Zc gz 6]) ?_ ?_)))))
 ·refine ac (f.result==3) Zo (fun Zg=>?_) (fun Zg=>?_)
  ·refine aE 13 (ZI 8 13 [0,1,2,3,7] [4,6] (da 8 (((f.params.length+2:Nat):Int)) (((f.params.length:Int))+(2)) (Z9 4 (dL 4 [6,4] [b1,b3] (Z6 [3,0,3]) 3 1 fun v24=>Yt 6 6 [] [(74,Z4 [3,0,3])] (Z9 5 (dc 5 [] [6,4] [b1,b3] (QU f.params [3,0,3]) ?_))))))
   rintro _ _ ⟨v25,rfl,rfl⟩
   refine Yt 5 5 [] [(75,Z4 (f.params++[3,0,3]))] (Z9 6 (dc 6 [3,3] [2] [b3] (QE rd bs p21 g gb rs (f.params++[3,0,3]) 0 4 (ZK:=ob) (hv:=(by first|omega|(simp only [Ys,YS,Xt];omega)))) ?_))
   rintro _ _ ⟨e5,p25,rfl,rfl,Xa⟩
   have Xc:=Xa.1
   have QF:=Xa.2
   try rw [Ys] at Xc
   rw [hbv.2.1] at Xc
   exact Z9 9 (Yo 9 [] [4] [b3] (Q1 ((f.params.length+2:Nat):Int)) (Z9 10 (Wy 10 [] [] [Y2 (Z1.mk 9 i ys),Y2 e5,Y2 (Z1.mk 12 ((f.params.length+2:Nat):Int) [])] (Yq [Z1.mk 9 i ys,e5,(Z1.mk 12 ((f.params.length+2:Nat):Int) [])]) (XI [Z1.mk 9 i ys,e5,(Z1.mk 12 ((f.params.length+2:Nat):Int) [])]).symm 3 3 fun v26=>Yt 2 2 [] [(80,Xx [Z1.mk 9 i ys,e5,(Z1.mk 12 ((f.params.length+2:Nat):Int) [])])] (Z9 11 (Yo 11 [] [] [] (XM 6 3 [Z1.mk 9 i ys,e5,(Z1.mk 12 ((f.params.length+2:Nat):Int) [])]) (Z9 12 (YI 12 5 [] [] b5 (YX (Z1.mk 6 3 [Z1.mk 9 i ys,e5,(Z1.mk 12 ((f.params.length+2:Nat):Int) [])])) (de (ZO ⟨(Z1.mk 6 3 [Z1.mk 9 i ys,e5,(Z1.mk 12 ((f.params.length+2:Nat):Int) [])]),p25,(GE.three (s1:=10) (s2:=30) (s3:=1) om om (GE.node (L:=f.params.length) (s:=1) (q:=10) om (fun _=>by omega) om Yp om om om) Xc (GE.var om om om) om),ob,rfl,rfl⟩ (wk [0,1,1,5,5] fl))))))))))
  exact ak (ZO ⟨(Z1.mk 1 0 [Z1.mk 9 i ys,Z1.mk 1 0 [e1,Z1.mk 9 i zs]]),p21,(GE.two (s1:=10) (s2:=41) om om (GE.node (L:=f.params.length) (s:=1) (q:=10) om (fun _=>by omega) om Yp om om om) (GE.two (s1:=30) (s2:=10) om om Xc (GE.node (L:=f.params.length) (s:=1) (q:=10) om (fun _=>by omega) om XN om om om) om) om),ob,rfl,rfl⟩ (wk [0,0,0,2,2] fl))
 rintro F h ⟨eQ,p6,VY,Af,rfl,rfl⟩
 refine aD 15 (ZI 9 15 [1,2,3,4,5,6] [4,4] (dx 7 (Wj gb g.funcs.length 4 i.toNat 5 i) (Zk 7 8 [8] (U5 9 (Vl 2 gb 4 4 5 (i.toNat * 5+1) (Zl (Xp rs)) [.i f.result] 3 (.i f.result) (UB Wk hf 1 rfl (V5 rfl))) (ZI 5 6 [11] [0] (Z9 0 (Yo 0 [] [0,2,4,4] [b5,gb,b1,b1] (Q1 0) (Z9 10 (dc 10 [1,1] [0] [b5] (QE rd bs p6 g gb rs f.params f.result 4 (ZK:=ob) (hv:=(by first|omega|(simp only [Ys,YS,Xt];omega)))) ?_)))))))))
 rintro _ _ ⟨e6,p26,rfl,rfl,XP⟩
 have Xc:=XP.1
 have QF:=XP.2
 try rw [Ys] at Xc
 rw [hbv.2.1] at Xc
 exact Z9 12 (Wy 12 [] [] [Y2 (Z1.mk 12 0 []),Y2 e6,Y2 eQ] (Yq [Z1.mk 12 0 [],e6,eQ]) (XI [Z1.mk 12 0 [],e6,eQ]).symm 3 3 fun v27=>Yt 2 2 [] [(94,Xx [Z1.mk 12 0 [],e6,eQ])] (Z9 13 (Yo 13 [] [] [] (XM 8 3 [Z1.mk 12 0 [],e6,eQ]) (Z9 14 (YI 14 4 [] [] b2 (YX (Z1.mk 8 3 [Z1.mk 12 0 [],e6,eQ])) (de (ZD (r3 [2,2] [Y2 (Z1.mk 8 3 [Z1.mk 12 0 [],e6,eQ])] [0] [(b2,b2)] ⟨(Z1.mk 8 3 [Z1.mk 12 0 [],e6,eQ]),p26,rfl,rfl,⟨GE.matchT hg (s1:=1) (s2:=30) (s3:=52) (GE.var om om om) Xc VY om,by omega⟩⟩ (lr _)))))))))
theorem Z4d (rd:Nat) (bs:LI) (p:Nat) (g:W4) (gb:Nat) (rs:List Func) (f:Func) (i:Int) (ZK:∀z∈bs,0<=z/\z<=255) (hp:p+1000<=1000000000:=by exact ob) (hg:GP g:=by exact ob) (Wk:g.funcs <+: rs:=by exact ob) (hi:0<=i:=by exact ob) (hf:g.funcs[i.toNat]? = some f:=by exact ob) (h0:0<f.params.length:=by exact ob):Zi 230 [.p rd 0,.agg (Wo g gb),.i i] [Yv rd bs p,XJ gb rs] (fun r h=>∃(e:Z1) (p2:Nat),r=Y2 e/\h=[Yv rd bs p2,XJ gb rs]/\GE g f.params.length 200 e/\p<=p2/\p2<=p+1000):=by
 obtain ⟨hil,_⟩:=Xn.1 hf
 have hgl:=hg.len
 have hso:=(hg.sigs f (Y4 hf)).bd
 have hbv:=Dd
 refine ZF 75 Tryz.func230 (ar (iA (Wo g gb) fun b1=>iA [.i 0,.i 0,nl] fun b2=>ie (Zv 3 [1] (Zm (Wj gb g.funcs.length 4 i.toNat 5 i) (Z2 1 (V2 (Vl 3 gb 4 4 5 (i.toNat * 5+0) (Zl (Xp rs)) [Z4 f.params] 31 (Z4 f.params) (UB Wk hf 0 rfl (V5 rfl))) (Z0 (ar (Zz [] (Q1 0) (Zz [] (A8 1) (UE [Y2 (Z1.mk 12 0 []),Y2 (Z1.mk 0 1 [])] (Yq [Z1.mk 12 0 [],Z1.mk 0 1 []]) (XI [Z1.mk 12 0 [],Z1.mk 0 1 []]).symm 2 3 fun v1=>ZQ 0 [(20,Xx [Z1.mk 12 0 [],Z1.mk 0 1 []])] (Zz [] (XM 2 0 [Z1.mk 12 0 [],Z1.mk 0 1 []]) (UE [Y2 (Z1.mk 2 0 [Z1.mk 12 0 [],Z1.mk 0 1 []])] (Yq [Z1.mk 2 0 [Z1.mk 12 0 [],Z1.mk 0 1 []]]) (XI [Z1.mk 2 0 [Z1.mk 12 0 [],Z1.mk 0 1 []]]).symm 1 3 fun v2=>?_)))))))))))))
 refine Z0 (Yb (ab 0 (Y3 (fun fz gz m F h=>∃(k:Nat) (ys:List Z1) (u:Value) (pq:Nat),(1<=k/\k<=f.params.length)/\(ys.length=k)/\(∀e∈ys,GE g f.params.length 4 e)/\(p<=pq/\pq<=p+30*k)/\F=sF [0,2,4,6,7] fz [(8,Ql ys u),(9,.i k)]/\h=[Zc gz 2,Zc gz 3,Yv rd bs pq,Zc gz 5,.tail u 3]/\m=f.params.length-k) _ _ _ ⟨1,[Z1.mk 2 0 [Z1.mk 12 0 [],Z1.mk 0 1 []]],v2,p,ob,ob,(GR (GE.two (s1:=1) (s2:=1) om om (GE.var om om om) (GE.int om om) om)),ob,rfl,rfl,rfl⟩ (wk [2,2,2,2,0] (fr (fc (x:=.i 1) li fl))) ?_)))
 rintro m F h ⟨k,ys,u,pq,Yf,Zh,Zw,Yp,rfl,rfl,rfl⟩
 refine YM 2 (iw (Y8 f.params) (Y1 ((k:Int)<(f.params.length:Int)) (fun Za=>?_) (fun Za=>?_)))
 ·refine ak (aq (ab 1 (aE 12 (ZI 6 12 [0,1,2,3,4,5] [1] ?_))))
  obtain ⟨x1,Z3⟩:=Zr f.params k om
  refine dx 6 (Zj none (k:Int) 1 (Y0 Z3)) (Zk 4 5 [7] (Z9 8 (dc 8 [2,2] [] [] (Cq rd bs pq g gb rs f.params x1 (ZK:=ob)) ?_)))
  rintro _ _ ⟨e1,p21,rfl,rfl,ZX⟩
  have hle:=ZX.1
  exact Z9 9 (Wy 9 [] [] [Y2 e1] (Yq [e1]) (XI [e1]).symm 1 3 fun v3=>Yt 2 2 [] [(38,Xx [e1])] (Z9 10 (dp 10 5 [] [] (Yq (ys++[e1])) (Yq ys) (Yq [e1]) u none 3 (T8 _) (T8 _) (JA _) (by simp<;>omega) (by simp [Jz,Yq]) fun v4=>Zk 0 1 [11] (de (az (Z2 1 (ZJ k (Z0 (ZL ⟨k+1,(ys++[e1]),v4,p21,ob,ob,(Xy Zw hle),ob,rfl,rfl,rfl⟩ (wk [4,4,2,2,0] (fr (ZP k fl))))))))))))
 refine ax 0 (ar (ZQ 2 [(41,Xx ys)] (Zz [] (XM 9 i ys) (iA [.i 0,.i 0,nl] fun b3=>?_))))
 refine ZH 0 b3 (YX (Z1.mk 9 i ys)) (ie (Yi 3 [2] (Zm (Wj gb g.funcs.length 4 i.toNat 5 i) (Z2 1 (V2 (Vl 4 gb 4 4 5 (i.toNat * 5+1) (Zl (Xp rs)) [.i f.result] 3 (.i f.result) (UB Wk hf 1 rfl (V5 rfl))) (Z0 (XK (fun fz gz F h=>∃(eQ:Z1) (p6:Nat),(GE g f.params.length 34 eQ)/\(p<=p6/\p6<=p+350)/\F=sF [0,2,4,6,7,10] fz []/\h=[.obj b3 (YX eQ),Zc gz 1,Zc gz 2,Yv rd bs p6,Zc gz 4]) ?_ ?_)))))))
 ·refine ac (f.result==1) Zo (fun Zg=>?_) (fun Zg=>?_)
  ·refine aE 8 (ZI 4 8 [0,1,2,4] [2,0] (Z9 3 (dc 3 [3,3] [0] [b3] (QE rd bs pq g gb rs f.params 0 3 (ZK:=ob)) ?_)))
   rintro _ _ ⟨e2,p22,rfl,rfl,Yh⟩
   have Xc:=Yh.1
   have QF:=Yh.2
   try rw [Ys] at Xc
   first|rw [hbv.2.1] at Xc|rw [hbv.1] at Xc
   exact Z9 5 (Wy 5 [] [] [Y2 e2,Y2 (Z1.mk 9 i ys)] (Yq [e2,Z1.mk 9 i ys]) (XI [e2,Z1.mk 9 i ys]).symm 2 3 fun v5=>Yt 2 2 [] [(55,Xx [e2,Z1.mk 9 i ys])] (Z9 6 (Yo 6 [] [] [] (XM 6 1 [e2,Z1.mk 9 i ys]) (Z9 7 (YI 7 3 [] [] b3 (YX (Z1.mk 6 1 [e2,Z1.mk 9 i ys])) (de (ZO ⟨(Z1.mk 6 1 [e2,Z1.mk 9 i ys]),p22,(GE.two (s1:=20) (s2:=13) om om Xc (GE.node (L:=f.params.length) (s:=4) (q:=13) om (fun _=>by omega) om Zw om om om) om),ob,rfl,rfl⟩ (wk [0,3,3,1,1] fl))))))))
  exact ak (ZO ⟨(Z1.mk 9 i ys),pq,(GE.le (GE.node (L:=f.params.length) (s:=4) (q:=13) om (fun _=>by omega) om Zw om om om) om),ob,rfl,rfl⟩ (ZG 5 fl))
 rintro F h ⟨eQ,p6,VY,Af,rfl,rfl⟩
 refine ar (Zz [] (A8 0) (Zz [] (Q1 0) (UE [Y2 (Z1.mk 0 0 []),Y2 (Z1.mk 12 0 [])] (Yq [Z1.mk 0 0 [],Z1.mk 12 0 []]) (XI [Z1.mk 0 0 [],Z1.mk 12 0 []]).symm 2 3 fun v6=>ZQ 0 [(59,Xx [Z1.mk 0 0 [],Z1.mk 12 0 []])] (Zz [] (XM 4 0 [Z1.mk 0 0 [],Z1.mk 12 0 []]) (iA [.i 0,.i 0,nl] fun b4=>ZH 0 b4 (YX (Z1.mk 4 0 [Z1.mk 0 0 [],Z1.mk 12 0 []])) (ie (aD 15 (ZI 7 15 [0,1,2,3,4,5,6,7] [0,2,4,4] (dx 8 (Wj gb g.funcs.length 4 i.toNat 5 i) (Zk 5 6 [9] (U5 10 (Vl 6 gb 4 4 5 (i.toNat * 5+1) (Zl (Xp rs)) [.i f.result] 3 (.i f.result) (UB Wk hf 1 rfl (V5 rfl))) (Z9 11 (dc 11 [5,5] [1,0] [b3,b4] (QE rd bs p6 g gb rs f.params f.result 4 (ZK:=ob)) ?_)))))))))))))
 rintro _ _ ⟨e3,p23,rfl,rfl,YH⟩
 have Xc:=YH.1
 have QF:=YH.2
 try rw [Ys] at Xc
 first|rw [hbv.2.1] at Xc|rw [hbv.1] at Xc
 exact Z9 12 (Wy 12 [] [] [Y2 (Z1.mk 4 0 [Z1.mk 0 0 [],Z1.mk 12 0 []]),Y2 eQ,Y2 e3] (Yq [Z1.mk 4 0 [Z1.mk 0 0 [],Z1.mk 12 0 []],eQ,e3]) (XI [Z1.mk 4 0 [Z1.mk 0 0 [],Z1.mk 12 0 []],eQ,e3]).symm 3 3 fun v7=>Yt 2 2 [] [(73,Xx [Z1.mk 4 0 [Z1.mk 0 0 [],Z1.mk 12 0 []],eQ,e3])] (Z9 13 (Yo 13 [] [] [] (XM 7 0 [Z1.mk 4 0 [Z1.mk 0 0 [],Z1.mk 12 0 []],eQ,e3]) (Z9 14 (YI 14 6 [] [] b2 (YX (Z1.mk 7 0 [Z1.mk 4 0 [Z1.mk 0 0 [],Z1.mk 12 0 []],eQ,e3])) (de (ZD (r3 [2,2] [Y2 (Z1.mk 7 0 [Z1.mk 4 0 [Z1.mk 0 0 [],Z1.mk 12 0 []],eQ,e3])] [0] [(b2,b2)] ⟨(Z1.mk 7 0 [Z1.mk 4 0 [Z1.mk 0 0 [],Z1.mk 12 0 []],eQ,e3]),p23,rfl,rfl,⟨GE.three (s1:=3) (s2:=34) (s3:=30) om om (GE.two (s1:=1) (s2:=1) om om (GE.int om om) (GE.var om om om) om) VY Xc om,by omega⟩⟩ (lr _)))))))))
theorem Z5a (xs:LI) (t:Int) (hl:xs.length<=1000:=by exact ob):Zi 225 [Z4 xs,.i t] [] (fun r h=>∃(w:Int),r=.i w/\h=[]/\-1<=w/\w<xs.length):=by
 refine ZF 19 Tryz.func225 (ZE (Yb (ab 0 (Y3 (fun fz gz m F h=>∃(k:Nat),(k<=xs.length)/\F=sF [0,1] fz [(5,.i k)]/\h=gz/\m=xs.length-k) _ _ _ ⟨0,ob,rfl,rfl,rfl⟩ (wk [] (Y9 fl)) ?_))))
 rintro m F h ⟨k,Yf,rfl,rfl,rfl⟩
 refine YM 2 (iw (Y8 xs) (Y1 ((k:Int)<(xs.length:Int)) (fun Za=>?_) (fun Za=>?_)))
 ·refine ak (aq (ab 1 (Y6 2 ?_)))
  obtain ⟨x1,Z3⟩:=Zr xs k om
  refine Zm (Zj none (k:Int) 1 (Y0 Z3)) (YC (x1==t) Zo (fun Zg=>?_) (fun Zg=>?_))
  ·exact ar (Zq (r1 [] ⟨(k:Int),rfl,rfl,ob⟩))
  exact ak (az (Z2 1 (ZJ k (Z0 (ZL ⟨k+1,ob,rfl,rfl,rfl⟩ (wk [] (ZP k fl)))))))
 exact ax 0 (ar (Zq (r1 [] ⟨(-1),rfl,rfl,ob⟩)))
theorem Z3v (rd:Nat) (bs:LI) (p:Nat) (g:W4) (gb:Nat) (rs:List Func) (f:Func) (i:Int) (ZK:∀z∈bs,0<=z/\z<=255) (hp:p+90000<=1000000000) (hg:GP g) (Wk:g.funcs <+: rs) (hi:0<=i) (hf:g.funcs[i.toNat]? = some f) (h0:i=0->f.params.length=0):Zi 177 [.p rd 0,.agg (Wo g gb),.i i] [Yv rd bs p,XJ gb rs] (fun r h=>∃(e:Z1) (p2:Nat),r=Y2 e/\h=[Yv rd bs p2,XJ gb rs]/\GE g f.params.length 30 e/\p<=p2/\p2<=p+90000):=by
 obtain ⟨hil,_⟩:=Xn.1 hf
 have hgl:=hg.len
 have hso:=(hg.sigs f (Y4 hf)).bd
 have hbv:=Dd
 refine ZF 121 Tryz.func177 (ar (iA (Wo g gb) fun b1=>iA [.i 0,.i 0,nl] fun b2=>ie (Zv 3 [1] (Zm (Wj gb g.funcs.length 4 i.toNat 5 i) (Z2 1 (V2 (Vl 3 gb 4 4 5 (i.toNat * 5+0) (Zl (Xp rs)) [Z4 f.params] 31 (Z4 f.params) (UB Wk hf 0 rfl (V5 rfl))) (Z0 (Zv 3 [1] (Zm (Wj gb g.funcs.length 4 i.toNat 5 i) (Z2 1 (V2 (Vl 3 gb 4 4 5 (i.toNat * 5+1) (Zl (Xp rs)) [.i f.result] 3 (.i f.result) (UB Wk hf 1 rfl (V5 rfl))) (Z0 (Y6 1 (ic [] (Z5a f.params 1) ?_))))))))))))))
 rintro _ _ ⟨w1,rfl,rfl,ZX⟩
 have hpl:=ZX
 refine Z0 (ar (Zz [] (A8 0) (iA [.i 0,.i 0,nl] fun b3=>ZH 0 b3 (YX (Z1.mk 0 0 [])) (ie (Y6 1 (ic [3] (Wb rd bs p 4 (ZK:=ob)) ?_))))))
 rintro _ _ ⟨k1,rfl,rfl,Yh⟩
 have qhp2:=Yh.lt om
 refine Z0 (aq (aq (XK (fun fz gz F h=>∃(wb:Bool),(wb=true->i=0)/\F=sF [0,2,4,6,7,8,9,10,11] fz [(34,.b wb)]/\h=gz) ?_ ?_)))
 ·refine az (Z2 3 (ib (b:=(decide (k1<3))) 31 (fun Zb=>?_) (fun Zb=>?_)))
  ·have YH:k1<3:=(dq).1 Zb
   exact Z0 (ZO ⟨(i==0),(by first|exact (fun h=>Bool.noConfusion h)|(intro h;omega)|(intro h;simp at h;omega)),rfl,rfl⟩ (ZG 5 fl))
  have YQ:¬(k1<3):=Yc dq Zb
  exact Z0 (ZO ⟨false,(by first|exact (fun h=>Bool.noConfusion h)|(intro h;omega)|(intro h;simp at h;omega)),rfl,rfl⟩ (ZG 5 fl))
 rintro F h ⟨wb,kR6_0,rfl,rfl⟩
 refine XK (fun fz gz F h=>∃(eQ:Z1) (p6:Nat),(GE g f.params.length 200 eQ)/\(p<=p6/\p6<=p+42000)/\F=sF [0,4,6,7,8,10] fz []/\h=[Yv rd bs p6,.obj b3 (YX eQ),Zc gz 2,Zc gz 3,Zc gz 4]) ?_ ?_
 ·refine ac wb Iff.rfl (fun Za=>?_) (fun Za=>?_)
  ·refine az (ZM 2 [3] (ic [0,3] (Z4x rd bs (p+1) g gb rs (ZK:=ob)) ?_))
   rintro _ _ ⟨e1,p21,rfl,rfl,Xa⟩
   have hbd:=Xa.1
   have hbp:=Xa.2
   exact ZH 2 b3 (YX e1) (ie (ZO ⟨e1,p21,(by rw [h0 (kR6_0 (by assumption))];exact hbd),ob,rfl,rfl⟩ (wk [1,0,1,1,0] fl)))
  refine aq (XK (fun fz gz F h=>∃(wb:Bool),(wb=true->0<=w1)/\F=sF [0,2,4,6,7,8,9,10,11] fz [(51,.b wb)]/\h=gz) ?_ ?_)
  ·refine az (Z2 3 (ib (b:=(decide (k1<3))) 40 (fun ZB=>?_) (fun ZB=>?_)))
   ·have XP:k1<3:=(dq).1 ZB
    refine Z2 4 (ib (b:=(decide (w1>=0))) 44 (fun Yz=>?_) (fun Yz=>?_))
    ·have Wr:w1>=0:=(dq).1 Yz
     refine Z2 3 (ib (b:=(f.result==0)) 47 (fun Xv=>?_) (fun Xv=>?_))
     ·have WT:f.result=0:=(Zo).1 Xv
      exact Z0 (ZO ⟨true,(by first|exact (fun h=>Bool.noConfusion h)|(intro h;omega)|(intro h;simp at h;omega)),rfl,rfl⟩ (ZG 5 fl))
     have Ve:¬(f.result=0):=Yc Zo Xv
     exact Z0 (ZO ⟨(f.result==1),(by first|exact (fun h=>Bool.noConfusion h)|(intro h;omega)|(intro h;simp at h;omega)),rfl,rfl⟩ (ZG 5 fl))
    have UD:¬(w1>=0):=Yc dq Yz
    exact Z0 (ZO ⟨false,(by first|exact (fun h=>Bool.noConfusion h)|(intro h;omega)|(intro h;simp at h;omega)),rfl,rfl⟩ (ZG 5 fl))
   have Td:¬(k1<3):=Yc dq ZB
   exact Z0 (ZO ⟨false,(by first|exact (fun h=>Bool.noConfusion h)|(intro h;omega)|(intro h;simp at h;omega)),rfl,rfl⟩ (ZG 5 fl))
  rintro F h ⟨wb,kR8_0,rfl,rfl⟩
  refine ac wb Iff.rfl (fun Zg=>?_) (fun Zg=>?_)
  ·refine az (ZM 4 [3] (ic [0,3] (Z55 rd bs (p+1) g gb rs _ i w1 (ZK:=ob) (hw:=(by have:=kR8_0 (by assumption);omega))) ?_))
   rintro _ _ ⟨e2,p22,rfl,rfl,US⟩
   have hbd:=US.1
   have hbp:=US.2
   exact ZH 2 b3 (YX e2) (ie (ZO ⟨e2,p22,(GE.le hbd om),ob,rfl,rfl⟩ (wk [1,0,1,1,0] fl)))
  refine aq (XK (fun fz gz F h=>∃(wb:Bool),(wb=true->0<f.params.length)/\F=sF [0,2,4,6,7,8,10,11] fz [(77,.b wb)]/\h=gz) ?_ ?_)
  ·refine az (Z2 3 (ib (b:=(decide (k1<3))) 59 (fun Wu=>?_) (fun Wu=>?_)))
   ·have Qi:k1<3:=(dq).1 Wu
    refine Z2 1 (iw (Y8 f.params) (Z2 3 (ib (b:=(decide ((f.params.length:Int)>0))) 64 (fun V1=>?_) (fun V1=>?_))))
    ·have Q3:(f.params.length:Int)>0:=(dq).1 V1
     refine Z2 1 ?_
     obtain ⟨x1,Z3⟩:=Zr f.params 0 om
     refine Zm (Zj none 0 1 (Y0 Z3)) (Z2 4 (ib (b:=(x1==3)) 70 (fun Vk=>?_) (fun Vk=>?_)))
     ·have KH:x1=3:=(Zo).1 Vk
      refine Z2 3 (ib (b:=(f.result==0)) 73 (fun V9=>?_) (fun V9=>?_))
      ·have KI:f.result=0:=(Zo).1 V9
       exact Z0 (ZO ⟨true,(by first|exact (fun h=>Bool.noConfusion h)|(intro h;omega)|(intro h;simp at h;omega)),rfl,rfl⟩ (ZG 5 fl))
      have AR:¬(f.result=0):=Yc Zo V9
      exact Z0 (ZO ⟨(f.result==3),(by first|exact (fun h=>Bool.noConfusion h)|(intro h;omega)|(intro h;simp at h;omega)),rfl,rfl⟩ (ZG 5 fl))
     have Jf:¬(x1=3):=Yc Zo Vk
     exact Z0 (ZO ⟨false,(by first|exact (fun h=>Bool.noConfusion h)|(intro h;omega)|(intro h;simp at h;omega)),rfl,rfl⟩ (ZG 5 fl))
    have NO:¬((f.params.length:Int)>0):=Yc dq V1
    exact Z0 (ZO ⟨false,(by first|exact (fun h=>Bool.noConfusion h)|(intro h;omega)|(intro h;simp at h;omega)),rfl,rfl⟩ (ZG 5 fl))
   have NP:¬(k1<3):=Yc dq Wu
   exact Z0 (ZO ⟨false,(by first|exact (fun h=>Bool.noConfusion h)|(intro h;omega)|(intro h;simp at h;omega)),rfl,rfl⟩ (ZG 5 fl))
  rintro F h ⟨wb,kR10_0,rfl,rfl⟩
  refine ac wb Iff.rfl (fun ZC=>?_) (fun ZC=>?_)
  ·refine az (ZM 3 [3] (ic [0,3] (Z56 rd bs (p+1) g gb rs _ i (ZK:=ob) (h0:=(kR10_0 (by assumption)))) ?_))
   rintro _ _ ⟨e3,p23,rfl,rfl,HZ⟩
   have hbd:=HZ.1
   have hbp:=HZ.2
   exact ZH 2 b3 (YX e3) (ie (ZO ⟨e3,p23,(GE.le hbd om),ob,rfl,rfl⟩ (wk [1,0,1,1,0] fl)))
  refine aq (XK (fun fz gz F h=>∃(wb:Bool),(wb=true->0<f.params.length)/\F=sF [0,2,4,6,7,8,10] fz [(102,.b wb)]/\h=gz) ?_ ?_)
  ·refine az (Z2 3 (ib (b:=(decide (k1<3))) 84 (fun Va=>?_) (fun Va=>?_)))
   ·have Z5y:k1<3:=(dq).1 Va
    refine Z2 1 (iw (Y8 f.params) (Z2 3 (ib (b:=(decide ((f.params.length:Int)>0))) 89 (fun Qh=>?_) (fun Qh=>?_))))
    ·have Z5z:(f.params.length:Int)>0:=(dq).1 Qh
     refine Z2 1 ?_
     obtain ⟨x2,Zu⟩:=Zr f.params 0 om
     refine Zm (Zj none 0 1 (Y0 Zu)) (Z2 4 (ib (b:=(x2==0)) 95 (fun Ab=>?_) (fun Ab=>?_)))
     ·have Z60:x2=0:=(Zo).1 Ab
      refine Z2 3 (ib (b:=(f.result==0)) 98 (fun Ac=>?_) (fun Ac=>?_))
      ·have Z61:f.result=0:=(Zo).1 Ac
       exact Z0 (ZO ⟨true,(by first|exact (fun h=>Bool.noConfusion h)|(intro h;omega)|(intro h;simp at h;omega)),rfl,rfl⟩ (ZG 5 fl))
      have Z62:¬(f.result=0):=Yc Zo Ac
      exact Z0 (ZO ⟨(f.result==1),(by first|exact (fun h=>Bool.noConfusion h)|(intro h;omega)|(intro h;simp at h;omega)),rfl,rfl⟩ (ZG 5 fl))
     have Z63:¬(x2=0):=Yc Zo Ab
     exact Z0 (ZO ⟨false,(by first|exact (fun h=>Bool.noConfusion h)|(intro h;omega)|(intro h;simp at h;omega)),rfl,rfl⟩ (ZG 5 fl))
    have Z64:¬((f.params.length:Int)>0):=Yc dq Qh
    exact Z0 (ZO ⟨false,(by first|exact (fun h=>Bool.noConfusion h)|(intro h;omega)|(intro h;simp at h;omega)),rfl,rfl⟩ (ZG 5 fl))
   have Z65:¬(k1<3):=Yc dq Va
   exact Z0 (ZO ⟨false,(by first|exact (fun h=>Bool.noConfusion h)|(intro h;omega)|(intro h;simp at h;omega)),rfl,rfl⟩ (ZG 5 fl))
  rintro F h ⟨wb,kR12_0,rfl,rfl⟩
  refine ac wb Iff.rfl (fun Yd=>?_) (fun Yd=>?_)
  ·refine az (ZM 3 [3] (ic [0,3] (Z4d rd bs (p+1) g gb rs _ i (ZK:=ob) (h0:=(kR12_0 (by assumption)))) ?_))
   rintro _ _ ⟨e4,p24,rfl,rfl,I0⟩
   have hbd:=I0.1
   have hbp:=I0.2
   exact ZH 2 b3 (YX e4) (ie (ZO ⟨e4,p24,(GE.le hbd om),ob,rfl,rfl⟩ (wk [1,0,1,1,0] fl)))
  refine az (ZM 4 [3] (ic [0,3] (Nu rd bs (p+1) g gb rs f.params f.result 18 (ZK:=ob)) ?_))
  rintro _ _ ⟨e5,p25,rfl,rfl,I1⟩
  have hbd:=I1.1
  have hbp:=I1.2
  exact ZH 2 b3 (YX e5) (ie (ZO ⟨e5,p25,(GE.le hbd om),ob,rfl,rfl⟩ (wk [1,0,1,1,0] fl)))
 rintro F h ⟨eQ,p6,KJ,I9,rfl,rfl⟩
 refine Yi 1 [1] (ic [] (NB eQ (hz:=(by have:=KJ.2;omega))) ?_)
 rintro _ _ ⟨w2,rfl,rfl,NQ⟩
 have DA:=NQ
 have Xl:=KJ.2
 refine Y1 (w2<0) (fun Xf=>?_) (fun Xf=>?_)
 ·refine Zv 4 [3] (ic [0,3] (Nu rd bs p6 g gb rs f.params f.result 12 (ZK:=ob)) ?_)
  rintro _ _ ⟨e6,p26,rfl,rfl,F9⟩
  have hbd:=F9.1
  have hbp:=F9.2
  exact ZH 3 b2 (YX e6) (ie (ZD (r3 [1,1] [Y2 e6] [0] [(b2,b2)] ⟨e6,p26,rfl,rfl,⟨hbd,by omega⟩⟩ (lr _))))
 exact ak (Zv 1 [1] (ZH 2 b2 (YX eQ) (ie (ZD (r3 [1,3] [Y2 eQ] [0] [(b2,b2)] ⟨eQ,p6,rfl,rfl,⟨⟨KJ.1,by omega⟩,by omega⟩⟩ (lr _))))))
theorem TL (ps:LI) (rt:Int) :Zi 176 [Z4 ps,.i rt] [] (Yk (Db (Func.mk ps rt (Z1.mk 0 0 [])))):=by
 exact ZF 8 Tryz.func176 (ar (iA [nl,.i 0,.i 0,.i 0,nl] fun b1=>ie (Y6 3 (ZH 0 b1 [Z4 ps,.i rt,.i 0,.i 0,nl] (ie (ZD (r3 [] [.agg [Z4 ps,.i rt,.i 0,.i 0,nl]] [0] [(b1,b1)] ⟨rfl,rfl⟩ (Zd.agg (.cons (Zd.sl _ (Ym Z6 ob)) (.cons li (.cons li (.cons li (.cons (Zd.sl _ rfl) .nil)))))))))))))
theorem Z54 (rd:Nat) (bs:LI) (p:Nat) (xs:LI) (ZK:∀z∈bs,0<=z/\z<=255) (hp:p+1<=1000000000:=by exact ob) (hx:0<xs.length/\xs.length<=1000000:=by exact ob) (hy:xs.all (fun x=>decide (0<=x))=true:=by exact ob):Zi 62 [.p rd 0,Z4 xs] [Yv rd bs p] (fun r h=>∃(nn:Nat),r=.i nn/\h=[.obj rd [U8 bs,.i (p+1:Nat)]]/\(nn:Int)∈xs):=(VW rd bs p xs ZK hp hx).mono fun r h ⟨z,hr,hh,hz⟩=>by
  have h0:0<=z:=of_decide_eq_true (Jk.1 hy z hz)
  exact ⟨z.toNat,by rw [hr,Int.toNat_of_nonneg h0],hh,by rw [Int.toNat_of_nonneg h0];exact hz⟩
theorem Z3w (rd:Nat) (bs:LI) (p:Nat) (g:W4) (gb:Nat) (rs:List Func) (f:Func) (i:Int) (nl:Nat) (ZK:∀z∈bs,0<=z/\z<=255) (hp:p+90000<=1000000000:=by exact ob) (hg:GP g:=by exact ob) (Wk:g.funcs <+: rs:=by exact ob) (hi:0<=i:=by exact ob) (hf:g.funcs[i.toNat]? = some f:=by exact ob) (h0:i=0->f.params.length=0:=by exact ob) (hn:g.funcs.length=nl:=by exact ob):Zi 177 [.p rd 0,.agg [ZT g.decls,.ms gb 0 nl 4],.i i] [Yv rd bs p,XJ gb rs] (fun r h=>∃(e:Z1) (p2:Nat),r=Y2 e/\h=[Yv rd bs p2,XJ gb rs]/\GE g f.params.length 30 e/\p<=p2/\p2<=p+90000):=(by subst hn;exact Z3v rd bs p g gb rs f i ZK hp hg Wk hi hf h0)
theorem Z4j (rd:Nat) (bs:LI) (p:Nat) (ZK:∀z∈bs,0<=z/\z<=255) (hp:p+400000<=1000000000):Zi 134 [.p rd 0] [Yv rd bs p] (fun r h=>∃(rs:List Func) (ds:List Zf) (m:Nat) (gb:Nat) (p2:Nat),r=.agg [ZT ds,.ms gb 0 m 4]/\h=[XJ gb rs,Yv rd bs p2]/\(GL ds m 0 rs/\GD ds/\1<=m/\m<=4)/\p<=p2/\p2<=p+400000):=by
 refine ZF 110 Tryz.func134 (ar (iA [nl,nl] fun b1=>ie (Y6 1 (ic [1] (Z4h rd bs p (ZK:=ob)) ?_))))
 rintro _ _ ⟨ds1,v1,rfl,rfl,ZX⟩
 have hgd:=ZX
 refine Z2 1 (iA [nl,nl] fun b2=>ZH 0 b2 [JF ds1 v1,nl] (ie (ar (iL (Z6 [1]) 1 1 fun v2=>ZQ 0 [(13,Z4 [1])] (Zz [] (TL [1] 0) (iL (Z6 [1,1]) 2 1 fun v3=>ZQ 0 [(15,Z4 [1,1])] (Zz [] (TL [1,1] 1) (iL (Z6 [1]) 1 1 fun v4=>ZQ 0 [(17,Z4 [1])] (Zz [] (TL [1] 1) (iL (Z6 [1,0]) 2 1 fun v5=>ZQ 0 [(19,Z4 [1,0])] (Zz [] (TL [1,0] 1) (iL (Z6 [2,1]) 2 1 fun v6=>ZQ 0 [(21,Z4 [2,1])] (Zz [] (TL [2,1] 1) (iL (Z6 [1,1]) 2 1 fun v7=>ZQ 0 [(23,Z4 [1,1])] (Zz [] (TL [1,1] 0) (iL (Xp [Func.mk [1] 0 (Z1.mk 0 0 []),Func.mk [1,1] 1 (Z1.mk 0 0 []),Func.mk [1] 1 (Z1.mk 0 0 []),Func.mk [1,0] 1 (Z1.mk 0 0 []),Func.mk [2,1] 1 (Z1.mk 0 0 []),Func.mk [1,1] 0 (Z1.mk 0 0 [])]) 6 5 fun v8=>Z0 (ar (iL (Z6 [3]) 1 1 fun v9=>ZQ 0 [(26,Z4 [3])] (Zz [] (TL [3] 0) (iL (Z6 [0]) 1 1 fun v10=>ZQ 0 [(28,Z4 [0])] (Zz [] (TL [0] 1) (iL (Z6 [0,1]) 2 1 fun v11=>ZQ 0 [(30,Z4 [0,1])] (Zz [] (TL [0,1] 1) (iL (Z6 [3,0]) 2 1 fun v12=>ZQ 0 [(32,Z4 [3,0])] (Zz [] (TL [3,0] 3) (iL (Z6 [3]) 1 1 fun v13=>ZQ 0 [(34,Z4 [3])] (Zz [] (TL [3] 1) (iL (Z6 [1,3,0]) 3 1 fun v14=>ZQ 0 [(36,Z4 [1,3,0])] (Zz [] (TL [1,3,0] 0) (iL (Xp [Func.mk [3] 0 (Z1.mk 0 0 []),Func.mk [0] 1 (Z1.mk 0 0 []),Func.mk [0,1] 1 (Z1.mk 0 0 []),Func.mk [3,0] 3 (Z1.mk 0 0 []),Func.mk [3] 1 (Z1.mk 0 0 []),Func.mk [1,3,0] 0 (Z1.mk 0 0 [])]) 6 5 fun v15=>Z0 (ar (iL (Z6 [0]) 1 1 fun v16=>ZQ 0 [(39,Z4 [0])] (Zz [] (TL [0] 0) (iL (Z6 [0,0]) 2 1 fun v17=>ZQ 0 [(41,Z4 [0,0])] (Zz [] (TL [0,0] 0) (iL (Z6 [1,0]) 2 1 fun v18=>ZQ 0 [(43,Z4 [1,0])] (Zz [] (TL [1,0] 0) (iL (Z6 [0]) 1 1 fun v19=>ZQ 0 [(45,Z4 [0])] (Zz [] (TL [0] 1) (iL (Xp [Func.mk [0] 0 (Z1.mk 0 0 []),Func.mk [0,0] 0 (Z1.mk 0 0 []),Func.mk [1,0] 0 (Z1.mk 0 0 []),Func.mk [0] 1 (Z1.mk 0 0 [])]) 4 5 fun v20=>Z0 (aD 26 (Zk 23 26 [2,3,4] (dn 5 (.i (([Func.mk [1] 0 (Z1.mk 0 0 []),Func.mk [1,1] 1 (Z1.mk 0 0 []),Func.mk [1] 1 (Z1.mk 0 0 []),Func.mk [1,0] 1 (Z1.mk 0 0 []),Func.mk [2,1] 1 (Z1.mk 0 0 []),Func.mk [1,1] 0 (Z1.mk 0 0 [])].length:Nat):Int)) (.i (((Xp [Func.mk [1] 0 (Z1.mk 0 0 []),Func.mk [1,1] 1 (Z1.mk 0 0 []),Func.mk [1] 1 (Z1.mk 0 0 []),Func.mk [1,0] 1 (Z1.mk 0 0 []),Func.mk [2,1] 1 (Z1.mk 0 0 []),Func.mk [1,1] 0 (Z1.mk 0 0 [])]).length:Nat):Int)) (li (by rw [Ck])) (Zk 19 22 [9,10,11] (dn 12 (.i (([Func.mk [3] 0 (Z1.mk 0 0 []),Func.mk [0] 1 (Z1.mk 0 0 []),Func.mk [0,1] 1 (Z1.mk 0 0 []),Func.mk [3,0] 3 (Z1.mk 0 0 []),Func.mk [3] 1 (Z1.mk 0 0 []),Func.mk [1,3,0] 0 (Z1.mk 0 0 [])].length:Nat):Int)) (.i (((Xp [Func.mk [3] 0 (Z1.mk 0 0 []),Func.mk [0] 1 (Z1.mk 0 0 []),Func.mk [0,1] 1 (Z1.mk 0 0 []),Func.mk [3,0] 3 (Z1.mk 0 0 []),Func.mk [3] 1 (Z1.mk 0 0 []),Func.mk [1,3,0] 0 (Z1.mk 0 0 [])]).length:Nat):Int)) (li (by rw [Ck])) (Zk 15 18 [16,17,18] (dn 19 (.i (([Func.mk [0] 0 (Z1.mk 0 0 []),Func.mk [0,0] 0 (Z1.mk 0 0 []),Func.mk [1,0] 0 (Z1.mk 0 0 []),Func.mk [0] 1 (Z1.mk 0 0 [])].length:Nat):Int)) (.i (((Xp [Func.mk [0] 0 (Z1.mk 0 0 []),Func.mk [0,0] 0 (Z1.mk 0 0 []),Func.mk [1,0] 0 (Z1.mk 0 0 []),Func.mk [0] 1 (Z1.mk 0 0 [])]).length:Nat):Int)) (li (by rw [Ck])) (Z9 0 (dL 0 [] [] (Z6 []) 0 1 fun v21=>Yt 13 13 [] [(48,Z4 [])] (Z9 1 (Yo 1 [] [] [] (TL [] 0) (Z9 6 (dc 6 [22] [] [] (Wb rd bs (p+1) (([Func.mk [1] 0 (Z1.mk 0 0 []),Func.mk [1,1] 1 (Z1.mk 0 0 []),Func.mk [1] 1 (Z1.mk 0 0 []),Func.mk [1,0] 1 (Z1.mk 0 0 []),Func.mk [2,1] 1 (Z1.mk 0 0 []),Func.mk [1,1] 0 (Z1.mk 0 0 [])].length:Nat):Int) (ZK:=ob)) ?_)))))))))))))))))))))))))))))))))))))))))))))))))))))
 rintro _ _ ⟨k1,rfl,rfl,Yh⟩
 have qhp2:=Yh.lt (by simp)
 simp only [YS,Xt] at qhp2
 obtain ⟨x1,Z3⟩:=Zr [Func.mk [1] 0 (Z1.mk 0 0 []),Func.mk [1,1] 1 (Z1.mk 0 0 []),Func.mk [1] 1 (Z1.mk 0 0 []),Func.mk [1,0] 1 (Z1.mk 0 0 []),Func.mk [2,1] 1 (Z1.mk 0 0 []),Func.mk [1,1] 0 (Z1.mk 0 0 [])] k1.toNat (by simp only [YS,Xt];omega)
 refine dx 7 (Zj (some v8) k1 5 (EG Z3)) (Zk 9 10 [8] (Z9 13 (dc 13 [0] [] [] (Wb rd bs ((p+1)+1) (([Func.mk [3] 0 (Z1.mk 0 0 []),Func.mk [0] 1 (Z1.mk 0 0 []),Func.mk [0,1] 1 (Z1.mk 0 0 []),Func.mk [3,0] 3 (Z1.mk 0 0 []),Func.mk [3] 1 (Z1.mk 0 0 []),Func.mk [1,3,0] 0 (Z1.mk 0 0 [])].length:Nat):Int) (ZK:=ob)) ?_)))
 rintro _ _ ⟨k2,rfl,rfl,YH⟩
 have qhp3:=YH.lt (by simp)
 simp only [YS,Xt] at qhp3
 obtain ⟨x2,Zu⟩:=Zr [Func.mk [3] 0 (Z1.mk 0 0 []),Func.mk [0] 1 (Z1.mk 0 0 []),Func.mk [0,1] 1 (Z1.mk 0 0 []),Func.mk [3,0] 3 (Z1.mk 0 0 []),Func.mk [3] 1 (Z1.mk 0 0 []),Func.mk [1,3,0] 0 (Z1.mk 0 0 [])] k2.toNat (by simp only [YS,Xt];omega)
 refine dx 14 (Zj (some v15) k2 5 (EG Zu)) (Zk 6 7 [15] (Z9 20 (dc 20 [0] [] [] (Wb rd bs (((p+1)+1)+1) (([Func.mk [0] 0 (Z1.mk 0 0 []),Func.mk [0,0] 0 (Z1.mk 0 0 []),Func.mk [1,0] 0 (Z1.mk 0 0 []),Func.mk [0] 1 (Z1.mk 0 0 [])].length:Nat):Int) (ZK:=ob)) ?_)))
 rintro _ _ ⟨k3,rfl,rfl,YQ⟩
 have qhp4:=YQ.lt (by simp)
 simp only [YS,Xt] at qhp4
 obtain ⟨x3,YN⟩:=Zr [Func.mk [0] 0 (Z1.mk 0 0 []),Func.mk [0,0] 0 (Z1.mk 0 0 []),Func.mk [1,0] 0 (Z1.mk 0 0 []),Func.mk [0] 1 (Z1.mk 0 0 [])] k3.toNat (by simp only [YS,Xt];omega)
 refine dx 21 (Zj (some v20) k3 5 (EG YN)) (Zk 3 4 [22] (Z9 23 (dKN 23 [] [] (Zl (Xp [Func.mk [] 0 (Z1.mk 0 0 []),x1,x2,x3])) 4 5 fun g1=>Zk 1 2 [24] (Z9 25 (YI 25 22 [] [] b2 [JF ds1 v1,.ms g1 0 4 4] (de (Y6 1 (iL (Z6 [4,4,3,2,4]) 5 1 fun v22=>ZQ 0 [(74,Z4 [4,4,3,2,4])] (ic [3] (Z54 rd bs ((((p+1)+1)+1)+1) [4,4,3,2,4] (ZK:=ob) (hy:=(by decide))) ?_)))))))))
 rintro _ _ ⟨nn1,rfl,rfl,Xa⟩
 have hnn:=Z93 (a:=2) (b:=4) Xa (by decide)
 refine Z0 (Zv 3 [2] (Zm (Ib 3 g1 4 4 nn1 5 (Zl (Xp [Func.mk [] 0 (Z1.mk 0 0 []),x1,x2,x3]))) (Z2 1 (ZH 2 b2 [JF ds1 v1,.ms g1 0 nn1 4] (ie (YM 1 (ia (((nn1:Int)-1)) (((nn1:Int))-(1)) (Z0 (ab 0 (Y3 (fun fz gz m F h=>∃(j:Nat) (rq:List Func) (pq:Nat),(j<=nn1)/\(GL ds1 nn1 j rq)/\(p<=pq/\pq+90000*j<=p+10+90000*nn1)/\F=sF [0,2,3] fz [(8,.i ((j:Int)-1))]/\h=[Zc gz 0,Yv rd bs pq,Zc gz 25,Zc gz 24,XJ g1 rq]/\m=j+1) _ _ _ ⟨nn1,[Func.mk [] 0 (Z1.mk 0 0 []),x1,x2,x3],((((p+1)+1)+1)+1)+1,ob,(GL.start (Lc Z3 (by decide)) (Lc Zu (by decide)) (Lc YN (by decide))),ob,rfl,rfl,rfl⟩ (wk [0,0,23,22,1] fl) ?_))))))))))
 rintro m F h ⟨j,rq,pq,Yf,Zh,Zw,rfl,rfl,rfl⟩
 refine X2 (Y1 (((j:Int)-1)>=0) (fun Za=>?_) (fun Za=>?_))
 ·obtain ⟨f1,hf1⟩:=Zr (rq.take nn1) (((j:Int)-1).toNat) (by rw [Zh.len_take om];omega)
  have hfq:rq[j-1]? = some f1:=by have h:=hf1;rw [show ((j:Int)-1).toNat=j-1 by omega,List.getElem?_take_of_lt om] at h;exact h
  refine ak (aq (ab 1 (ar (Qo 3 [(88,.agg [ZT ds1,.ms g1 0 nn1 4])] [0] (ic [1,3] (Z3w rd bs pq (W4.mk ds1 (rq.take nn1)) g1 rq f1 ((j:Int)-1) nn1 (ZK:=ob) (hg:=(Zh.gp hgd om)) (Wk:=(List.take_prefix nn1 rq)) (hf:=hf1) (h0:=(fun h=>Zh.zero f1 (by rw [<-hfq,show j-1=0 by omega]))) (hn:=(Zh.len_take om))) ?_)))))
  rintro _ _ ⟨e1,p21,rfl,rfl,XP⟩
  have hbw:eW ds1 nn1 f1.params.length e1/\(e1).sz<=30:=by have h:=XP.1;unfold GE at h;rw [show (W4.mk ds1 (rq.take nn1)).funcs.length=nn1 from Zh.len_take om] at h;exact h
  exact iA [.i 0,.i 0,nl] fun b3=>ZH 0 b3 (YX e1) (ie (aE 19 (ZI 13 19 [0,1,2,3,4,5] [3,3] (dx 6 (Wj g1 nn1 4 (((j:Int)-1).toNat) 5 ((j:Int)-1)) (Zk 11 12 [7] (U5 8 (Vl 2 g1 4 4 5 ((((j:Int)-1).toNat)*5+0) (Zl (Xp rq)) [Z4 f1.params] 31 (Z4 f1.params) (UB (List.take_prefix nn1 rq) hf1 0 rfl (V5 rfl))) (ZI 7 10 [9,10,11] [3] (dx 12 (Wj g1 nn1 4 (((j:Int)-1).toNat) 5 ((j:Int)-1)) (Zk 5 6 [13] (U5 14 (Vl 2 g1 4 4 5 ((((j:Int)-1).toNat)*5+1) (Zl (Xp rq)) [.i f1.result] 3 (.i f1.result) (UB (List.take_prefix nn1 rq) hf1 1 rfl (V5 rfl))) (ZI 2 4 [15,16] [0] (dx 17 (Wj g1 nn1 4 (((j:Int)-1).toNat) 5 ((j:Int)-1)) (Z9 18 (BB 18 2 [] [] g1 4 4 5 ((((j:Int)-1).toNat)*5) [Z4 f1.params,.i f1.result,.i e1.op,.i e1.num,Xx e1.kids] (Zl (Xp rq)) (Zl (Xp (rq.set ((j:Int)-1).toNat ⟨f1.params,f1.result,e1⟩))) (by rw [HD,Zh.len];simp only [YS,Xt];omega) (Z3h ⟨f1.params,f1.result,e1⟩ (by rw [Zh.len];omega)) (de (az (Z2 1 (ia ((((j:Int)-1)-1)) (((j:Int)-1)-(1)) (Z0 (ZL ⟨(j-1),(rq.set ((j:Int)-1).toNat ⟨f1.params,f1.result,e1⟩),p21,ob,(by rw [show ((j:Int)-1).toNat=j-1 by omega];exact Zh.set om hfq hbw),ob,rfl,rfl,rfl⟩ (wk [3,2,2,2,0] (fc (x:=.i (((j:Int)-1)-1)) li fl))))))))))))))))))))))
 exact ax 0 (Zv 1 [0] (ZH 2 b1 [JF ds1 v1,.ms g1 0 nn1 4] (ie (ZD (r3 [4,2] [.agg [JF ds1 v1,.ms g1 0 nn1 4]] [0] [(b1,b1)] ⟨rq,ds1,nn1,g1,pq,rfl,rfl,⟨⟨by rw [show j=0 by omega] at Zh;exact Zh,hgd,by omega,by omega⟩,by omega⟩⟩ (Zd.agg (.cons (Zd.forget _ _) (.cons (lr _) .nil))))))))
theorem Z4i (rd:Nat) (bs:LI) (p:Nat) (ZK:∀z∈bs,0<=z/\z<=255) (hp:p+400000<=1000000000:=by exact ob):Zi 134 [.p rd 0] [Yv rd bs p] (fun r h=>∃(g:W4) (p2:Nat),r=JU g/\h=[Yv rd bs p2]/\GF g/\p<=p2/\p2<=p+400000):=(WC.frzP (E:=List Func × List Zf × Nat × Nat) (ds:=fun e=>e.2.1) (rs:=fun e=>e.1) (m:=fun e=>e.2.2.1) (hs:=fun e=>[.obj rd [U8 bs,.i (e.2.2.2:Nat)]]) (Q:=fun e=>(GL e.2.1 e.2.2.1 0 e.1/\GD e.2.1/\1<=e.2.2.1/\e.2.2.1<=4)/\p<=e.2.2.2/\e.2.2.2<=p+400000)
  ((Z4j rd bs p ZK hp).mono fun r h ⟨rs,ds,m,gb,p2,hr,hh,hq⟩=>⟨(rs,ds,m,p2),gb,hr,hh,hq⟩) fun e hq=>⟨hq.1.2.2.2,hq.1.1.len⟩).mono
  fun r h ⟨e,hr,hh,hq⟩=>⟨⟨e.2.1,e.1.take e.2.2.1⟩,e.2.2.2,hr,hh,hq.1.1.done hq.1.2.1 hq.1.2.2,hq.2⟩
theorem HR (a:Nat) (n:Nat) (ha:a<=1000000:=by exact ob) (hn:n<=1000000:=by exact ob):Zi 175 [.i a,.i n] [] (fun r h=>∃(xs:LI),r=Z4 xs/\h=[]/\xs.length=n/\∀i∈xs,(a:Int)<=i/\i<(a:Int)+n):=by
 refine ZF 20 Tryz.func175 (ZE (ar (iL (Z6 []) 0 1 fun v1=>?_)))
 refine Z0 (Yb (ab 0 (Y3 (fun fz gz m F h=>∃(k:Nat) (ys:LI) (u:Value),(k<=n)/\(ys.length=k)/\(∀i∈ys,(a:Int)<=i/\i<(a:Int)+n)/\F=sF [0,1] fz [(5,ZV ys u),(6,.i k)]/\h=[.tail u 1]/\m=n-k) _ _ _ ⟨0,[],v1,ob,ob,(fun i hi=>by cases hi),rfl,rfl,rfl⟩ (wk [0] (fr (Y9 fl))) ?_)))
 rintro m F h ⟨k,ys,u,Yf,Zh,Zw,rfl,rfl,rfl⟩
 refine X2 (Y1 ((k:Int)<(n:Int)) (fun Za=>?_) (fun Za=>?_))
 ·exact ak (aq (ab 1 (az (Z2 3 (ia (((a+k:Nat):Int)) (((a:Int))+((k:Int))) (iL (Z6 [((a+k:Nat):Int)]) 1 1 fun v2=>ZQ 0 [(17,Z4 [((a+k:Nat):Int)])] (ip 1 (Z6 (ys++[((a+k:Nat):Int)])) (Z6 ys) (Z6 [((a+k:Nat):Int)]) u none 1 (Yy _) (Yy _) (XZ _) (by simp<;>omega) (by simp [XY,Z6]) fun v3=>Z0 (az (Z2 1 (ZJ k (Z0 (ZL ⟨k+1,(ys++[((a+k:Nat):Int)]),v3,ob,ob,(Xy Zw om),rfl,rfl,rfl⟩ (wk [0] (fr (ZP k fl)))))))))))))))
 exact ax 0 (ar (Zq (r2 [] [ZV ys u] ⟨ys,rfl,rfl,⟨by omega,Zw⟩⟩ (Zd.forget _ _))))
theorem Nq (l:Nat) (xs:List Z5) (w:Value) (q:Nat) (s:Z5) (hl:xs.length<=4000000000:=by exact ob) (hq:q<=1000000:=by exact ob):Zi 269 [.p l 0,YF s] [.obj l [YY xs w,.i q],.tail w 5] (fun r h=>∃(w2:Value),r=.i q/\h=[.obj l [YY (xs++[s]) w2,.i (((q+1):Nat):Int)],.tail w2 5]):=by
 exact ZF 28 Tryz.func269 (ar (iA (Xw s) fun b1=>Z0 (aD 11 (ZI 5 11 [0,1,2,3,4,5] [1,0] (Z9 6 (Wy 6 [1] [l] [YF s] (Zy [s]) (VB [s]).symm 1 5 fun v1=>Yt 4 4 [] [(11,Wv [s])] (Z9 7 (dp 7 3 [] [] (Zy (xs++[s])) (Zy xs) (Zy [s]) w none 5 (Xk _) (Xk _) (VU _) (by simp<;>omega) (by simp [WS,Zy]) fun v2=>Zk 1 3 [8,9] (Z9 10 (YI 10 3 [] [] l [YY (xs++[s]) v2,.i q] (de (Zv 5 [0] (ZJ q (Z2 2 (ZH 0 l [YY (xs++[s]) v2,.i (q+1:Nat)] (ie (Zv 4 [0] (ia ((((q+1:Nat):Int)-1)) ((((q+1:Nat):Int))-(1)) (Zq (r2 [0,0] [.i (((q+1:Nat):Int)-1)] ⟨v2,rfl,rfl⟩ li))))))))))))))))))))
theorem NA (g:W4) (e:Z1) (us:LI) (q:Nat) (bb:Nat) (he:eW g.decls g.funcs.length us.length e:=by exact ob) (hu:∀a∈us,0<=a/\a<(q:Int)) (hul:us.length+4*e.sz<=100000:=by exact ob) (hql:q+6*e.sz<=100000:=by exact ob) (hb:e.sz<bb:=by exact ob) (ih:∀(l:Nat) (e2:Z1) (us2:LI) (xs2:List Z5) (w2:Value) (q2:Nat),(eW g.decls g.funcs.length us2.length e2)->(∀a∈us2,0<=a/\a<(q2:Int))->(us2.length+4*e2.sz<=100000)->(xs2.length+6*e2.sz<=100000)->(q2+6*e2.sz<=100000)->(e2.sz<bb)->Zi 224 [.p l 0,JU g,Y2 e2,Z4 us2] [.obj l [YY xs2 w2,.i q2],.tail w2 5] (fun r h=>∃(ys:List Z5) (v:Int) (w2:Value),r=.i v/\h=[.obj l [YY (xs2++ys) w2,.i (((q2+YZ ys):Nat):Int)],.tail w2 5]/\LW g.decls g.funcs.length q2 e2 ys v)):Zi 174 [JU g,Y2 e,Z4 us,.i q] [] (fun r h=>∃(b:Z8),r=ZZ b/\h=[]/\LB g.decls g.funcs.length q e b):=by
 refine ZF 26 Tryz.func174 (ar (iA (Ii g) fun b1=>iA (YX e) fun b2=>iA [nl,.i 0] fun b3=>ie (ar (iL (Zy []) 0 5 fun v1=>Z2 2 (iA [YY [] v1,.i q] fun b4=>Z0 (Zv 4 [4,3] (ic [0,0] (ih b4 e us [] v1 q he hu ob ob ob ob) ?_)))))))
 rintro _ _ ⟨ys1,v2,w21,rfl,rfl,ZX⟩
 have hlw:=ZX
 exact Z0 (Zv 6 [0] (ZH 2 b3 [YY ([]++ys1) w21,.i v2] (ie (ZD (r3 [] [.agg [YY ([]++ys1) w21,.i v2]] [0] [(b3,b3)] ⟨(Z8.mk ([]++ys1) v2),rfl,rfl,(by rw [Bl];exact hlw.block)⟩ (Zd.agg (.cons (Zd.forget _ _) (.cons (lr _) .nil))))))))
theorem Z4w (l:Nat) (g:W4) (e:Z1) (us:LI) (xs:List Z5) (w:Value) (q:Nat) (hd:GD g.decls) (he:eW g.decls g.funcs.length us.length e) (hu:∀a∈us,0<=a/\a<(q:Int)) (hul:us.length+4*e.sz<=100000) (hxl:xs.length+6*e.sz<=100000) (hql:q+6*e.sz<=100000) (ih:∀(l:Nat) (e2:Z1) (us2:LI) (xs2:List Z5) (w2:Value) (q2:Nat),(eW g.decls g.funcs.length us2.length e2)->(∀a∈us2,0<=a/\a<(q2:Int))->(us2.length+4*e2.sz<=100000)->(xs2.length+6*e2.sz<=100000)->(q2+6*e2.sz<=100000)->(e2.sz<e.sz)->Zi 224 [.p l 0,JU g,Y2 e2,Z4 us2] [.obj l [YY xs2 w2,.i q2],.tail w2 5] (fun r h=>∃(ys:List Z5) (v:Int) (w2:Value),r=.i v/\h=[.obj l [YY (xs2++ys) w2,.i (((q2+YZ ys):Nat):Int)],.tail w2 5]/\LW g.decls g.funcs.length q2 e2 ys v)):Zi 224 [.p l 0,JU g,Y2 e,Z4 us] [.obj l [YY xs w,.i q],.tail w 5] (fun r h=>∃(ys:List Z5) (v:Int) (w2:Value),r=.i v/\h=[.obj l [YY (xs++ys) w2,.i (((q+YZ ys):Nat):Int)],.tail w2 5]/\LW g.decls g.funcs.length q e ys v):=by
 have Xr:=hd.ok
 obtain ⟨ho,h12,h13,h7,h8,h9,hnum,hkl,hks⟩:=(Z30 e).1 he
 have hez:=e.sz_eq
 refine ZF 148 Tryz.func224 (ar (iA (Ii g) fun b1=>iA (YX e) fun b2=>Z0 (X2 (VF [0] (ab 0 (ar (YC (e.op==12) Zo (fun Za=>?_) (fun Za=>?_))))))))
 ·refine Zv 3 [0] ?_
  obtain ⟨x1,Z3⟩:=Zr us e.num.toNat (by have:=h12 om;omega)
  have huv:=hu _ (Y4 Z3)
  exact Zm (Zj none e.num 1 (Y0 Z3)) (Zq (r1 [2,2] ⟨[],x1,w,rfl,rfl,(LW.var huv)⟩ (eq:=(ro (ls:=[YY xs w,.i q]) (by simp [YZ]) (rc rz)))))
 refine ar (YC (e.op==13) Zo (fun Zg=>?_) (fun Zg=>?_))
 ·refine aD 9 (ZI 5 9 [0,1,2,3] [1,0] ?_)
  obtain ⟨x2,Zu⟩:=Zr e.kids 0 (by have:=h13 om;omega)
  have hekx2:=Cl hks Zu
  have hszx2:=BI Zu
  have htzx2:=AL Zu
  rw [Vb] at hekx2
  rw [PR om] at hekx2
  refine dx 4 (Zj none 0 3 (Cj Zu)) (Zk 2 4 [5,6] (Z9 7 (dc 7 [2,2] [] [] (ih l x2 us xs w q (by first|assumption|(rw [Ys];assumption)) (by first|assumption|exact Ea hu hlwhp1.v|exact Gh hu) (by first|omega|(simp only [Ys,YS,Xt];omega)) (by first|omega|(simp only [Ys,YS,Xt];omega)) ob ob) ?_)))
  rintro _ _ ⟨ys1,v1,w21,rfl,rfl,ZX⟩
  have hlwhp1:=ZX
  have hldhp1:=ZX.dn
  refine Zk 0 1 [8] (de (aD 12 (ZI 8 12 [0,1,2,3] [3,2] ?_)))
  obtain ⟨x3,YN⟩:=Zr e.kids 1 (by have:=h13 om;omega)
  have hz2:=N6 Zu YN
  have hz3:=x2.sz_eq
  have hekx3:=Cl hks YN
  have hszx3:=BI YN
  have htzx3:=AL YN
  rw [Vb] at hekx3
  rw [PR om] at hekx3
  refine dx 4 (Zj none 1 3 (Cj YN)) (Zk 4 7 [5,6,7] (Z9 8 (dL 8 [1,2] [b2,b1] (Z6 [v1]) 1 1 fun v2=>Yt 3 3 [] [(45,Z4 [v1])] (Z9 9 (dc 9 [] [1,2] [b2,b1] (QU us [v1]) ?_)))))
  rintro _ _ ⟨v3,rfl,rfl⟩
  refine Yt 2 2 [] [(46,Z4 (us++[v1]))] (Z9 10 (dc 10 [2,2] [] [] (ih l x3 (us++[v1]) (xs++ys1) w21 (q+YZ ys1) (by first|assumption|(rw [Ys];assumption)) (by first|assumption|exact Ea hu hlwhp1.v|exact Gh hu) (by first|omega|(simp only [Ys,YS,Xt];omega)) (by first|omega|(simp only [Ys,YS,Xt];omega)) ob ob) ?_))
  rintro _ _ ⟨ys2,v4,w22,rfl,rfl,Yh⟩
  have hlwhp2:=Yh
  have hldhp2:=Yh.dn
  exact Zk 0 1 [11] (de (ZD (r1 [0,0] ⟨(ys1++ys2),v4,w22,rfl,rfl,(LW.let_ hlwhp1 hlwhp2 (by have:=N6 Zu YN;omega))⟩ (eq:=(ro (ls:=[YY ((xs++ys1)++ys2) w22,.i ((((q+YZ ys1)+YZ ys2):Nat):Int)]) (by rw [J8,<-Au,TT]) (rc rz))))))
 refine Yb (XK (fun fz gz F h=>F=sF [0,3,5,6] fz [(48,.b ((e.op==7)||(e.op==8)))]/\h=gz) ?_ ?_)
 ·refine ac (e.op==7) Zo (fun ZC=>?_) (fun ZC=>?_)
  ·exact ak (ZO ⟨rfl,rfl⟩ (ZG 4 (fc (x:=.b (e.op==7)) (lb (by first|rfl|(rw [Ze ZC])|(rw [Z7 ZC])|(simp [ZC];done)|(rw [Xq];simp [ZC];done)|omega)) fl)))
  exact UR (ZO ⟨rfl,rfl⟩ (ZG 4 (fc (x:=.b (e.op==8)) (lb (by first|rfl|(rw [Ze ZC])|(rw [Z7 ZC])|(simp [ZC];done)|(rw [Xq];simp [ZC];done)|omega)) fl)))
 rintro F h ⟨rfl,rfl⟩
 refine ac ((e.op==7)||(e.op==8)) (p:=(e.op=7)∨(e.op=8)) (Yx Zo Zo) (fun Yd=>?_) (fun Yd=>?_)
 ·refine aD 9 (ZI 5 9 [0,1,2,3] [1,0] ?_)
  obtain ⟨x4,Vs⟩:=Zr e.kids 0 om
  have hekx4:=Cl hks Vs
  have hszx4:=BI Vs
  have htzx4:=AL Vs
  rw [Vb] at hekx4
  rw [Zb3 om] at hekx4
  refine dx 4 (Zj none 0 3 (Cj Vs)) (Zk 2 4 [5,6] (Z9 7 (dc 7 [2,2] [] [] (ih l x4 us xs w q (by first|assumption|(rw [Ys];assumption)) (by first|assumption|exact Ea hu hlwhp1.v|exact Gh hu) (by first|omega|(simp only [Ys,YS,Xt];omega)) (by first|omega|(simp only [Ys,YS,Xt];omega)) ob ob) ?_)))
  rintro _ _ ⟨ys3,v5,w23,rfl,rfl,YH⟩
  have hlwhp3:=YH
  have hldhp3:=YH.dn
  refine Zk 0 1 [8] (de (ar (iL (YJ []) 0 2 fun v6=>Z0 (Zv 4 [4,3] (ic [] (JH g.decls e.num) ?_)))))
  rintro _ _ ⟨v7,rfl,rfl⟩
  refine Z0 (Yb (ab 1 (Y3 (fun fz gz m F h=>∃(k:Nat) (cs:List Z8) (u:Value),(1<=k/\k<=e.kids.length)/\(cs.length+1=k)/\(TK g.decls g.funcs.length (Tg g.decls e.op e.num (q+YZ ys3)) 0 cs)/\(X7 cs+6*x4.sz<=cs.length+6*Xu (e.kids.take k))/\(QN WK cs)/\F=sF [0,3,5,6,10] fz [(11,Tf cs u),(12,Z4 (ZW g.decls e.num)),(13,.i k)]/\h=[Zc gz 2,Zc gz 4,Zc gz 5,.tail u 2,Zc gz 3]/\m=e.kids.length-k) _ _ _ ⟨1,[],v6,ob,ob,True.intro,(by have h:Xu (e.kids.take 1)=Xu (e.kids.take 0)+x4.sz:=AL Vs;simp only [X7,Xt];omega),True.intro,rfl,rfl,rfl⟩ (wk [2,3,3,1,1] (fr (fc (x:=ZV (ZW g.decls e.num) v7) (Zd.forget _ _) (fc (x:=.i 1) li fl)))) ?_)))
  rintro m F h ⟨k,cs,u,Yf,Zh,Zw,Yp,XN,rfl,rfl,rfl⟩
  refine Yi 3 [1] (iw (Hs e.kids) (Y1 ((k:Int)<(e.kids.length:Int)) (fun Xf=>?_) (fun Xf=>?_)))
  ·refine ak (aq (ab 2 (ZE (X2 (VF [1] (XK (fun fz gz F h=>∃(mf:Nat),(Tg g.decls e.op e.num (q+YZ ys3) cs.length=(q+YZ ys3)+mf)/\(mf<=3)/\(TR g.decls e.op e.num us.length k=us.length+mf)/\F=sF [0,3,5,6,10,11,12,13] fz [(14,.i mf)]/\h=gz) ?_ ?_))))))
   ·refine ac (e.op==8) Zo (fun Xb=>?_) (fun Xb=>?_)
    ·refine aE 10 (ZI 6 10 [0,1,2,3] [2] (da 4 (((k-1:Nat):Int)) (((k:Int))-(1)) ?_))
     obtain ⟨x5,Ue⟩:=Zr (ZW g.decls e.num) (k-1) (by have:=h8 om;omega)
     exact dx 5 (Zj none ((k-1:Nat):Int) 1 (Y0 Ue)) (Zk 3 4 [6] (Z9 7 (Yo 7 [] [] [] (Ki g.decls x5) (dn 8 (.i (((ZU g.decls x5).length:Nat):Int)) (.i (((Z6 (ZU g.decls x5)).length:Nat):Int)) (li (by rw [Y8])) (Zk 0 1 [9] (de (ZO ⟨(ZU g.decls x5).length,(L7 om (by rw [show cs.length=k-1 by omega];exact Ue)),(by have:=U4 Xr x5;omega),(Zb4 om (show k=(k-1)+1 by omega) Ue),rfl,rfl⟩ (ZG 5 (fc (x:=.i (((ZU g.decls x5).length:Nat):Int)) (li (by first|rfl|(rw [Ze Xb])|(rw [Z7 Xb])|(simp [Xb];done)|(rw [Xq];simp [Xb];done)|omega)) fl)))))))))
    exact ak (ZO ⟨0,(L8 om),om,(PS om),rfl,rfl⟩ (ZG 5 (fc (x:=.i 0) (li (by first|rfl|(rw [Ze Xb])|(rw [Z7 Xb])|(simp [Xb];done)|(rw [Xq];simp [Xb];done)|omega)) fl)))
   rintro F h ⟨mf,Z7m,Zf3,Z7n,rfl,rfl⟩
   refine aE 25 (ZI 20 25 [0,1,2,3,4] [2,1] ?_)
   obtain ⟨x6,BO⟩:=Zr e.kids k om
   have hekx6:=Cl hks BO
   have hszx6:=BI BO
   have htzx6:=AL BO
   rw [Vb] at hekx6
   rw [Z7n] at hekx6
   have htk:=A6 (xs:=e.kids) (k+1)
   have hbl:=Ep cs
   refine dx 5 (Zj none (k:Int) 3 (Cj BO)) (ZI 7 19 [6,7,8,9,10,11,12,15,16,17,18,19] [0,0] (da 20 ((((q+YZ ys3)+mf:Nat):Int)) (((((q+YZ ys3):Nat):Int))+((mf:Int))) (Z9 13 (dc 13 [] [0,1,2] [l,b2,b1] (HR (q+YZ ys3) mf) ?_))))
   rintro _ _ ⟨xs1,rfl,rfl,YQ⟩
   have hnx:=YQ
   refine Z9 14 (dc 14 [] [0,1,2] [l,b2,b1] (QU us xs1) ?_)
   rintro _ _ ⟨v8,rfl,rfl⟩
   refine Yt 4 4 [] [(98,Z4 (us++xs1))] (Z9 21 (dc 21 [] [] [] (NA g x6 (us++xs1) ((q+YZ ys3)+mf) e.sz (he:=(by rw [Ys,hnx.1];exact hekx6)) (hu:=(Ze3 hu hnx.2)) (hul:=(by rw [Ys,hnx.1];omega)) (hql:=om) (ih:=ih)) ?_))
   rintro _ _ ⟨b3,rfl,rfl,Xa⟩
   have hlb:=Xa
   exact Z9 22 (Wy 22 [] [] [ZZ b3] (YJ [b3]) (T7 [b3]).symm 1 2 fun v9=>Yt 2 2 [] [(106,XW [b3])] (Z9 23 (dp 23 5 [] [] (YJ (cs++[b3])) (YJ cs) (YJ [b3]) u none 2 (TI _) (TI _) (EE _) (by simp<;>omega) (by simp [A0,YJ]) fun v10=>Zk 0 1 [24] (de (az (Z2 1 (ZJ k (Z0 (ZL ⟨k+1,(cs++[b3]),v10,ob,ob,(N8 Zw (by rw [Z7m];exact hlb.1)),(by have:=hlb.2;rw [Df,Ys];simp only [X7,YS,Xt];omega),(P7 XN hlb.op),rfl,rfl,rfl⟩ (wk [3,3,3,0,2] (fw (ZP k fl))))))))))))
  refine ax 1 (Zv 6 [1,1] (iL (Z6 [v5]) 1 1 fun v11=>ZQ 2 [(116,.agg [.i e.op,.i e.num,.i 0,Z4 [v5],XW cs])] (ic [1,4] (Nq l (xs++ys3) w23 (q+YZ ys3) (Z5.mk e.op e.num 0 [v5] cs) (hl:=(by first|(have h1:=KS zs;have h2:=A6 (xs:=e.kids) k;have h3:=BE zs;(try simp only [Ys]);omega)|((try simp only [Ys]);omega))) (hq:=(by first|(have h1:=KS zs;have h2:=A6 (xs:=e.kids) k;have h3:=BE zs;(try simp only [Ys]);omega)|((try simp only [Ys]);omega)))) ?_)))
  rintro _ _ ⟨w24,rfl,rfl⟩
  refine Z0 ?_
  have hcb:YA e.op=false:=by simp [YA];omega
  exact ZD (r1 [0,0] ⟨(ys3++[Z5.mk e.op e.num 0 [v5] cs]),(((q+YZ ys3):Nat):Int),w24,rfl,rfl,(LW.branch (s0:=x4.sz) (sr:=Xu (e.kids.take k)-x4.sz) om (fun h=>by have:=h7 h;omega) (fun h=>by have:=h8 h;omega) hnum hlwhp3.fs hlwhp3.v Zw om hlwhp3.sz (by have:=Ep cs;omega) (by have:=A6 (xs:=e.kids) k;omega) hlwhp3.op XN)⟩ (eq:=(ro (ls:=[YY ((xs++ys3)++[(Z5.mk e.op e.num 0 [v5] cs)]) w24,.i ((((q+YZ ys3)+1):Nat):Int)]) (by rw [Dk (s:=Z5.mk e.op e.num 0 [v5] cs) hcb,<-Au,TT]) (rc rz))))
 refine ak (ar (iL (Z6 []) 0 1 fun v12=>?_))
 refine Z0 (Yb (ab 3 (Y3 (fun fz gz m F h=>∃(k:Nat) (asl:LI) (u:Value) (zs:List Z5) (w3:Value),(k<=e.kids.length)/\(asl.length=k)/\(Tp g.decls g.funcs.length q zs)/\(∀a∈asl,0<=a/\a<((q+YZ zs:Nat):Int))/\(Ye zs<=6*Xu (e.kids.take k))/\(TO WK zs)/\F=sF [0,3,5,6] fz [(15,ZV asl u),(16,.i k)]/\h=[Zc gz 1,Zc gz 2,.obj l [YY (xs++zs) w3,.i (((q+YZ zs):Nat):Int)],.tail u 1,.tail w3 5]/\m=e.kids.length-k) _ _ _ ⟨0,[],v12,[],w,ob,ob,True.intro,(fun a ha=>by cases ha),(by simp [Ye]),True.intro,rfl,rfl,rfl⟩ (wk [1,1,1,0,0] (fr (Y9 fl)) (e:=(rc (rc (ro (ls:=[YY xs w,.i q]) (by simp [YZ]) (rc (rc rz))))))) ?_)))
 rintro m F h ⟨k,asl,u,zs,w3,Um,XV,XO,J4,Zer,My,rfl,rfl,rfl⟩
 refine Yi 3 [0] (iw (Hs e.kids) (Y1 ((k:Int)<(e.kids.length:Int)) (fun VK=>?_) (fun VK=>?_)))
 ·refine ak (aq (ab 4 (aD 10 (ZI 5 10 [0,1,2,3,4] [1,0] ?_))))
  obtain ⟨x7,Fa⟩:=Zr e.kids k om
  have hzl:=KS zs
  have hzd:=BE zs
  have htk:=A6 (xs:=e.kids) (k+1)
  have hekx7:=Cl hks Fa
  have hszx7:=BI Fa
  have htzx7:=AL Fa
  rw [Vb] at hekx7
  rw [PS om] at hekx7
  refine dx 5 (Zj none (k:Int) 3 (Cj Fa)) (Zk 2 4 [6,7] (Z9 8 (dc 8 [2,3] [] [] (ih l x7 us (xs++zs) w3 (q+YZ zs) (by first|assumption|(rw [Ys];assumption)) (by first|assumption|exact Ea hu hlwhp1.v|exact Gh hu) (by first|omega|(simp only [Ys,YS,Xt];omega)) (by first|omega|(simp only [Ys,YS,Xt];omega)) ob ob) ?_)))
  rintro _ _ ⟨ys4,v13,w25,rfl,rfl,XP⟩
  have hlwhp6:=XP
  have hldhp6:=XP.dn
  exact Zk 0 1 [9] (de (az (Z2 2 (iL (Z6 [v13]) 1 1 fun v14=>ZQ 0 [(137,Z4 [v13])] (ip 5 (Z6 (asl++[v13])) (Z6 asl) (Z6 [v13]) u none 1 (Yy _) (Yy _) (XZ _) (by simp<;>omega) (by simp [XY,Z6]) fun v15=>Z0 (az (Z2 1 (ZJ k (Z0 (ZL ⟨k+1,(asl++[v13]),v15,(zs++ys4),w25,ob,ob,(Co.2 ⟨XO,hlwhp6.fs⟩),(by rw [J8,<-Au];exact Ea J4 hlwhp6.v),(by have:=hlwhp6.sz;rw [Ty];omega),(FC.2 ⟨My,hlwhp6.op⟩),rfl,rfl,rfl⟩ (wk [4,4,2,0,1] (fr (ZP k fl)) (e:=(rc (rc (ro (ls:=[YY ((xs++zs)++ys4) w25,.i ((((q+YZ zs)+YZ ys4):Nat):Int)]) (by rw [J8,<-Au,TT]) (rc (rc rz)))))))))))))))))
 refine ax 3 (Zv 6 [0,0] (iL (YJ []) 0 2 fun v16=>ZQ 1 [(146,.agg [.i e.op,.i e.num,.i 0,Z4 asl,XW []])] (ic [3,4] (Nq l (xs++zs) w3 (q+YZ zs) (Z5.mk e.op e.num 0 asl []) (hl:=(by first|(have h1:=KS zs;have h2:=A6 (xs:=e.kids) k;have h3:=BE zs;(try simp only [Ys]);omega)|((try simp only [Ys]);omega))) (hq:=(by first|(have h1:=KS zs;have h2:=A6 (xs:=e.kids) k;have h3:=BE zs;(try simp only [Ys]);omega)|((try simp only [Ys]);omega)))) ?_)))
 rintro _ _ ⟨w26,rfl,rfl⟩
 refine Z0 ?_
 have hcb:YA e.op=false:=by simp [YA];omega
 exact ZD (r1 [0,0] ⟨(zs++[Z5.mk e.op e.num 0 asl []]),(((q+YZ zs):Nat):Int),w26,rfl,rfl,(LW.node om h9 hnum XO J4 om (by have:=A6 (xs:=e.kids) k;omega) My)⟩ (eq:=(ro (ls:=[YY ((xs++zs)++[(Z5.mk e.op e.num 0 asl [])]) w26,.i ((((q+YZ zs)+1):Nat):Int)]) (by rw [Dk (s:=Z5.mk e.op e.num 0 asl []) hcb,<-Au,<-TT]) (rc rz))))
theorem Z4v (l:Nat) (g:W4) (e:Z1) (us:LI) (xs:List Z5) (w:Value) (q:Nat) (hd:GD g.decls) (he:eW g.decls g.funcs.length us.length e) (hu:∀a∈us,0<=a/\a<(q:Int)) (hul:us.length+4*e.sz<=100000) (hxl:xs.length+6*e.sz<=100000) (hql:q+6*e.sz<=100000):Zi 224 [.p l 0,JU g,Y2 e,Z4 us] [.obj l [YY xs w,.i q],.tail w 5] (fun r h=>∃(ys:List Z5) (v:Int) (w2:Value),r=.i v/\h=[.obj l [YY (xs++ys) w2,.i (((q+YZ ys):Nat):Int)],.tail w2 5]/\LW g.decls g.funcs.length q e ys v):=by
 have key:∀k:Nat,∀(l:Nat) (e2:Z1) (us2:LI) (xs2:List Z5) (w2:Value) (q2:Nat),(eW g.decls g.funcs.length us2.length e2)->(∀a∈us2,0<=a/\a<(q2:Int))->(us2.length+4*e2.sz<=100000)->(xs2.length+6*e2.sz<=100000)->(q2+6*e2.sz<=100000)->(e2.sz<k)->Zi 224 [.p l 0,JU g,Y2 e2,Z4 us2] [.obj l [YY xs2 w2,.i q2],.tail w2 5] (fun r h=>∃(ys:List Z5) (v:Int) (w2:Value),r=.i v/\h=[.obj l [YY (xs2++ys) w2,.i (((q2+YZ ys):Nat):Int)],.tail w2 5]/\LW g.decls g.funcs.length q2 e2 ys v):=by
  intro k
  induction k with
  | zero=>intro l e2 us2 xs2 w2 q2 h1 h2 h3 h4 h5 h6;omega
  | succ k ih=>intro l e2 us2 xs2 w2 q2 h1 h2 h3 h4 h5 h6;exact Z4w l g e2 us2 xs2 w2 q2 hd h1 h2 h3 h4 h5 fun l e3 us3 xs3 w3 q3 a1 a2 a3 a4 a5 a6=>ih l e3 us3 xs3 w3 q3 a1 a2 a3 a4 a5 om
 exact key (e.sz+1) l e us xs w q he hu hul hxl hql om
theorem HQ (g:W4) (e:Z1) (us:LI) (q:Nat) (hd:GD g.decls:=by exact ob) (he:eW g.decls g.funcs.length us.length e:=by exact ob) (hu:∀a∈us,0<=a/\a<(q:Int)) (hul:us.length+4*e.sz<=100000:=by exact ob) (hql:q+6*e.sz<=100000:=by exact ob):Zi 174 [JU g,Y2 e,Z4 us,.i q] [] (fun r h=>∃(b:Z8),r=ZZ b/\h=[]/\LB g.decls g.funcs.length q e b):=(NA g e us q (e.sz+1) he hu hul hql om (fun l e2 us2 xs2 w2 q2 h1 h2 h3 h4 h5 _=>Z4v l g e2 us2 xs2 w2 q2 hd h1 h2 h3 h4 h5))
theorem C0 (ds:List Zf) (hd:WD ds:=by exact ob):Zi 96 [ZT ds] [] (Yk (ZT ds)):=by
 have hdl:=hd.len
 refine ZF 55 Tryz.func96 (ZE (ar (iL (X1 []) 0 3 fun v1=>?_)))
 refine Z0 (Yb (ab 0 (Y3 (fun fz gz m F h=>∃(k:Nat) (v:Value),(k<=ds.length)/\F=sF [0] fz [(3,JF (ds.take k) v),(4,.i k)]/\h=[.tail v 3]/\m=ds.length-k) _ _ _ ⟨0,v1,ob,rfl,rfl,rfl⟩ (wk [0] (fc (x:=JF [] v1) (Zd.slh _ (Ym X1 rfl)) (Y9 fl))) ?_)))
 rintro m F h ⟨k,v,Yf,rfl,rfl,rfl⟩
 refine YM 2 (iw (Uo ds) (Y1 ((k:Int)<(ds.length:Int)) (fun Za=>?_) (fun Za=>?_)))
 ·obtain ⟨xd,hxd⟩:=Zr ds k om
  have hcl:=hd.cons_at hxd
  refine ak (aq (ab 1 (ar (iL (WQ []) 0 1 fun v2=>?_))))
  refine Z0 (Yb (ab 2 (Y3 (fun fz gz m F h=>∃(j:Nat) (u:Value),(j<=xd.cons.length)/\F=sF [0,3,4] fz [(5,Fz (xd.cons.take j) u),(6,.i j)]/\h=[.tail u 1,Zc gz 1]/\m=xd.cons.length-j) _ _ _ ⟨0,v2,ob,rfl,rfl,rfl⟩ (wk [0,0] (fc (x:=Fz [] v2) (Zd.slh _ (Ym WQ rfl)) (Y9 fl))) ?_)))
  rintro m F h ⟨j,u,Um,rfl,rfl,rfl⟩
  refine YM 3 (Zm (Zj none (k:Int) 3 (VJ hxd)) (Z2 2 (iw (UO xd.cons) (Y1 ((j:Int)<(xd.cons.length:Int)) (fun Zg=>?_) (fun Zg=>?_)))))
  ·refine ak (aq (ab 3 (az (Z2 3 (Zm (Zj none (k:Int) 3 (VJ hxd)) (Z2 3 ?_))))))
   obtain ⟨x1,Z3⟩:=Zr xd.cons j om
   have hfl:=hd.fields_at hxd Z3
   refine Zm (Zj none (j:Int) 1 (Cg Z3)) (Z2 2 (ic [] (Ui x1.fields) ?_))
   rintro _ _ ⟨v3,rfl,rfl⟩
   exact ZQ 1 [(36,Da x1)] (iL (WQ [x1]) 1 1 fun v4=>ZQ 0 [(37,KO [x1])] (ip 2 (WQ (xd.cons.take (j+1))) (WQ (xd.cons.take j)) (WQ [x1]) u none 1 (Hp _) (Hp _) (Z2q _) (by simp<;>omega) (by rw [V4 Z3];simp [WQ]) fun v5=>Z0 (az (Z2 1 (ZJ j (Z0 (ZL ⟨j+1,v5,ob,rfl,rfl,rfl⟩ (wk [0,2] (fr (ZP j fl))))))))))
  exact ax 2 (aE 16 (Zk 13 16 [0,1,2] (dx 3 (Zj none (k:Int) 3 (VJ hxd)) (Zk 8 12 [4,5,6,7] (dx 8 (Zj none (k:Int) 3 (VJ hxd)) (Yt 3 7 [9,10,11,12] [(51,.agg [.i xd.frm,.i xd.to_,KO (xd.cons.take j)])] (Z9 13 (dL 13 [] [] (X1 [Zf.mk xd.frm xd.to_ (xd.cons.take j)]) 1 3 fun v6=>Yt 2 2 [] [(52,ZT [Zf.mk xd.frm xd.to_ (xd.cons.take j)])] (Z9 14 (dp 14 2 [] [] (X1 (ds.take (k+1))) (X1 (ds.take k)) (X1 [Zf.mk xd.frm xd.to_ (xd.cons.take j)]) v none 3 (J9 _) (J9 _) (EF _) (by simp<;>omega) (by rw [V4 hxd];simp [X1,Vi (show xd.cons.length<=j by omega)]) fun v7=>Zk 0 1 [15] (de (az (Z2 1 (ZJ k (Z0 (ZL ⟨k+1,v7,ob,rfl,rfl,rfl⟩ (wk [0] (fr (ZP k fl)))))))))))))))))))
 exact ax 0 (ar (Zq (ZY (JF (ds.take k) v) (Zd.sl _ (Ym X1 (by rw [Vi om]))))))
theorem Z53 (g:W4) (hg:GF g:=by exact ob):Zi 133 [JU g] [] (fun r h=>∃(n:Zp),r=Yl n/\h=[]/\FO n 181 WK):=by
 have hgl:=hg.gp.len
 have Xr:=hg.gp.decls.ok
 refine ZF 49 Tryz.func133 (ar (iA (Ii g) fun b1=>iA [nl,nl] fun b2=>ie (Zv 2 [1] (Zz [] (C0 g.decls) (iL (YO []) 0 5 fun v1=>Z2 1 (iA [nl,nl] fun b3=>?_))))))
 refine ZH 0 b3 [ZT g.decls,Wz [] v1] (ie (Yb (ab 0 (Y3 (fun fz gz m F h=>∃(k:Nat) (rs:List Yg) (u:Value),(k<=g.funcs.length)/\(rs.length=k)/\(∀r∈rs,RN g.decls g.funcs.length r)/\F=sF [1,2,3] fz [(4,.i k)]/\h=[.obj b3 [ZT g.decls,Wz rs u],Zc gz 2,Zc gz 3,.tail u 5]/\m=g.funcs.length-k) _ _ _ ⟨0,[],v1,ob,ob,(fun r hr=>by cases hr),rfl,rfl,rfl⟩ (wk [0,1,1,0] (Y9 fl)) ?_))))
 rintro m F h ⟨k,rs,u,Yf,Zh,Zw,rfl,rfl,rfl⟩
 refine Yi 3 [2] (iw (Ck g.funcs) (Y1 ((k:Int)<(g.funcs.length:Int)) (fun Za=>?_) (fun Za=>?_)))
 ·refine ak (aq (ab 1 (Zv 3 [2] ?_)))
  obtain ⟨x1,Z3⟩:=Zr g.funcs k om
  have hso:=(hg.gp.sigs _ (Y4 Z3)).bd
  have hsi:=hg.gp.sigs _ (Y4 Z3)
  have hbo:=hg.body _ (Y4 Z3)
  refine Zm (Zj none (k:Int) 5 (EG Z3)) (Z2 1 (iA [nl,.i 0,.i 0,.i 0,nl] fun b4=>?_))
  refine ZH 0 b4 (Fp x1) (ie (Zv 2 [0] (iw (Y8 x1.params) (Z0 (aD 9 (ZI 4 9 [0,1,2,3,5] [3,0] (Kx (fun fz gz F h=>∃(b5:Z8) (b6:Nat) (xs1:LI),(xs1.length=x1.params.length/\∀i∈xs1,(0:Int)<=i/\i<(0:Int)+x1.params.length)/\(LB g.decls g.funcs.length x1.params.length x1.body b5)/\F=sF [1,2,3,4,5] fz [(7,.p b6 0)]/\h=[.obj b6 (Xg b5),Zc gz 0,Zc gz 1,Zc gz 2,Zc gz 3,Zc gz 4]) ?_ ?_)))))))
  ·refine VA 4 7 ?_ ?_
   ·refine dc 4 [] [0,3] [b4,b1] (HR 0 x1.params.length) ?_
    rintro _ _ ⟨xs1,rfl,rfl,ZX⟩
    have hnx:=ZX
    refine VA 6 7 ?_ ?_
    ·refine dc 6 [] [] [] (HQ g x1.body xs1 x1.params.length (hd:=hg.gp.decls) (he:=(by rw [hnx.1];exact hbo.1)) (hu:=(fun a ha=>by have:=hnx.2 a ha;omega))) ?_
     rintro _ _ ⟨b5,rfl,rfl,Yh⟩
     have hlb:=Yh
     exact Z9 7 (dA 7 [] [] [nl,.i 0] fun b6=>Z9 8 (YI 8 0 [] [] b6 (Xg b5) (de (ZO ⟨_,b6,_,(by assumption),(by assumption),rfl,rfl⟩ (ZG 6 fl)))))
    refine dA 7 [0,3] [b4,b1] [nl,.i 0] fun b7=>Z9 6 (dc 6 [] [] [] (HQ g x1.body xs1 x1.params.length (hd:=hg.gp.decls) (he:=(by rw [hnx.1];exact hbo.1)) (hu:=(fun a ha=>by have:=hnx.2 a ha;omega))) ?_)
    rintro _ _ ⟨b8,rfl,rfl,YH⟩
    have hlb:=YH
    exact Z9 8 (YI 8 0 [] [] b7 (Xg b8) (de (ZO ⟨_,b7,_,(by assumption),(by assumption),rfl,rfl⟩ (ZG 6 fl))))
   refine dA 7 [0,3] [b4,b1] [nl,.i 0] fun b9=>Z9 4 (dc 4 [] [1,4] [b4,b1] (HR 0 x1.params.length) ?_)
   rintro _ _ ⟨xs2,rfl,rfl,YQ⟩
   have hnx:=YQ
   refine Z9 6 (dc 6 [] [] [] (HQ g x1.body xs2 x1.params.length (hd:=hg.gp.decls) (he:=(by rw [hnx.1];exact hbo.1)) (hu:=(fun a ha=>by have:=hnx.2 a ha;omega))) ?_)
   rintro _ _ ⟨b10,rfl,rfl,Xa⟩
   have hlb:=Xa
   exact Z9 8 (YI 8 0 [] [] b9 (Xg b10) (de (ZO ⟨_,b9,_,(by assumption),(by assumption),rfl,rfl⟩ (ZG 6 fl))))
  rintro F h ⟨b5,b6,xs1,ZX,Yh,rfl,rfl⟩
  have hnx:=ZX
  have hlb:=Yh
  refine aE 14 (ZI 7 14 [0,1,2,3,6,7,8] [2,1,1,0] (VA 4 5 ?_ ?_))
  ·refine dc 4 [] [0,1,2] [b6,b4,b3] (Ui x1.params) ?_
   rintro _ _ ⟨v2,rfl,rfl⟩
   exact Z9 5 (dL 5 [0,1,2] [b6,b4,b3] (Z6 []) 0 1 fun v3=>Yt 4 5 [9] [(44,.agg [Z4 x1.params,Z4 [],.i x1.result,Wv b5.steps,.i b5.result])] (Z9 10 (dL 10 [2] [b3] (YO [Yg.mk x1.params [] x1.result (Z8.mk b5.steps b5.result)]) 1 5 fun v4=>Yt 3 3 [] [(45,Kf [Yg.mk x1.params [] x1.result (Z8.mk b5.steps b5.result)])] (Z9 11 (dp 11 8 [] [] (YO (rs++[Yg.mk x1.params [] x1.result (Z8.mk b5.steps b5.result)])) (YO rs) (YO [Yg.mk x1.params [] x1.result (Z8.mk b5.steps b5.result)]) u none 5 (UP _) (UP _) (AK _) (by simp<;>omega) (by simp [BF,YO]) fun v5=>Zk 1 2 [12] (Z9 13 (YI 13 6 [] [] b3 [ZT g.decls,Wz (rs++[Yg.mk x1.params [] x1.result (Z8.mk b5.steps b5.result)]) v5] (de (az (Z2 1 (ZJ k (Z0 (ZL ⟨k+1,(rs++[Yg.mk x1.params [] x1.result (Z8.mk b5.steps b5.result)]),v5,ob,ob,(Xy Zw (RN.of hsi hlb hbo.2)),rfl,rfl,rfl⟩ (wk [0,6,6,0] (ZP k fl)))))))))))))))
  refine dL 5 [0,1,1,2] [b6,b4,b4,b3] (Z6 []) 0 1 fun v6=>Z9 4 (dc 4 [] [0,1,2] [b6,b4,b3] (Ui x1.params) ?_)
  rintro _ _ ⟨v7,rfl,rfl⟩
  exact Yt 4 5 [9] [(44,.agg [Z4 x1.params,Z4 [],.i x1.result,Wv b5.steps,.i b5.result])] (Z9 10 (dL 10 [2] [b3] (YO [Yg.mk x1.params [] x1.result (Z8.mk b5.steps b5.result)]) 1 5 fun v8=>Yt 3 3 [] [(45,Kf [Yg.mk x1.params [] x1.result (Z8.mk b5.steps b5.result)])] (Z9 11 (dp 11 8 [] [] (YO (rs++[Yg.mk x1.params [] x1.result (Z8.mk b5.steps b5.result)])) (YO rs) (YO [Yg.mk x1.params [] x1.result (Z8.mk b5.steps b5.result)]) u none 5 (UP _) (UP _) (AK _) (by simp<;>omega) (by simp [BF,YO]) fun v9=>Zk 1 2 [12] (Z9 13 (YI 13 6 [] [] b3 [ZT g.decls,Wz (rs++[Yg.mk x1.params [] x1.result (Z8.mk b5.steps b5.result)]) v9] (de (az (Z2 1 (ZJ k (Z0 (ZL ⟨k+1,(rs++[Yg.mk x1.params [] x1.result (Z8.mk b5.steps b5.result)]),v9,ob,ob,(Xy Zw (RN.of hsi hlb hbo.2)),rfl,rfl,rfl⟩ (wk [0,6,6,0] (ZP k fl))))))))))))))
 exact ax 0 (Zv 1 [0] (ZH 1 b2 [ZT g.decls,Wz rs u] (ie (ZD (r3 [] [.agg [ZT g.decls,Wz rs u]] [0] [(b2,b2)] ⟨(Zp.mk g.decls rs),rfl,rfl,(RN.all hg.gp.decls (by show 1<=rs.length/\rs.length<=4;omega) (by show ∀r∈rs,RN g.decls rs.length r;rw [show rs.length=g.funcs.length by omega];exact Zw) om)⟩ (Zd.agg (.cons (lr _) (.cons (Zd.forget _ _) .nil))))))))
theorem Rq (n:Zp) (hz:Tl n:=by exact ob):Zi 83 [Yl n] [] (Yk (.b (XU n))):=by
 have hzl:=hz.len
 refine ZF 35 Tryz.func83 (ar (iA (YR n) fun b1=>Z0 (Yi 1 [0] (Zz [] (Zcp n (hz:=hz.decls) (hr:=(fun r hr=>⟨hz.params r hr,hz.lent r hr⟩))) (YC (!VL n) (p:=¬(VL n=true)) (YD Iff.rfl) (fun Za=>?_) (fun Za=>?_))))))
 ·exact ar (Zq (ZY (.b false) (lb (by first|rfl|omega|grind [XU]))))
 have hok:=Ix hz (by simpa using Za)
 refine ak (Yb (ab 0 (Y3 (fun fz gz m F h=>∃(k:Nat),(k<=n.routines.length)/\(QR n (n.routines.drop k)=QR n n.routines)/\F=sF [1] fz [(3,.i k)]/\h=gz/\m=n.routines.length-k) _ _ _ ⟨0,ob,ob,rfl,rfl,rfl⟩ (wk [0] (Y9 fl)) ?_)))
 rintro m F h ⟨k,Yf,Zh,rfl,rfl,rfl⟩
 refine Yi 3 [0] (iw (Uc n.routines) (Y1 ((k:Int)<(n.routines.length:Int)) (fun Zg=>?_) (fun Zg=>?_)))
 ·refine ak (aq (ab 1 (Zv 3 [0] ?_)))
  obtain ⟨x1,Z3⟩:=Zr n.routines k om
  have ZK:=hz.body _ (Y4 Z3)
  have hps:=hok.params_at Z3
  refine Zm (Zj none (k:Int) 5 (WR Z3)) (Z2 1 (iA [nl,nl,.i 0,nl,.i 0] fun b2=>ZH 0 b2 (Kd x1) (ie (aD 15 (ZI 13 15 [0,1] [0] (Z9 2 (Yo 2 [] [] [] (Zck x1.body) (JX [1,3] [(34,.b ((decide ((TF x1.body)<0))||((Xi n x1.params x1.body) != x1.result)))] (fun gz=>gz) ?_ ?_))))))))
  ·refine Zk 10 12 [3,4] (db (b:=(decide ((TF x1.body)<0))) 24 (fun Zb=>?_) (fun Zb=>?_))
   ·exact Zk 0 10 [5,6,7,8,9,10,11,12,13,14] (de (wk [0,0] (Zs true Zb fl)))
   exact ZI 3 10 [5,6,7,8,9,11,12] [1,0,0,0] (Z9 10 (Yo 10 [] [0] [b2] (Re n x1.params x1.body ob ob) (Zk 0 2 [13,14] (de (wk [0,0] (Zs ((Xi n x1.params x1.body) != x1.result) Zb fl))))))
  refine ac ((decide ((TF x1.body)<0))||((Xi n x1.params x1.body) != x1.result)) (p:=((TF x1.body)<0)∨((Xi n x1.params x1.body)≠x1.result)) (Yx dq Yn) (fun ZC=>?_) (fun ZC=>?_)
  ·refine ZE ?_
   rw [Y5 Z3] at Zh
   exact ZD (ZY (.b false) (lb (by clear Z3;first|rfl|omega|grind [QR,XU])))
  refine ak (az (Z2 1 (ZJ k (Z0 ?_))))
  have hdr:=Y5 Z3
  exact ZL ⟨k+1,ob,(by rw [hdr] at Zh;clear hdr Z3;grind [QR]),rfl,rfl,rfl⟩ (wk [1] (ZP k fl))
 refine ax 0 (ZE ?_)
 try rw [Xe (xs:=n.routines) (k:=k) om] at Zh
 exact ZD (ZY (.b true) (lb (by first|rfl|omega|grind [QR,XU])))
end Go.Abs
