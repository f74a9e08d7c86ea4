/-
  A part of the proof of FnOwnedAfterStepUptoSaid (see the last file): no condition.
-/
import Derived.Test.YtjmahledcmocoaaGreatOasC
set_option linter.all false
set_option linter.unusedVariables false
set_option linter.unusedSimpArgs false
set_option linter.unusedSectionVars false
set_option maxRecDepth 10000
set_option maxHeartbeats 4000000
namespace Go.Abs
open Go.Proofs
theorem Z0w (n:Zk) (ln:LI) (hn:X4 n) (hty:Kr n) (hlt:Ce n) (hln:ln.length<=4294967296) (m:Nat):∀(ys:List Z5) (c:Nat) (ra:Hd) (rb:Hd) (rc:Hd) (M:V0) (a2:List Xl) (p:Int) (vs:LI),(Y8 ys<m)->(X7 n.decls M p)->(WU n.decls M a2)->(XH n ys M.vars=some vs)->(∀t∈M.vars,0<=t)->(M.vars.length+a2.length+4*Y8 ys<=900000000)->(0<=p/\p+4*Y8 ys<=999999980)->(Uv ys)->Zl 121 [.p c 0,Wz ys] [.obj c [ZU n.decls,YS n,Z4 ln,Xc a2,.h ra,.h rb,.h rc],rV ra M.vars,rV rb M.own,rV rc M.tok] (fun r h=>(∃(wa:Hd) (wb:Hd) (wc:Hd) (M':V0),r=.b true/\h=[.obj c [ZU n.decls,YS n,Z4 ln,Xc a2,.h wa,.h wb,.h wc],rV wa M'.vars,rV wb M'.own,rV wc M'.tok]/\Wb n ln M ys=some M')∨(r=.b false/\h=[]/\Wb n ln M ys=none)):=by
 induction m with
 | zero=>intro ys c ra rb rc M a2 p vs h;omega
 | succ m ih=>
  intro ys c ra rb rc M a2 p vs h hk har ht hnn hb hp hr
  exact Z0v c ra rb rc n M ln a2 ys p vs hn hk har ht hnn hb hp hr fun s2 c ra rb rc M a2 p h1 hk har ht hnn hb hp hr=>Z0t c ra rb rc n M ln a2 s2 p hn hty hlt hk har hln ht hnn hb hp hr
   fun ys c ra rb rc M a2 p vs h2 hk har ht hnn hb hp hr=>ih ys c ra rb rc M a2 p vs om hk har ht hnn hb hp hr
theorem Z0u (c:Nat) (ra:Hd) (rb:Hd) (rc:Hd) (n:Zk) (M:V0) (ln:LI) (a2:List Xl) (ys:List Z5) (p:Int) (vs:LI) (hn:X4 n) (hty:Kr n) (hlt:Ce n) (hln:ln.length<=4294967296) (hk:X7 n.decls M p) (har:WU n.decls M a2) (ht:XH n ys M.vars=some vs) (hnn:∀t∈M.vars,0<=t) (hb:M.vars.length+a2.length+4*Y8 ys<=900000000) (hp:0<=p/\p+4*Y8 ys<=999999980) (hr:Uv ys):Zl 121 [.p c 0,Wz ys] [.obj c [ZU n.decls,YS n,Z4 ln,Xc a2,.h ra,.h rb,.h rc],rV ra M.vars,rV rb M.own,rV rc M.tok] (fun r h=>(∃(wa:Hd) (wb:Hd) (wc:Hd) (M':V0),r=.b true/\h=[.obj c [ZU n.decls,YS n,Z4 ln,Xc a2,.h wa,.h wb,.h wc],rV wa M'.vars,rV wb M'.own,rV wc M'.tok]/\Wb n ln M ys=some M')∨(r=.b false/\h=[]/\Wb n ln M ys=none)):=
 Z0w n ln hn hty hlt hln (Y8 ys+1) ys c ra rb rc M a2 p vs om hk har ht hnn hb hp hr
theorem Z7h (n:Zk) (hz:Uc n) (hs:U1 n=true):Zl 76 [Yn n] [] (Yv (.tup [.agg [ZU n.decls,YS n],.b (U1 n)])):=by
 refine (O8 n hz).mono fun r h q=>?_
 rcases q with ⟨h1,h2,_⟩|⟨_,_,h3⟩
 ·exact ⟨h1,h2⟩
 ·rw [hs] at h3;cases h3
theorem Z0r (n:Zk) (f:Nat) (rt:Yf) (hn:X4 n:=by exact ob) (hz:Uc n:=by exact ob) (hs:U1 n=true:=by exact ob) (hr:n.routines[f]? = some rt:=by exact ob):Zl 120 [Yn n,.i f] [] (fun r h=>∃(c:Nat) (wa:Hd) (wb:Hd) (wc:Hd),r=.p c 0/\h=[.obj c [ZU n.decls,YS n,Z4 rt.lent,Xc [],.h wa,.h wb,.h wc],rV wa ((U0 rt).vars),rV wb ((U0 rt).own),rV wc ((U0 rt).tok)]):=by
 have hfl:=(Xp.1 hr).1
 have hpl:=hn.params_at hr
 have hll:=hn.lent_at hr
 refine ZG 58 Tryz.func120 (ar (iA (YT n) fun b1=>Z0 (Zv 1 [0] (Zz [] (Z7h n ob ob) (Z2 3 (iA [nl,nl] fun b2=>ZI 0 b2 [ZU n.decls,YS n] (Z0 (aD 10 (ZJ 6 10 [0,1,2,3] [0,1] (dx 4 (Zh none (f:Int) 5 (Wv hr)) (Zj 2 5 [5,6,7] (Z7 8 (dA 8 [] [] [ZU n.decls,YS n,Z4 rt.lent,nl,nl,nl,nl] fun b3=>?_)))))))))))))
 refine BH (S3 0 b3 [ZU n.decls,YS n,Z4 rt.lent,nl,nl,nl,nl] [ZU n.decls,YS n,Z4 rt.lent,Xc [],.h hN,.h hN,.h hN] (.cons (lr _) (.cons (lr _) (.cons (lr _) (.cons (Zd.sl _ rfl) (.cons (Zd.hd (v:=hN)) (.cons (Zd.hd (v:=hN)) (.cons (Zd.hd (v:=hN)) .nil)))))))) (BH (Jj) (BH (Jj) (BH (Jj) (Zj 0 1 [9] (de (Yi 3 [5] (Zm (Zh none (f:Int) 5 (Wv hr)) (Z2 2 (iw (Y6 rt.params) (Z0 (ab 0 (Y4 (fun fz gz m F h=>∃(k:Nat) (L2:V0) (ka:Hd) (kb:Hd) (kc:Hd),(k<=rt.params.length)/\(Wt L2)/\(L2.vars.length=k)/\(QQ rt.lent (rt.params.drop k) k L2=U0 rt)/\F=sF [7,29,30] fz [(31,.i k)]/\h=[.obj b3 [ZU n.decls,YS n,Z4 rt.lent,Xc [],.h ka,.h kb,.h kc],rV ka L2.vars,rV kb L2.own,rV kc L2.tok]/\m=rt.params.length-k) _ _ _ ⟨0,(Zs.mk [] [] [] [] [] []),hN,hN,hN,ob,⟨rfl,rfl,rfl,rfl,rfl⟩,rfl,rfl,rfl,rfl,rfl⟩ (wk [3,0,0,0] (Yd fl) (e:=(rc (rv (xs:=[]) ob (rv (xs:=[]) ob (rv (xs:=[]) ob rz)))))) ?_))))))))))))
 rintro m F h ⟨k,L2,ka,kb,kc,Yg,Zi,Zw,Yq,rfl,rfl,rfl⟩
 refine ZF (aq (W4 ((k:Int)<(rt.params.length:Int)) (fun Za=>?_) (fun Za=>?_)))
 ·refine ak (aq (ab 1 (Y5 1 ?_)))
  obtain ⟨x1,Z3⟩:=Zt rt.params k om
  have hgl:(L2.grow x1 0 (-1)).own.length=k+1:=by simp [Zs.grow,Zi.own,Zw]
  refine Zm (Zh none (k:Int) 1 (ZY Z3)) (Z0 (Y5 2 (ic [0,0,0,0] (Ch b3 ka kb kc n L2 rt.lent [] x1 0) ?_)))
  rintro _ _ ⟨wa1,wb1,wc1,rfl⟩
  refine ie (ar (Xo [7,8,29,30,31] [(49,.b ((x1 != 0)&&(!(decide ((k:Int)∈rt.lent)))))] (fun gz=>gz) ?_ ?_))
  ·refine Z2 3 (ib (b:=(x1 != 0)) 41 (fun Zb=>?_) (fun Zb=>?_))
   ·have ZW:x1≠0:=(Yl).1 Zb
    exact ZM 5 [0] (Zz [] (Ls rt.lent (k:Int)) (Z0 (ZE 4 (Zu (!(decide ((k:Int)∈rt.lent))) Zb fl))))
   have Yh:¬(x1≠0):=Ya Yl Zb
   exact Z0 (ZE 4 (Zu false Zb fl))
  refine ac ((x1 != 0)&&(!(decide ((k:Int)∈rt.lent)))) (p:=(x1≠0)/\(¬((k:Int)∈rt.lent))) (YH Yl (Yo dq)) (fun Zg=>?_) (fun Zg=>?_)
  ·exact az (ZM 5 [0] (Zm (Wo 2 wb1 ((L2.grow x1 0 (-1)).own) (k:Int) k) (CH 2 wb1 ((L2.grow x1 0 (-1)).own) k 1 (ie (az (ZK k (Z0 (ZL ⟨k+1,(L2.grow x1 1 (-1)),wa1,wb1,wc1,ob,(Wt.grow Zi),(by simp [Zs.grow];omega),(by rw [Y7 Z3,QQ] at Yq;first|(rw [Ze (by assumption)] at Yq;exact Yq)|(rw [Z8 (by assumption)] at Yq;exact Yq)),rfl,rfl,rfl⟩ (wk [1,1,0,0] (ZO k fl) (e:=(rc (rv (xs:=(L2.grow x1 0 (-1)).vars) (by first|rfl|exact Ll (by rw [Zi.own,Zw])) (rv (xs:=(((L2.grow x1 0 (-1)).own).set k 1)) (by first|rfl|exact Ll (by rw [Zi.own,Zw])) (rv (xs:=(L2.grow x1 0 (-1)).tok) (by first|rfl|exact Ll (by rw [Zi.own,Zw])) rz))))))))))))))
  exact ak (az (ZK k (Z0 (ZL ⟨k+1,(L2.grow x1 0 (-1)),wa1,wb1,wc1,ob,(Wt.grow Zi),(by simp [Zs.grow];omega),(by rw [Y7 Z3,QQ] at Yq;first|(rw [Ze (by assumption)] at Yq;exact Yq)|(rw [Z8 (by assumption)] at Yq;exact Yq)),rfl,rfl,rfl⟩ (ZE 4 (ZO k fl))))))
 refine ax 0 (ZF ?_)
 have hNl:L2=U0 rt:=by rw [<-Yq,Xi om];rfl
 exact ZD (r1 [0,0,0,0] ⟨b3,ka,kb,kc,rfl,rfl⟩ (eq:=(rc (rv (xs:=L2.vars) (by rw [hNl]) (rv (xs:=L2.own) (by rw [hNl]) (rv (xs:=L2.tok) (by rw [hNl]) rz))))))
def CR (g l c m kk:Nat):Value:=.slice (some ⟨g,(if c-m=0 then 0 else m*kk),none⟩) (l-m) (c-m)
def Lr (P:Program) (ops:Array Oper) (F:Fr) (k:Nat):Option (AV × Int × Nat):=
 match (ZB ops k).op with
 | .slice t x (some lo) none none=>match P.underlying t with
  | some (.slice e)=>match P.info? e with
   | some i=>match F.ev lo with
    | .val (.int _ m)=>some (F.ev x,m,i.size)
    | _=>none
   | none=>none
  | _=>none
 | _=>none
section
variable {P:Program} {n:Nat} {ops:Array Oper} {k:Nat} {F:Fr} {h h2:List Res}
theorem Zds (j:Nat) {g l c m kk:Nat} {ls:List AV} (hi:Lr P ops F k=some (.val (.slice (some ⟨g,0,none⟩) l c),(m:Int),kk)) (hj:h[j]? = some (.row (.slice (some ⟨g,0,none⟩) l c) kk ls)) (hle:m<=l) :
  Xw P (ZB ops k) F h [] (.val (CR g l c m kk)):=by
 unfold Lr at hi
 generalize hoo:ZB ops k=o at hi
 obtain ⟨dst,op,type,pos,after,guard⟩:=o
 cases op<;>simp only at hi<;>try (cases hi)
 rename_i t x lo hi' mx
 cases lo with
 | none=>simp at hi
 | some y=>
  cases hi' with
  | some _=>simp at hi
  | none=>
   cases mx with
   | some _=>simp at hi
   | none=>
    simp only at hi
    split at hi
    ·rename_i e ht
     split at hi
     ·rename_i inf hinf
      split at hi
      ·rename_i ik m' hm
       simp only [Wg,Prod.mk.injEq] at hi
       obtain ⟨hx,rfl,hkk⟩:=hi
       intro n w G a hF hh
       have v1:=hF.ev x
       rw [hx] at v1
       have v1:=v1.val_inv
       have v2:=hF.ev y
       rw [hm] at v2
       have v2:=v2.val_inv
       have hcap:l<=c:=by
        rcases hh.ok _ (Y2 hj) with ⟨h0,_⟩|⟨g',l',c',cur,el,h0,_,hc,_⟩
        ·cases h0
        ·cases h0;exact hc
       refine ⟨_,.val,fun w' _ _=>?_⟩
       simp only [execOp,v1,v2,Bv,Option.map_none]
       refine Vf ?_
       simp only [Instr.sliceAt,Sem.run_bind,VJ ht,Result.andThen_ok,Instr.slice]
       have hmm:(Instr.sliceBounds true l c (some (.int ik (m:Int))) none none).run P w'=.ok (m,l,c) w':=by
        have Yy:=D0 (P:=P) (c:=BoundsCode.sliceB) (v:=.int ik (m:Int)) (y:=l) rfl om om w'
        simp [Instr.sliceBounds,Yy]
       rw [hmm]
       simp only [Result.andThen_ok,Qc hinf,CR,hkk]
       by_cases h0:c-m=0
       ·have e0:c=m:=by omega
        simp [e0]
       ·have e0:¬c=m:=fun z=>h0 om
        simp [e0,h0,Addr.add]
        exact fun z=>z.symm
      ·cases hi
     ·cases hi
    ·cases hi
theorem Oo (j g l c m kk:Nat) (ls:List AV) (hle:m<=l:=by omega) (hi:Lr P ops F k=some (.val (.slice (some ⟨g,0,none⟩) l c),(m:Int),kk):=by kernel_rfl) (hj:h[j]? = some (.row (.slice (some ⟨g,0,none⟩) l c) kk ls):=by kernel_rfl) :
  Xw P (ZB ops k) F h [] (.val (CR g l c m kk)):=Zds j hi hj hle
theorem Za0 {K:Fr->List Res->Prop} {g len cap i m sz:Nat} {ls:List AV} (hd:Vt n (ZB ops k)=true) (ha:UA P ops F k=some (.val (.slice (some ⟨g,0,none⟩) i cap),.val (CR g len cap m sz),sz))
  (hone:ls.all AV.one=true) (him:i<=m) (hml:m<=len)
  (hK:K (F.put (ZB ops k).dst (.val (.slice (some ⟨g,0,none⟩) (i+(len-m)) cap))) (.row (.slice (some ⟨g,0,none⟩) (i+(len-m)) cap) sz (ls.take (i*sz)++ls.drop (m*sz))::h2)):Wx P n (ZB ops k) F (.row (.slice (some ⟨g,0,none⟩) len cap) sz ls::h2) K:=by
 unfold UA at ha
 generalize hoo:ZB ops k=o at ha hd hK
 obtain ⟨dst,op,type,pos,after,guard⟩:=o
 cases op<;>simp only at ha<;>try (cases ha)
 rename_i c
 obtain ⟨callee,args,tys⟩:=c
 simp only at ha
 split at ha
 case h_2=>cases ha
 rename_i s x t t' hargs htys
 split at ha
 case h_2=>cases ha
 rename_i e htt ht
 have:=Uy htt
 subst this
 split at ha
 case h_2=>cases ha
 rename_i inf hinfo
 split at ha
 case h_2=>cases ha
 rename_i z hz
 split at ha
 case h_2=>cases ha
 rename_i hb
 simp only [W7] at hb
 simp only [Wg,Prod.mk.injEq] at ha
 obtain ⟨h3,h4,hk1⟩:=ha
 have e1:args=#[s,x]:=by rw [<-U3 (xs:=args),hargs]
 have e2:tys=#[t,t]:=by rw [<-U3 (xs:=tys),htys]
 subst e1;subst e2
 intro Q w G a hF hh
 have v1:=hF.ev s
 have v2:=hF.ev x
 rw [h3] at v1
 rw [h4] at v2
 have v1:=v1.val_inv
 have v2:=v2.val_inv
 rcases hh.ok _ (Xh ..) with ⟨h0,_⟩|⟨g',len',cap',cur,el,h0,hrow,hlc,hcur,hll,hcells⟩
 ·cases h0
 ·cases h0
  have q5:len*sz<=cap*sz:=Qu _ hlc
  have q6:m*sz<=len*sz:=Qu _ hml
  have q7:i*sz<=m*sz:=Qu _ him
  have q8:(len-m)*sz=len*sz-m*sz:=Nat.sub_mul ..
  have q9:(i+(len-m))*sz=i*sz+(len-m)*sz:=Qe ..
  have hcl:cur.toList.length=cap*sz:=by rw [Km,hcur]
  have h1:(cur.toList.take (len*sz)).length=len*sz:=by rw [WH,hcl,VB q5]
  have hnl:((cur.toList.take (len*sz)).drop (m*sz)).length=(len-m)*sz:=by rw [Bn,h1];omega
  have hr:=Gj (P:=P) w t type e el inf ht hinfo g i cap cur hrow ⟨g,(if cap-m=0 then 0 else m*sz),none⟩ (len-m) (cap-m) ((cur.toList.take (len*sz)).drop (m*sz)) (by rw [hk1];exact hnl)
   (fun j u hj=>by
    have hjl:=(Xp.1 hj).1
    rw [hnl] at hjl
    have hne:¬cap-m=0:=fun z=>by
     have:len-m=0:=by omega
     rw [this] at hjl;omega
    rw [Z8 hne,Ku,cell_of_row w g _ cur el (0,0) hrow]
    rw [Bm,TI] at hj
    split at hj
    ·simpa using hj
    ·cases hj)
   (fun u hu=>hcells.one_cells hone u (List.mem_of_mem_drop hu)) om (by rw [hk1,hnl,hcur];omega)
  rw [hk1] at hr
  have hti:(cur.toList.take (i*sz)).length=i*sz:=by rw [WH,hcl,VB om]
  obtain ⟨j1,j2⟩:=hh.rgrow (ls':=ls.take (i*sz)++ls.drop (m*sz)) (len':=i+(len-m)) (cs':=(cur.toList.take (i*sz)++(cur.toList.take (len*sz)).drop (m*sz)++cur.toList.drop (i*sz+((cur.toList.take (len*sz)).drop (m*sz)).length)).toArray) hrow
   (by simp only [Di,Yw,hti,hnl,Bn,hcl,hcur];omega) om hcur (by rw [Yw,WH,Bn,hll,q9,VB om];omega) (by
    have:(cur.toList.take (i*sz)++(cur.toList.take (len*sz)).drop (m*sz)++cur.toList.drop (i*sz+((cur.toList.take (len*sz)).drop (m*sz)).length)).toArray.toList.take ((i+(len-m))*sz)=cur.toList.take (i*sz)++(cur.toList.take (len*sz)).drop (m*sz):=by
     rw [Dj,q9,<-hnl]
     conv=>lhs;arg 1;rw [show i*sz+((cur.toList.take (len*sz)).drop (m*sz)).length=(cur.toList.take (i*sz)++(cur.toList.take (len*sz)).drop (m*sz)).length from by rw [Yw,hti]]
     exact JN
    rw [this]
    have ht1:=hcells.take (i*sz)
    rw [List.take_take,VB om] at ht1
    exact ht1.append (hcells.drop (m*sz)))
  generalize hW:w.setRow g (cur.toList.take (i*sz)++(cur.toList.take (len*sz)).drop (m*sz)++cur.toList.drop (i*sz+((cur.toList.take (len*sz)).drop (m*sz)).length)).toArray=W at hr j1 j2
  have hrun:(execOp a.eval { dst:=dst,op:=.call { callee:=.builtin .append,args:=#[s,x],argTypes:=#[t,t] },type:=type,pos:=pos,after:=after,guard:=guard }).run P w=.ok (.value (.slice (some ⟨g,0,none⟩) (i+(len-m)) cap)) W:=by
   simp only [execOp,resolve,invoke,builtin,Sem.run_bind,Sem.run_pure,Result.andThen_ok,Bp,Um,Bo,v1,v2,CR]
   rw [hr]
   rfl
  unfold Oper.wp
  rw [hrun]
  exact ⟨_,_,G,hK,(hF.mono (j2.agree hh)).put (UQ hd) .val,j1,j2⟩
end
section
variable {P:Program} {n:Nat} {ops:Array Oper} {B:Fr->List Res->Prop} {T:List (Nat × List Nat)} {fuel:Nat} {done:List Nat} {k:Nat} {F:Fr} {h:List Res}
theorem MW (q j:Nat) (js bs:List Nat) (g len cap i m sz:Nat) (ls:List AV) (hone:ls.all AV.one=true)
  (H:YU P n ops B (T.filter fun t=>!V2 ops q t.1) fuel (done++[q]) (F.put (ZB ops q).dst (.val (.slice (some ⟨g,0,none⟩) (i+(len-m)) cap))) (.row (.slice (some ⟨g,0,none⟩) (i+(len-m)) cap) sz (ls.take (i*sz)++ls.drop (m*sz))::XF [j] h)) (him:i<=m:=by omega) (hml:m<=len:=by omega)
  (hk:X6 n ops F q=true:=by kernel_rfl) (ha:UA P ops F q=some (.val (.slice (some ⟨g,0,none⟩) i cap),.val (CR g len cap m sz),sz):=by kernel_rfl) (hp:Wm [j] h=some [.row (.slice (some ⟨g,0,none⟩) len cap) sz ls]:=by kernel_rfl) (ho:U2 ops q T=bs:=by kernel_rfl)
  (hj:js.map (fun z=>(WG (XF [j] h))[z]?)=bs.map some:=by kernel_rfl):Vr P n ops B T fuel done F h q:=
 Kb [j] js bs hk (Vn hp) ho hj (Za0 (h2:=[]) (VI hk).2.1 ha hone him hml H)
end
theorem Z3e (xs:List Yf) (k:Nat) (d:Yf):YP (xs.set k d)=(YP xs).set k (K6 d):=by simp [YP,List.map_set]
theorem Fh (xs:List Yf):(Zo (YP xs)).length=xs.length*5:=by rw [TD (k:=5) _ (UT xs)];simp
theorem Z43 {ds:List Yf} {k:Nat} (d:Yf) (hk:k<ds.length):(Zo (YP ds)).take (k*5)++(K6 d).leaves++(Zo (YP ds)).drop (k*5+5)=Zo (YP (ds.set k d)):=by
 rw [Z3e];exact Fk (y:=K6 d) (UT ds) rfl (by simpa using hk)
theorem Z36 (xs:List Z9) (k:Nat) (d:Z9):YK (xs.set k d)=(YK xs).set k (ZZ d):=by
 simp [Tb,List.map_set]
theorem DH (xs:List Z9):(Zo (YK xs)).length=xs.length*2:=by rw [TD (k:=2) _ (TK xs)];simp
theorem Z40 {ds:List Z9} {k:Nat} (d:Z9) (hk:k<ds.length):(Zo (YK ds)).take (k*2)++(ZZ d).leaves++(Zo (YK ds)).drop (k*2+2)=Zo (YK (ds.set k d)):=by
 rw [Z36];exact Fk (y:=ZZ d) (TK ds) (by cases d;rfl) (by simpa using hk)
theorem Ww.frzN {P:Program} {f:FuncId} {as1:List AV} {h0:List Res} {ds:List Zf} {rs:List Yf} {hs:List Res}
  (H:Ww P f as1 h0 (fun r h=>∃g c:Nat,r=.agg [ZU ds,.ms g 0 rs.length c]/\h=.row (.slice (some ⟨g,0,none⟩) rs.length c) 5 (Zo (YP rs))::hs)) :
  Ww P f as1 h0 (fun r h=>r=.agg [ZU ds,Kg rs]/\h=hs):=by
 intro w G vs hv hh
 refine (H w G vs hv hh).mono ?_
 rintro e w' ⟨u,r,h',G',he,⟨gb,c,rfl,rfl⟩,hr,hh',hx⟩
 obtain ⟨G2,h1,h2,h3⟩:=C4 hh' (UT _) om
 have hA:VR G' w' w' G2:=h2.agree hh'
 refine ⟨u,_,hs,G2,he,⟨rfl,rfl⟩,?_,(h1.perm (List.perm_append_comm (l₁:=[_]))).left,(hx.trans h2).sub' (Br _ _)⟩
 cases hr with
 | agg hc=>
  cases hc with
  | cons k1 t1=>
   cases t1 with
   | cons k2 t2=>
    cases t2
    have hv2:=k2.val_inv
    subst hv2
    refine .agg (.cons (k1.mono hA) (.cons ?_ .nil))
    have hw:Zd (.sl (YP rs) (some (.slice (some ⟨gb,0,none⟩) rs.length c))) (Kg rs):=Zd.forget _ _
    exact hw _ _ _ h3
theorem Z48 (v:Value) (k:Nat) (ls ks:List AV) (b o:Nat):Res.fp (.row v k ks) b o=Res.fp (.vec v ls) b o:=by
 cases v with
 | slice a _ _=>cases a<;>rfl
 | _=>rfl
theorem Zf1 {w:World} {G:Y9} {v:Value} {ls:List AV} {h2:List Res} (hh:Yt w G (.vec v ls::h2)):Yt w G (.row v 1 ls::h2)/\YV w G (.vec v ls::h2) w G (.row v 1 ls::h2):=by
 have hpw:=WQ.1 hh.apart
 have hf:∀b o,Res.fp (.row v 1 ls) b o->Res.fp (.vec v ls) b o:=fun b o h=>by rw [Z48 v 1 ls ls] at h;exact h
 refine ⟨⟨fun r hr=>?_,WQ.2 ⟨fun r hr b o f1 f2=>hpw.1 r hr b o (hf b o f1) f2,hpw.2⟩,fun r hr b o f1 hg=>?_,hh.lt⟩,⟨rfl,rfl,rfl,X5 _,fun _ _ h=>h,fun _ _=>.inl rfl,fun _ _ _ h=>.inl h,fun b o _ ⟨r,hr,f1⟩=>?_⟩⟩
 ·rcases YD.1 hr with rfl|hr
  ·rcases hh.ok _ (Xh ..) with h0|⟨g,cap,cur,e,h0,h1,h3,h4,h5⟩
   ·exact .inl h0
   ·exact .inr ⟨g,ls.length,cap,cur,e,h0,h1,h3,by rw [h4,Qv],by rw [Qv],by rw [Qv];exact h5⟩
  ·exact hh.ok r (XB _ hr)
 ·rcases YD.1 hr with rfl|hr
  ·exact hh.prot _ (Xh ..) b o (hf b o f1) hg
  ·exact hh.prot r (XB _ hr) b o f1 hg
 ·rcases YD.1 hr with rfl|hr
  ·exact ⟨_,Xh ..,hf b o f1⟩
  ·exact ⟨r,XB _ hr,f1⟩
theorem Nt:∀xs:LI,Zo (Z6 xs)=Z6 xs
 | []=>rfl
 | x::r=>Ym (AV.i x::·) (Nt r)
section
variable {h:List Res}
theorem JK (j:Nat) (v:Hd) (xs:LI) (hp:Wm [j] h=some [rV v xs]:=by kernel_rfl):Tm h (.row v.v 1 (Zo (Z6 xs))::XF [j] h):=by
 have e:Zo (Z6 xs)=Z6 xs:=Nt xs
 rw [e]
 intro w G hh
 have hp':=Ua (Vn hp)
 obtain ⟨a,b⟩:=Zf1 (hh.perm hp')
 exact ⟨G,a,b.perm hp'.symm (Qd _)⟩
end
def Ak (bs:LI) (p:Nat) (mx:Int):Int:=
 if mx<1∨bs.length=0 then 0 else if p<bs.length then (bs[p]?).getD 0 % mx else
  Ar ((((bs[p % bs.length]?).getD 0*131+(bs[(p*7+3) % bs.length]?).getD 0*1117)+((p*29:Nat):Int))+(((p / bs.length:Nat):Int)*53))
   (((((bs[p % bs.length]?).getD 0*131+(bs[(p*7+3) % bs.length]?).getD 0*1117)+((p*29:Nat):Int))+(((p / bs.length:Nat):Int)*53)) / 64) % mx
theorem Zai {bs:LI} {p:Nat} {mx:Int} (h:0<mx):0<=Ak bs p mx/\Ak bs p mx<mx:=by
 rw [Ak]
 split
 ·omega
 ·split
  ·exact ⟨Int.emod_nonneg _ om,Int.emod_lt_of_pos _ h⟩
  ·exact ⟨Int.emod_nonneg _ om,Int.emod_lt_of_pos _ h⟩
theorem Z3z {xs:List Z9} {k:Nat} {b:Z9} (h:xs[k]? = some b):Zo (YK (xs.take k))++Zo [ZZ b]=Zo (YK (xs.take (k+1))):=by
 rw [V7 h,A1,Qh]
 congr 1
 rw [Tb];rfl
def DU (s:Z5) (u:Value):List AV:=[.i s.op,.i s.num,.i s.into,Z4 s.args,.val u]
def DI (b:Z9) (k:Nat):Z5:=(b.steps[k]?).getD (Zx 0 0)
theorem Fp {b:Z9} {k:Nat} {s:Z5} (h:b.steps[k]? = some s):DI b k=s:=by rw [DI,h];rfl
def WX (b:Z9) (kk:Nat) (u:Value) (k:Nat):List AV:=if k<=kk then Zo (Zy (b.steps.take k)) else Zo (Zy (b.steps.take kk))++(DU (DI b kk) u++Zo (Zy ((b.steps.take k).drop (kk+1))))
def Th (b:Z9) (kk k:Nat):List AV:=if k<=kk then [] else Zo (YK (DI b kk).kids)
theorem Ow {b:Z9} {kk:Nat} {u:Value}:WX b kk u 0=[]:=by rw [WX,Ze (K3 _),List.take_zero,VG];rfl
theorem Oz {b:Z9} {kk:Nat}:Th b kk 0=[]:=Ze (K3 _)
theorem Iy {b:Z9} {kk k:Nat} {u:Value} (h:k<=b.steps.length):(WX b kk u k).length=k*5:=by
 rw [WX]
 split
 ·rw [QE,WH,VB h]
 ·rename_i q
  have e:(DU (DI b kk) u).length=5:=rfl
  rw [Yw,Yw,QE,QE,Bn,WH,WH,e,VB h,VB om]
  omega
theorem Ou {b:Z9} {kk k:Nat} {u:Value} {s:Z5} (hs:b.steps[k]? = some s) (hk:¬k=kk):WX b kk u k++Zo [YG s]=WX b kk u (k+1):=by
 have hkl:=(Xp.1 hs).1
 by_cases q:k<=kk
 ·rw [WX,Ze q,WX,Ze om]
  exact Nr hs
 ·rw [WX,Z8 q,WX,Z8 om,TH,TH]
  congr 2
  rw [V7 hs,List.drop_append_of_le_length (by rw [WH];omega),WW,Qh]
  congr 1
  rw [VG];rfl
theorem Ox {b:Z9} {kk k:Nat} (hk:¬k=kk):Th b kk k=Th b kk (k+1):=by
 by_cases q:k<=kk
 ·rw [Th,Ze q,Th,Ze om]
 ·rw [Th,Z8 q,Th,Z8 om]
theorem Ov {b:Z9} {kk:Nat} {u u2:Value} {s:Z5} (hs:b.steps[kk]? = some s):WX b kk u kk++DU s u2=WX b kk u2 (kk+1):=by
 rw [WX,Ze (X5 _),WX,Z8 om,Fp hs,GU (by rw [WH];omega),VG]
 show _=_++(DU s u2++Zo [])
 rw [Z46,JM]
theorem Oy {b:Z9} {kk:Nat} {s:Z5} (hs:b.steps[kk]? = some s):Zo (YK s.kids)=Th b kk (kk+1):=by
 rw [Th,Z8 om,Fp hs]
theorem R8 {α:Type}:∀(A X:List α) (m:Nat) (y:α),(A++X).set (A.length+m) y=A++X.set m y
 | [],X,m,y=>by simp
 | a::r,X,m,y=>by
  have:=R8 r X m y
  rw [Qt,YR,show r.length+1+m=(r.length+m)+1 by omega,List.set_cons_succ,this,Qt]
theorem Z69 {α:Type} (A X:List α) (m:Nat):(A++X)[A.length+m]? = X[m]?:=by
 rw [Dh om];congr 1;omega
section
variable {b:Z9} {kk:Nat} {u:Value} {s:Z5}
theorem Ix (hs:b.steps[kk]? = some s):WX b kk u b.steps.length=Zo (Zy (b.steps.take kk))++(DU s u++Zo (Zy (b.steps.drop (kk+1)))):=by
 have hk:=(Xp.1 hs).1
 rw [WX,Z8 om,Fp hs,VA]
theorem Iw (hs:b.steps[kk]? = some s):(Zo (Zy (b.steps.take kk))).length=kk*5:=by
 have hk:=(Xp.1 hs).1
 rw [QE,WH,VB om]
theorem Z8f (hs:b.steps[kk]? = some s):(WX b kk u b.steps.length)[kk*5+4]? = some (.val u):=by
 rw [Ix hs,<-Iw hs,Z69];rfl
theorem FL (hs:b.steps[kk]? = some s):((WX b kk u b.steps.length).drop (kk*5+4)).take 1=[.val u]:=by
 rw [Ix hs,<-Iw hs,<-List.drop_drop,List.drop_left];rfl
theorem Z45 {xs:List Z5} {k:Nat} {t:Z5} (hk:k<xs.length):Zo (Zy (xs.set k t))=Zo (Zy (xs.take k))++(Xv t++Zo (Zy (xs.drop (k+1)))):=by
 rw [Eu,Ze hk,WW,Qh,Fi]
theorem Z8g (hs:b.steps[kk]? = some s) (ks:List Z9):(WX b kk u b.steps.length).set (kk*5+4) (.sl (YK ks) none)=Zo (Zy (b.steps.set kk ⟨s.op,s.num,s.into,s.args,ks⟩)):=by
 have hk:=(Xp.1 hs).1
 rw [Ix hs,<-Iw hs,R8,Z45 hk];rfl
theorem Iz (hs:b.steps[kk]? = some s):Th b kk b.steps.length=Zo (YK s.kids):=by
 have hk:=(Xp.1 hs).1
 rw [Th,Z8 om,Fp hs]
theorem Z8h (hs:b.steps[kk]? = some s):b.steps.set kk ⟨s.op,s.num,s.into,s.args,s.kids⟩=b.steps:=by
 have e:Z5.mk s.op s.num s.into s.args s.kids=s:=by cases s;rfl
 rw [e]
 apply List.ext_getElem?
 intro i
 rw [List.getElem?_set]
 split
 ·rename_i q;subst q;rw [Ze (Xp.1 hs).1];exact hs.symm
 ·rfl
end
theorem VU.set:∀(ls:List AV) (p:Nat) {x y:AV},Zd x y->VU (ls.set p x) (ls.set p y)
 | [],_,_,_,_=>.nil
 | a::r,0,_,_,h=>.cons h (VU.refl r)
 | a::r,p+1,_,_,h=>.cons (Zd.refl a) (VU.set r p h)
theorem VU.len:∀{xs ys:List AV},VU xs ys->ys.length=xs.length
 | _,_,.nil=>rfl
 | _,_,.cons _ t=>by rw [YR,YR,t.len]
theorem Z47 (v:Value) (k:Nat) (ls ks:List AV):Res.fp (.row v k ks)=Res.fp (.row v k ls):=by
 cases v with
 | slice a _ _=>cases a<;>rfl
 | _=>rfl
theorem Zb3 {w:World} {G:Y9} {v:Value} {k:Nat} {ls ls':List AV} {h2:List Res} (hle:VU ls ls') (hh:Yt w G (.row v k ls::h2)):Yt w G (.row v k ls'::h2)/\YV w G (.row v k ls::h2) w G (.row v k ls'::h2):=by
 have hpw:=WQ.1 hh.apart
 have hf:∀b o,Res.fp (.row v k ls') b o->Res.fp (.row v k ls) b o:=fun b o h=>by rw [Z47 v k ls ls'] at h;exact h
 refine ⟨⟨fun r hr=>?_,WQ.2 ⟨fun r hr b o f1 f2=>hpw.1 r hr b o (hf b o f1) f2,hpw.2⟩,fun r hr b o f1 hg=>?_,hh.lt⟩,⟨rfl,rfl,rfl,X5 _,fun _ _ h=>h,fun _ _=>.inl rfl,fun _ _ _ h=>.inl h,fun b o _ ⟨r,hr,f1⟩=>?_⟩⟩
 ·rcases YD.1 hr with rfl|hr
  ·rcases hh.ok _ (Xh ..) with ⟨h0,h1⟩|⟨g,len,cap,cur,e,h0,h1,h3,h4,h5,h6⟩
   ·subst h1;cases hle;exact .inl ⟨h0,rfl⟩
   ·exact .inr ⟨g,len,cap,cur,e,h0,h1,h3,h4,by rw [hle.len];exact h5,hle.cs h6⟩
  ·exact hh.ok r (XB _ hr)
 ·rcases YD.1 hr with rfl|hr
  ·exact hh.prot _ (Xh ..) b o (hf b o f1) hg
  ·exact hh.prot r (XB _ hr) b o f1 hg
 ·rcases YD.1 hr with rfl|hr
  ·exact ⟨_,Xh ..,hf b o f1⟩
  ·exact ⟨r,XB _ hr,f1⟩
section
variable {h:List Res}
theorem RY (j i:Nat) (b:Z9) (kk:Nat) (s:Z5) (ks:List Z9) (u v:Value) (hs:b.steps[kk]? = some s) (hp:Wm [j,i] h=some [.row u 2 (Zo (YK ks)),.row v 5 (WX b kk u b.steps.length)]:=by kernel_rfl) :
  Tm h (.row v 5 (Zo (Zy (b.steps.set kk ⟨s.op,s.num,s.into,s.args,ks⟩)))::.tail u 2::XF [j,i] h):=by
 intro w G hh
 obtain ⟨G',a1,a2⟩:=Zei j i (kk*5+4) hp (TK ks) om (Z8f hs) w G hh
 obtain ⟨b1,b2⟩:=Zb3 (VU.set _ (kk*5+4) (Zd.forget (YK ks) (some u))) a1
 rw [Z8g hs] at b1 b2
 exact ⟨G',b1,a2.trans b2⟩
theorem LM (j i:Nat) (b:Z9) (kk:Nat) (s:Z5) (u v:Value) (hs:b.steps[kk]? = some s) (hp:Wm [j,i] h=some [.row u 2 (Th b kk b.steps.length),.row v 5 (WX b kk u b.steps.length)]:=by kernel_rfl) :
  Tm h (.row v 5 (Zo (Zy b.steps))::.tail u 2::XF [j,i] h):=by
 have Yh:Wm [j,i] h=some [.row u 2 (Zo (YK s.kids)),.row v 5 (WX b kk u b.steps.length)]:=by rw [hp,Iz hs]
 have:=RY j i b kk s s.kids u v hs Yh
 rwa [Z8h hs] at this
end
theorem Nq {xs:List Z5} {k:Nat} (hk:k<xs.length):(Zo (Zy xs)).take (k*5)++(Zo (Zy xs)).drop ((k+1)*5)=Zo (Zy (xs.take k++xs.drop (k+1))):=by
 have h1:(Zo (Zy (xs.take k))).length=k*5:=by rw [QE,WH,VB om]
 have h2:(Zo (Zy (xs.take (k+1)))).length=(k+1)*5:=by rw [QE,WH,VB om]
 have e1:Zo (Zy xs)=Zo (Zy (xs.take k))++Zo (Zy (xs.drop k)):=by rw [<-Qh,<-WW,Ux]
 have e2:Zo (Zy xs)=Zo (Zy (xs.take (k+1)))++Zo (Zy (xs.drop (k+1))):=by rw [<-Qh,<-WW,Ux]
 rw [WW,Qh]
 congr 1
 ·rw [e1,<-h1,JN]
 ·conv=>lhs;rw [e2,<-h2,List.drop_left]
theorem Z3y {xs:List Z9} {i:Nat} {s:Z9} (h:xs[i]? = some s):((Zo (YK xs)).drop (i*2)).take 2=Xk s:=by
 have hi:=(Xp.1 h).1
 have h1:(Zo (YK (xs.take i))).length=i*2:=by rw [DH,WH,VB om]
 have e1:Zo (YK xs)=Zo (YK (xs.take i))++Zo (YK (xs.drop i)):=by rw [<-Qh,<-A1,Ux]
 rw [e1,<-h1,List.drop_left,Y7 h,Tb,Um]
 rfl
section
variable {rs:List Yf} {k:Nat} {r:Yf}
theorem HY (hk:k<rs.length) (r:Yf):Zo (YP (rs.set k r))=Zo (YP (rs.take k))++((K6 r).leaves++Zo (YP (rs.drop (k+1)))):=by
 rw [Eu,Ze hk,BK,Qh];rfl
theorem Np (hk:k<rs.length):(Zo (YP (rs.take k))).length=k*5:=by rw [Fh,WH,VB om]
theorem Z42 (hk:k<rs.length) (r:Yf):((Zo (YP (rs.set k r))).drop (k*5+1)).take 1=[Z4 r.lent]:=by
 rw [HY hk,<-Np hk,<-List.drop_drop,List.drop_left];rfl
theorem Z44 (hk:k<rs.length) (r:Yf) (l:LI):(Zo (YP (rs.set k r))).take (k*5+1)++[Z4 l]++(Zo (YP (rs.set k r))).drop (k*5+1+1)=Zo (YP (rs.set k ⟨r.params,l,r.result,r.body⟩)):=by
 have hl:=Np hk
 rw [HY hk,HY hk]
 have e:(K6 r).leaves=[Z4 r.params]++([Z4 r.lent]++[.i r.result,.sl (Zy r.body.steps) none,.i r.body.result]):=rfl
 have e2:(K6 ⟨r.params,l,r.result,r.body⟩).leaves=[Z4 r.params]++([Z4 l]++[.i r.result,.sl (Zy r.body.steps) none,.i r.body.result]):=rfl
 rw [e,e2]
 have q:=Lc (A:=Zo (YP (rs.take k))++[Z4 r.params]) (xs:=[Z4 r.lent]) (ys:=[Z4 l]) (B:=[.i r.result,.sl (Zy r.body.steps) none,.i r.body.result]++Zo (YP (rs.drop (k+1)))) (o:=k*5+1) (by rw [Yw,hl];rfl) rfl
 simpa [TH] using q
end
end Go.Abs
section
namespace Go.Abs
theorem UE {rs fs:List Func} (hp:fs <+: rs) {i:Nat} {f:Func} (hx:fs[i]? = some f) (c:Nat) {zs:List AV} (hz:((FM f).drop c).take zs.length=zs) (hl:c+zs.length<=5):((Zo (Xr rs)).drop (i*5+c)).take zs.length=zs:=by
 obtain ⟨ys,rfl⟩:=hp
 have h1:(fs++ys)[i]? = some f:=by rw [Dg (Xp.1 hx).1];exact hx
 have e1:=(Ux i (fs++ys)).symm
 rw [Y7 h1] at e1
 have hl2:(Zo (Xr ((fs++ys).take i))).length=i*5:=by
  rw [TD (k:=5) _ (F6 _),Cv,WH,VB (by have:=(Xp.1 h1).1;omega)]
 have e2:Zo (Xr (fs++ys))=Zo (Xr ((fs++ys).take i))++(FM f++Zo (Xr ((fs++ys).drop (i+1)))):=by
  conv=>lhs;rw [e1]
  simp only [Xr,Zo,List.map_append,Um,List.flatMap_append,As]
  rfl
 rw [e2,List.drop_append,List.drop_of_length_le om,Cc,hl2,Nat.add_sub_cancel_left,List.drop_append_of_le_length (by show c<=5;omega),List.take_append_of_le_length (by rw [Bn];show zs.length<=5-c;omega)]
 exact hz
theorem HW (rs:List Func):(Zo (Xr rs)).length=rs.length*5:=by rw [TD (k:=5) _ (F6 _),Cv]
end Go.Abs
namespace Go.Abs
abbrev Ws (g:W8) (gb:Nat):List AV:=[ZU g.decls,.ms gb 0 g.funcs.length 4]
abbrev XO (gb:Nat) (rs:List Func):Res:=.row (.slice (some ⟨gb,0,none⟩) 4 4) 5 (Zo (Xr rs))
abbrev Yx (rd:Nat) (bs:LI) (p:Nat):Res:=.obj rd [U9 bs,.i p]

end Go.Abs
end
namespace Go.Abs
theorem Zb5 {w:World} {G:Y9} {g len cap k m:Nat} {ls:List AV} {h2:List Res} (hh:Yt w G (.row (.slice (some ⟨g,0,none⟩) len cap) k ls::h2)) (hle:m<=len) :
  Yt w G (.row (.slice (some ⟨g,0,none⟩) m cap) k (ls.take (m*k))::h2)/\YV w G (.row (.slice (some ⟨g,0,none⟩) len cap) k ls::h2) w G (.row (.slice (some ⟨g,0,none⟩) m cap) k (ls.take (m*k))::h2):=by
 have hpw:=WQ.1 hh.apart
 have hfp:∀b o,Res.fp (.row (.slice (some ⟨g,0,none⟩) m cap) k (ls.take (m*k))) b o->Res.fp (.row (.slice (some ⟨g,0,none⟩) len cap) k ls) b o:=fun b o hf=>hf
 refine ⟨⟨fun r hr=>?_,WQ.2 ⟨fun r hr b o h1 h2=>hpw.1 r hr b o (hfp b o h1) h2,hpw.2⟩,fun r hr b o hf hg=>?_,hh.lt⟩,⟨rfl,rfl,rfl,X5 _,fun _ _ h=>h,fun _ _=>.inl rfl,fun _ _ _ h=>.inl h,fun b o _ hf=>?_⟩⟩
 ·rcases YD.1 hr with rfl|hr
  ·rcases hh.ok _ (Xh ..) with ⟨h0,_⟩|⟨g',len',cap',cur,e,hv,h1,h3,h4,h5,h6⟩
   ·cases h0
   ·cases hv
    have hmk:m*k<=len*k:=Qu k hle
    refine .inr ⟨g,m,cap,cur,e,rfl,h1,by omega,h4,by rw [WH,h5];omega,?_⟩
    have:=h6.take (m*k)
    rw [List.take_take,VB hmk] at this
    exact this
  ·exact hh.ok r (XB _ hr)
 ·rcases YD.1 hr with rfl|hr
  ·exact hh.prot _ (Xh ..) b o (hfp b o hf) hg
  ·exact hh.prot r (XB _ hr) b o hf hg
 ·obtain ⟨r,hr,hf⟩:=hf
  rcases YD.1 hr with rfl|hr
  ·exact ⟨_,Xh ..,hfp b o hf⟩
  ·exact ⟨r,XB _ hr,hf⟩
theorem Z41 {rs:List Func} {k:Nat} (f:Func) (hk:k<rs.length):(Zo (Xr rs)).take (k*5)++FM f++(Zo (Xr rs)).drop (k*5+5)=Zo (Xr (rs.set k f)):=by
 rw [show Xr (rs.set k f)=(Xr rs).set k (Dn f) by simp [Xr,List.map_set]]
 exact Fk (y:=Dn f) (F6 rs) rfl (by simpa using hk)
theorem Ww.frzP {P:Program} {f:FuncId} {as1:List AV} {h0:List Res} {E:Type} {ds:E->List Zf} {rs:E->List Func} {m:E->Nat} {hs:E->List Res} {Q:E->Prop}
  (H:Ww P f as1 h0 (fun r h=>∃(e:E) (gb:Nat),r=.agg [ZU (ds e),.ms gb 0 (m e) 4]/\h=.row (.slice (some ⟨gb,0,none⟩) 4 4) 5 (Zo (Xr (rs e)))::hs e/\Q e)) (hm:∀e,Q e->m e<=4/\(rs e).length=4) :
  Ww P f as1 h0 (fun r h=>∃e:E,r=.agg [ZU (ds e),FY ((rs e).take (m e))]/\h=hs e/\Q e):=by
 intro w G vs hv hh
 refine (H w G vs hv hh).mono ?_
 rintro e w' ⟨u,r,h',G',he,⟨x,gb,rfl,rfl,hq⟩,hr,hh',hx⟩
 obtain ⟨hm4,hr4⟩:=hm x hq
 obtain ⟨j1,j2⟩:=Zb5 hh' hm4
 have hft:(Zo (Xr (rs x))).take (m x*5)=Zo (Xr ((rs x).take (m x))):=by
  have e1:rs x=(rs x).take (m x)++(rs x).drop (m x):=(Ux _ _).symm
  have e2:Zo (Xr (rs x))=Zo (Xr ((rs x).take (m x)))++Zo (Xr ((rs x).drop (m x))):=by
   conv=>lhs;rw [e1]
   rw [Z3c,Qh]
  rw [e2,List.take_append_of_le_length (by rw [HW,WH,show min (m x) (rs x).length=m x by omega];exact X5 _),Vq (by rw [HW,WH];exact Qu 5 (Nat.min_le_left _ _))]
 rw [hft] at j1 j2
 obtain ⟨G2,h1,h2,h3⟩:=C4 j1 (F6 _) om
 have hA:VR G' w' w' G2:=h2.agree j1
 refine ⟨u,_,hs x,G2,he,⟨x,rfl,rfl,hq⟩,?_,(h1.perm (List.perm_append_comm (l₁:=[_]))).left,((hx.trans j2).trans h2).sub' (Br _ _)⟩
 cases hr with
 | agg hc=>
  cases hc with
  | cons k1 t1=>
   cases t1 with
   | cons k2 t2=>
    cases t2
    have hv2:=k2.val_inv
    subst hv2
    refine .agg (.cons (k1.mono hA) (.cons ?_ .nil))
    have hw:Zd (.sl (Xr ((rs x).take (m x))) (some (.slice (some ⟨gb,0,none⟩) (m x) 4))) (FY ((rs x).take (m x))):=Zd.forget _ _
    exact hw _ _ _ h3
open Go.Proofs
theorem Z5l (code:LI) (hl:code.length<=1048576:=by exact ob) (hc:∀z∈code,0<=z/\z<=255):Zl 52 [U9 code] [] (fun r h=>∃(rd:Nat) (bs:LI),r=.p rd 0/\h=[.obj rd [U9 bs,.i 0]]/\∀z∈bs,0<=z/\z<=255):=by
 refine ZG 11 Tryz.func52 (ZF (YL 1 (iw (Kz code) (Z0 (XP (fun fz gz F h=>F=sF [] fz [(0,U9 (if (code.length:Int)>2000 then (code.take 2000) else code))]/\h=gz) ?_ ?_)))))
 ·refine W4 ((code.length:Int)>2000) (fun Za=>?_) (fun Za=>?_)
  ·exact az (Z2 1 (Zm (KW (es:=TL code) (hv:=none) (l:=0) (m:=2000) (sz:=1) (es':=TL (code.take 2000)) kr om (by simp<;>omega) (by simp<;>omega) (Z37 _) (by first|(simp only [VT,VA,HG,HF];done)|(simp only [VT,VA,HG,HF];rfl)|(simp [HG,HF];done))) (Z0 (ZQ ⟨rfl,rfl⟩ (wk [] (fc (x:=U9 (code.take 2000)) (Zd.sl _ (Ym TL (by first|rfl|(rw [Ze Za])|(rw [Z8 Za])|(simp [Za];done)|(rw [Xs];simp [Za];done)|omega))) fl))))))
  exact ak (ZQ ⟨rfl,rfl⟩ (wk [] (fc (x:=U9 code) (Zd.sl _ (Ym TL (by first|rfl|(rw [Ze Za])|(rw [Z8 Za])|(simp [Za];done)|(rw [Xs];simp [Za];done)|omega))) fl)))
 rintro F h ⟨rfl,rfl⟩
 exact Y5 2 (iA [U9 (if (code.length:Int)>2000 then (code.take 2000) else code),.i 0] fun b1=>Zq (r1 [0] ⟨b1,(if (code.length:Int)>2000 then (code.take 2000) else code),rfl,rfl,(by first|exact hc|exact fun z hz=>hc z (TX hz)|(split<;>first|exact hc|exact fun z hz=>hc z (TX hz)))⟩))
theorem W2 (rd:Nat) (bs:LI) (p:Nat) (mx:Int) (ZH:∀z∈bs,0<=z/\z<=255) (hp:p+1<=1000000000:=by exact ob):Zl 79 [.p rd 0,.i mx] [Yx rd bs p] (fun r h=>∃(k:Int),r=.i k/\h=[.obj rd [U9 bs,.i (p+1:Nat)]]/\Pk mx k):=by
 refine ZG 99 Tryz.func79 (ZF (Zv 5 [0] (ZK p (Z2 2 (ZI 0 rd [U9 bs,.i (p+1:Nat)] (ie (X0 (Xo [0,1] [(24,.b ((decide (mx<1))||((bs.length:Int)==0)))] (fun gz=>gz) ?_ ?_))))))))
 ·refine Z2 3 (ib (b:=(decide (mx<1))) 17 (fun Zb=>?_) (fun Zb=>?_))
  ·exact Z0 (wk [0] (Zu true Zb fl))
  exact ZM 4 [0] (iw (Kz bs) (Z0 (wk [0] (Zu ((bs.length:Int)==0) Zb fl))))
 refine ac ((decide (mx<1))||((bs.length:Int)==0)) (p:=(mx<1)∨((bs.length:Int)=0)) (Yj dq Zp) (fun Za=>?_) (fun Za=>?_)
 ·exact ar (Zq (r1 [0] ⟨0,rfl,rfl,Pk.zero⟩))
 refine ak (Zv 4 [0] (ia ((p:Int)) ((((p+1:Nat):Int))-(1)) (Z0 (Yi 5 [0] (iw (Kz bs) (Y0 ((p:Int)<(bs.length:Int)) (fun Zg=>?_) (fun Zg=>?_)))))))
 ·refine Zv 5 [0] ?_
  obtain ⟨x1,Z3⟩:=Zt bs p om
  have hz:=ZH _ (Y2 Z3)
  exact Zm (Zh none (p:Int) 1 (Cq Z3)) (Z2 1 (Zm (CO x1 om) (Z2 1 (Zm (DS x1 mx om om) (Zq (r1 [0] ⟨(x1 % mx),rfl,rfl,(Pk.rem om om)⟩))))))
 have hq1:p / bs.length<=p:=Nat.div_le_self _ _
 have hq0:(0:Int)<=((p / bs.length:Nat):Int):=Int.natCast_nonneg _
 refine ak (aD 46 (ZJ 37 46 [0,1,2,3,4,5,6,7,8] [0,0] (dw 9 (Kz bs) (dx 10 (FJ p bs.length om om) ?_))))
 obtain ⟨x2,Zr⟩:=Zt bs (p % bs.length) (Nat.mod_lt _ om)
 have hz:=ZH _ (Y2 Zr)
 refine dx 11 (Zh none ((p % bs.length:Nat):Int) 1 (Cq Zr)) (Zj 33 34 [12] (dx 13 (CO x2 om) (da 14 ((x2*131)) ((x2)*(131)) (ZJ 26 31 [15,16,17,18,19] [0] (da 20 (((p*7:Nat):Int)) (((p:Int))*(7)) (da 21 (((p*7+3:Nat):Int)) ((((p*7:Nat):Int))+(3)) (ZJ 20 24 [22,23,24,25] [0] (dw 26 (Kz bs) (dx 27 (FJ (p*7+3) bs.length om om) ?_)))))))))
 obtain ⟨x3,YI⟩:=Zt bs ((p*7+3) % bs.length) (Nat.mod_lt _ om)
 have hz3:=ZH _ (Y2 YI)
 exact dx 28 (Zh none (((p*7+3) % bs.length:Nat):Int) 1 (Cq YI)) (Zj 16 17 [29] (dx 30 (CO x3 om) (da 31 ((x3*1117)) ((x3)*(1117)) (da 32 (((x2*131)+(x3*1117))) (((x2*131))+((x3*1117))) (Zj 12 13 [33] (da 34 (((p*29:Nat):Int)) (((p:Int))*(29)) (da 35 ((((x2*131)+(x3*1117))+((p*29:Nat):Int))) ((((x2*131)+(x3*1117)))+(((p*29:Nat):Int))) (ZJ 5 10 [36,37,38,39,40] [0] (dw 41 (Kz bs) (dx 42 (BW p bs.length om om) (da 43 ((((p / bs.length:Nat):Int)*53)) ((((p / bs.length:Nat):Int))*(53)) (da 44 (((((x2*131)+(x3*1117))+((p*29:Nat):Int))+(((p / bs.length:Nat):Int)*53))) (((((x2*131)+(x3*1117))+((p*29:Nat):Int)))+((((p / bs.length:Nat):Int)*53))) (Zj 0 1 [45] (de (Y5 2 (Zm (Iv ((((x2*131)+(x3*1117))+((p*29:Nat):Int))+(((p / bs.length:Nat):Int)*53)) 64 om om) (Zm (Ot ((((x2*131)+(x3*1117))+((p*29:Nat):Int))+(((p / bs.length:Nat):Int)*53)) (((((x2*131)+(x3*1117))+((p*29:Nat):Int))+(((p / bs.length:Nat):Int)*53)) / 64)) (Z0 (Y5 2 (Zm (DS (Ar ((((x2*131)+(x3*1117))+((p*29:Nat):Int))+(((p / bs.length:Nat):Int)*53)) (((((x2*131)+(x3*1117))+((p*29:Nat):Int))+(((p / bs.length:Nat):Int)*53)) / 64)) mx om (GQ ⟨by omega,by omega⟩ ⟨by omega,by omega⟩).1) (Zq (r1 [0] ⟨((Ar ((((x2*131)+(x3*1117))+((p*29:Nat):Int))+(((p / bs.length:Nat):Int)*53)) (((((x2*131)+(x3*1117))+((p*29:Nat):Int))+(((p / bs.length:Nat):Int)*53)) / 64)) % mx),rfl,rfl,(Pk.rem (GQ ⟨by omega,by omega⟩ ⟨by omega,by omega⟩).1 om)⟩))))))))))))))))))))))
theorem VO (rd:Nat) (bs:LI) (p:Nat) (xs:LI) (ZH:∀z∈bs,0<=z/\z<=255) (hp:p+1<=1000000000:=by exact ob) (hx:0<xs.length/\xs.length<=1000000:=by exact ob):Zl 62 [.p rd 0,Z4 xs] [Yx rd bs p] (fun r h=>∃(z:Int),r=.i z/\h=[.obj rd [U9 bs,.i (p+1:Nat)]]/\z∈xs):=by
 refine ZG 12 Tryz.func62 (ZF (Y5 3 (iw (Y6 xs) (ic [0] (W2 rd bs p (xs.length:Int) (ZH:=ob)) ?_))))
 rintro _ _ ⟨k1,rfl,rfl,ZW⟩
 have hk:=ZW.lt om
 obtain ⟨x1,Z3⟩:=Zt xs k1.toNat om
 exact Zm (Zh none k1 1 (ZY Z3)) (Zq (r1 [0] ⟨x1,rfl,rfl,(Y2 Z3)⟩))
theorem Q3 (fs:LI) :Zl 144 [Z4 fs] [] (Yv (Dm (Yk.mk fs))):=by
 exact ZG 5 Tryz.func144 (ar (iA [nl] fun b1=>ie (Y5 2 (ZI 0 b1 [Z4 fs] (ie (ZD (r3 [] [.agg [Z4 fs]] [0] [(b1,b1)] ⟨rfl,rfl⟩ (Zd.agg (.cons (Zd.sl _ (Ym Z6 ob)) .nil)))))))))
theorem NE (rd:Nat) (bs:LI) (p:Nat) (ZH:∀z∈bs,0<=z/\z<=255) (hp:p+1<=1000000000:=by exact ob):Zl 143 [.p rd 0] [Yx rd bs p] (fun r h=>∃(ds:List Zf) (v:Hd),r=.h v/\h=[rK v 3 (Zo (X2 ds)),.obj rd [U9 bs,.i (p+1:Nat)]]/\GD ds):=by
 refine ZG 51 Tryz.func143 (ZF (ar (iL (Z6 []) 0 1 fun v1=>ZP 0 [(8,Z4 [])] (Zz [] (Q3 []) (iL (Z6 [0,1]) 2 1 fun v2=>ZP 0 [(10,Z4 [0,1])] (Zz [] (Q3 [0,1]) (iL (WV [Yk.mk [],Yk.mk [0,1]]) 2 1 fun v3=>Z2 1 (iA [.i 0,.i 0,nl] fun b1=>ZI 0 b1 [.i 0,.i 0,G0 [Yk.mk [],Yk.mk [0,1]] v3] (ie (ar (iL (Z6 []) 0 1 fun v4=>ZP 0 [(14,Z4 [])] (Zz [] (Q3 []) (iL (Z6 [3,0,3]) 3 1 fun v5=>ZP 0 [(16,Z4 [3,0,3])] (Zz [] (Q3 [3,0,3]) (iL (WV [Yk.mk [],Yk.mk [3,0,3]]) 2 1 fun v6=>Z2 1 (iA [.i 0,.i 0,nl] fun b2=>ZI 0 b2 [.i 0,.i 0,G0 [Yk.mk [],Yk.mk [3,0,3]] v6] (ie (ar (iL (Z6 [1,3]) 2 1 fun v7=>ZP 0 [(20,Z4 [1,3])] (Zz [] (Q3 [1,3]) (iL (WV [Yk.mk [1,3]]) 1 1 fun v8=>Z2 2 (iL (Z6 [1,1,0]) 3 1 fun v9=>ZP 0 [(25,Z4 [1,1,0])] (Zz [] (Q3 [1,1,0]) (iL (Z6 [0]) 1 1 fun v10=>ZP 0 [(27,Z4 [0])] (Zz [] (Q3 [0]) (iL (Z6 [3]) 1 1 fun v11=>ZP 0 [(29,Z4 [3])] (Zz [] (Q3 [3]) (iL (WV [Yk.mk [1,1,0],Yk.mk [0],Yk.mk [3]]) 3 1 fun v12=>ZP 2 [(23,.agg [.i 0,.i 0,KQ [Yk.mk [1,3]]]),(24,.agg [.i 1,.i 0,.sl [] none]),(32,.agg [.i 0,.i 0,KQ [Yk.mk [1,1,0],Yk.mk [0],Yk.mk [3]]]),(33,.agg [.i 0,.i 1,.sl [] none])] (iL (X2 [Zf.mk 0 0 [Yk.mk [1,3]],Zf.mk 1 0 [],Zf.mk 0 0 [Yk.mk [1,1,0],Yk.mk [0],Yk.mk [3]],Zf.mk 0 1 []]) 4 3 fun v13=>Z0 (ar (Qo 3 [(35,.agg [.i 0,.i 0,KQ [Yk.mk [],Yk.mk [0,1]]]),(36,.agg [.i 0,.i 0,.sl [] none]),(37,.agg [.i 0,.i 0,KQ [Yk.mk [],Yk.mk [3,0,3]]])] [11,7] (iKN (Zo (X2 [Zf.mk 0 0 [Yk.mk [],Yk.mk [0,1]],Zf.mk 0 0 [],Zf.mk 0 0 [Yk.mk [],Yk.mk [3,0,3]]])) 3 3 fun g1=>Z0 (Y5 1 (ic [16] (W2 rd bs p 5 (ZH:=ob)) ?_))))))))))))))))))))))))))))))))))
 rintro _ _ ⟨k1,rfl,rfl,ZW⟩
 have hk:=ZW.lt om
 refine Z0 (X0 (Y0 (k1<4) (fun Za=>?_) (fun Za=>?_)))
 ·refine az (Z2 3 ?_)
  obtain ⟨x1,Z3⟩:=Zt [Zf.mk 0 0 [Yk.mk [1,3]],Zf.mk 1 0 [],Zf.mk 0 0 [Yk.mk [1,1,0],Yk.mk [0],Yk.mk [3]],Zf.mk 0 1 []] k1.toNat (by show k1.toNat<4;omega)
  exact Zm (Zh (some v13) k1 3 (VN Z3)) (Z2 1 (iL (X2 [x1]) 1 3 fun v14=>ZP 0 [(48,ZU [x1])] (FA 2 3 (⟨some ⟨g1,0,none⟩,3,3⟩:Hd) 3 (Zo (X2 [Zf.mk 0 0 [Yk.mk [],Yk.mk [0,1]],Zf.mk 0 0 [],Zf.mk 0 0 [Yk.mk [],Yk.mk [3,0,3]]])) (X2 [x1]) none rfl (Jc _) (F4 _) (by simp [X2]) (by simp<;>omega) fun v15=>Z0 (ar (Zq (r1 [0,1] ⟨([JZ,Zf.mk 0 0 [],A0]++[x1]),v15,rfl,rfl,(GD.four Z3)⟩ (eq:=(rr (ls:=Zo (X2 [Zf.mk 0 0 [Yk.mk [],Yk.mk [0,1]],Zf.mk 0 0 [],Zf.mk 0 0 [Yk.mk [],Yk.mk [3,0,3]]])++Zo (X2 [x1])) (HV _ _) (rc rz)))))))))
 exact ak (ar (Zq (r1 [1,0] ⟨[JZ,Zf.mk 0 0 [],A0],(⟨some ⟨g1,0,none⟩,3,3⟩:Hd),rfl,rfl,GD.three⟩ (eq:=(rr (ls:=Zo (X2 [Zf.mk 0 0 [Yk.mk [],Yk.mk [0,1]],Zf.mk 0 0 [],Zf.mk 0 0 [Yk.mk [],Yk.mk [3,0,3]]])) rfl (rc rz))))))
theorem Z52 (rd:Nat) (bs:LI) (p:Nat) (ZH:∀z∈bs,0<=z/\z<=255) (hp:p+1<=1000000000:=by exact ob):Zl 143 [.p rd 0] [Yx rd bs p] (fun r h=>∃(ds:List Zf) (v:Value),r=JG ds v/\h=[.tail v 3,.obj rd [U9 bs,.i (p+1:Nat)]]/\GD ds):=(NE rd bs p ZH hp).frz (es:=X2) (hs:=fun _=>[.obj rd [U9 bs,.i (p+1:Nat)]]) Jc om
theorem Z4d (rd:Nat) (bs:LI) (p:Nat) (ZH:∀z∈bs,0<=z/\z<=255) (hp:p+5<=1000000000:=by exact ob):Zl 113 [.p rd 0] [Yx rd bs p] (fun r h=>∃(dz:List Zf) (p2:Nat),r=ZU dz/\h=[Yx rd bs p2]/\AD dz/\p<=p2/\p2<=p+5):=by
 refine ZG 89 Tryz.func113 (ZF (Y5 1 (ic [0] (NE rd bs p (ZH:=ob)) ?_)))
 rintro _ _ ⟨ds1,v1,rfl,rfl,ZW⟩
 have hgl:=ZW.len
 have hga:=ZW.ad
 refine Fz 0 ds1.length (v:=v1) (BO _) om (fun g1 c1 he1=>?_)
 subst he1
 refine Z0 (Y5 2 (io (.i ds1.length) (.i ds1.length) (lr _) (ic [1] (W2 rd bs (p+1) (ds1.length:Int) (ZH:=ob)) ?_)))
 rintro _ _ ⟨k1,rfl,rfl,Yh⟩
 have qhp2:=Yh.lt om
 refine Z0 (YL 1 (ic [0] (W2 rd bs ((p+1)+1) 14 (ZH:=ob)) ?_))
 rintro _ _ ⟨k2,rfl,rfl,YE⟩
 have qhp3:=YE.lt om
 refine ie (ab 0 (ZF (Jv (fun fz gz F h=>∃(dq:List Zf) (vq:Hd) (pq:Nat),(AD dq)/\(p<=pq/\pq<=p+5)/\F=sF [] fz [(3,.h vq)]/\h=[Yx rd bs pq,rK vq 3 (Zo (X2 dq))]) (fun _ _=>rfl) ?_ ?_)))
 ·refine ac (k2==0) Zp (fun Za=>?_) (fun Za=>?_)
  ·refine az (Z2 3 (iL (Z6 [-1,5,0,2]) 4 1 fun v2=>ZP 0 [(18,Z4 [-1,5,0,2])] (ic [1] (VO rd bs (((p+1)+1)+1) [-1,5,0,2] (ZH:=ob)) ?_)))
   rintro _ _ ⟨z1,rfl,rfl,YN⟩
   refine Z2 1 (iL (Z6 [0,1,5]) 3 1 fun v3=>ZP 0 [(21,Z4 [0,1,5])] (ic [1] (VO rd bs ((((p+1)+1)+1)+1) [0,1,5] (ZH:=ob)) ?_))
   rintro _ _ ⟨z2,rfl,rfl,X8⟩
   exact Z2 1 (Zm (Wp g1 ds1.length c1 k1.toNat 3 k1) (ZP 0 [(23,.agg [.i z1,.i z2,.sl [] none])] (DQ 3 g1 ds1.length c1 3 (k1.toNat * 3) [.i z1,.i z2,.sl [] none] (Zo (X2 ds1)) (Zo (X2 (ds1.set k1.toNat (Zf.mk z1 z2 [])))) (by rw [BO];simp only [YR,Xu];omega) (Fg (Zf.mk z1 z2 []) om) (ie (ZQ ⟨(ds1.set k1.toNat (Zf.mk z1 z2 [])),(⟨some ⟨g1,0,none⟩,ds1.length,c1⟩:Hd),((((p+1)+1)+1)+1)+1,(hga.set _ (by simp)),ob,rfl,rfl⟩ (wk [1,0] fl))))))
  refine ar (YB (k2==1) Zp (fun Zg=>?_) (fun Zg=>?_))
  ·refine az (Z2 3 (iL (Z6 [-1,0,4,5]) 4 1 fun v4=>ZP 0 [(30,Z4 [-1,0,4,5])] (ic [1] (VO rd bs (((p+1)+1)+1) [-1,0,4,5] (ZH:=ob)) ?_)))
   rintro _ _ ⟨z3,rfl,rfl,XJ⟩
   exact iL (Z6 [z3]) 1 1 fun v5=>ZP 0 [(32,Z4 [z3])] (Zz [] (Q3 [z3]) (iL (Z6 [0,0,0,0]) 4 1 fun v6=>ZP 0 [(34,Z4 [0,0,0,0])] (Zz [] (Q3 [0,0,0,0]) (iL (Z6 []) 0 1 fun v7=>ZP 0 [(36,Z4 [])] (Zz [] (Q3 []) (iL (WV [Yk.mk [z3],Yk.mk [0,0,0,0],Yk.mk []]) 3 1 fun v8=>Z2 1 (Zm (Wp g1 ds1.length c1 k1.toNat 3 k1) (ZP 0 [(39,.agg [.i 0,.i 0,KQ [Yk.mk [z3],Yk.mk [0,0,0,0],Yk.mk []]])] (DQ 6 g1 ds1.length c1 3 (k1.toNat * 3) [.i 0,.i 0,KQ [Yk.mk [z3],Yk.mk [0,0,0,0],Yk.mk []]] (Zo (X2 ds1)) (Zo (X2 (ds1.set k1.toNat (Zf.mk 0 0 [Yk.mk [z3],Yk.mk [0,0,0,0],Yk.mk []])))) (by rw [BO];simp only [YR,Xu];omega) (Fg (Zf.mk 0 0 [Yk.mk [z3],Yk.mk [0,0,0,0],Yk.mk []]) om) (ie (ZQ ⟨(ds1.set k1.toNat (Zf.mk 0 0 [Yk.mk [z3],Yk.mk [0,0,0,0],Yk.mk []])),(⟨some ⟨g1,0,none⟩,ds1.length,c1⟩:Hd),(((p+1)+1)+1)+1,(hga.set _ (by simp)),ob,rfl,rfl⟩ (wk [5,0] fl))))))))))))
  refine ar (YB (k2==2) Zp (fun ZC=>?_) (fun ZC=>?_))
  ·exact az (Z2 3 (ia ((k1+1)) ((k1)+(1)) (iL (Z6 [k1+1]) 1 1 fun v9=>ZP 0 [(47,Z4 [k1+1])] (Zz [] (Q3 [k1+1]) (iL (WV [Yk.mk [k1+1]]) 1 1 fun v10=>Z2 1 (Zm (Wp g1 ds1.length c1 k1.toNat 3 k1) (ZP 0 [(50,.agg [.i 0,.i 0,KQ [Yk.mk [k1+1]]])] (DQ 3 g1 ds1.length c1 3 (k1.toNat * 3) [.i 0,.i 0,KQ [Yk.mk [k1+1]]] (Zo (X2 ds1)) (Zo (X2 (ds1.set k1.toNat (Zf.mk 0 0 [Yk.mk [(k1+1)]])))) (by rw [BO];simp only [YR,Xu];omega) (Fg (Zf.mk 0 0 [Yk.mk [(k1+1)]]) om) (ie (ZQ ⟨(ds1.set k1.toNat (Zf.mk 0 0 [Yk.mk [(k1+1)]])),(⟨some ⟨g1,0,none⟩,ds1.length,c1⟩:Hd),((p+1)+1)+1,(hga.set _ (by simp)),ob,rfl,rfl⟩ (wk [3,0] fl)))))))))))
  refine ar (YB (k2==3) Zp (fun Ye=>?_) (fun Ye=>?_))
  ·refine az (Z2 2 (iL (Z6 [0,2,1]) 3 1 fun v11=>ZP 0 [(56,Z4 [0,2,1])] (ic [1] (VO rd bs (((p+1)+1)+1) [0,2,1] (ZH:=ob)) ?_)))
   rintro _ _ ⟨z4,rfl,rfl,Wn⟩
   exact ZP 1 [(58,.agg [.i 2,.i z4,.sl [] none])] (iL (X2 [Zf.mk 2 z4 []]) 1 3 fun v12=>ZP 0 [(59,ZU [Zf.mk 2 z4 []])] (FA 3 ds1.length (⟨some ⟨g1,0,none⟩,ds1.length,c1⟩:Hd) 3 (Zo (X2 ds1)) (X2 [Zf.mk 2 z4 []]) none (BO _) (Jc _) (F4 _) (by simp [X2]) (by simp<;>omega) fun v13=>Z0 (ZQ ⟨(ds1++[Zf.mk 2 z4 []]),v13,(((p+1)+1)+1)+1,(hga.app (by simp;omega) (by simp)),ob,rfl,rfl⟩ (wk [2,0] fl (e:=(rc (rr (ls:=Zo (X2 ds1)++Zo (X2 [Zf.mk 2 z4 []])) (HV _ _) rz)))))))
  refine ar (YB (k2==4) Zp (fun Xf=>?_) (fun Xf=>?_))
  ·refine az (Z2 3 (ic [0] (W2 rd bs (((p+1)+1)+1) 2 (ZH:=ob)) ?_))
   rintro _ _ ⟨k3,rfl,rfl,WL⟩
   have qhp8:=WL.lt om
   refine iL (Z6 []) 0 1 fun v14=>ZP 0 [(67,Z4 [])] (Zz [] (Q3 []) (iL (Z6 [2]) 1 1 fun v15=>ZP 0 [(69,Z4 [2])] (Zz [] (Q3 [2]) (iL (Z6 []) 0 1 fun v16=>ZP 0 [(71,Z4 [])] (Zz [] (Q3 []) (iL (Z6 []) 0 1 fun v17=>ZP 0 [(73,Z4 [])] (Zz [] (Q3 []) (iL (WV [Yk.mk [],Yk.mk [2],Yk.mk [],Yk.mk []]) 4 1 fun v18=>Z2 1 (ic [5] (W2 rd bs ((((p+1)+1)+1)+1) 3 (ZH:=ob)) ?_)))))))))
   rintro _ _ ⟨k4,rfl,rfl,V5⟩
   have qhp9:=V5.lt om
   exact Zm (KW (es:=WV [Yk.mk [],Yk.mk [2],Yk.mk [],Yk.mk []]) (hv:=some v18) (l:=k4) (m:=(((WV [Yk.mk [],Yk.mk [2],Yk.mk [],Yk.mk []]).length:Nat):Int)) (sz:=1) (es':=WV ([Yk.mk [],Yk.mk [2],Yk.mk [],Yk.mk []].drop k4.toNat)) kr om (by simp<;>omega) (by simp<;>omega) (HI _) (by first|(simp only [VT,VA,HJ,HH];done)|(simp only [VT,VA,HJ,HH];rfl)|(simp [HJ,HH];done))) (Z2 1 (Zm (Wp g1 ds1.length c1 k1.toNat 3 k1) (DQ 6 g1 ds1.length c1 3 (k1.toNat * 3) [.i k3,.i 0,KQ ([Yk.mk [],Yk.mk [2],Yk.mk [],Yk.mk []].drop k4.toNat)] (Zo (X2 ds1)) (Zo (X2 (ds1.set k1.toNat (Zf.mk k3 0 ([Yk.mk [],Yk.mk [2],Yk.mk [],Yk.mk []].drop k4.toNat))))) (by rw [BO];simp only [YR,Xu];omega) (Fg (Zf.mk k3 0 ([Yk.mk [],Yk.mk [2],Yk.mk [],Yk.mk []].drop k4.toNat)) om) (ie (ZQ ⟨(ds1.set k1.toNat (Zf.mk k3 0 ([Yk.mk [],Yk.mk [2],Yk.mk [],Yk.mk []].drop k4.toNat))),(⟨some ⟨g1,0,none⟩,ds1.length,c1⟩:Hd),((((p+1)+1)+1)+1)+1,(hga.set _ ⟨by simp,fun c hc=>(by decide:∀c∈[Yk.mk [],Yk.mk [2],Yk.mk [],Yk.mk []],c.fields.length<=4) c (List.mem_of_mem_drop hc)⟩),ob,rfl,rfl⟩ (wk [1,0] fl))))))
  refine ar (YB (k2==5) Zp (fun Xb=>?_) (fun Xb=>?_))
  ·exact az (ZP 3 [(84,.agg [.i 0,.i 0,.sl [] none]),(85,.agg [.i 3,.i 0,.sl [] none])] (iL (X2 [Zf.mk 0 0 [],Zf.mk 3 0 []]) 2 3 fun v19=>ZP 0 [(86,ZU [Zf.mk 0 0 [],Zf.mk 3 0 []])] (FA 2 ds1.length (⟨some ⟨g1,0,none⟩,ds1.length,c1⟩:Hd) 3 (Zo (X2 ds1)) (X2 [Zf.mk 0 0 [],Zf.mk 3 0 []]) none (BO _) (Jc _) (F4 _) (by simp [X2]) (by simp<;>omega) fun v20=>Z0 (ZQ ⟨(ds1++[Zf.mk 0 0 [],Zf.mk 3 0 []]),v20,((p+1)+1)+1,(hga.app (by simp;omega) (by simp)),ob,rfl,rfl⟩ (wk [2,0] fl (e:=(rc (rr (ls:=Zo (X2 ds1)++Zo (X2 [Zf.mk 0 0 [],Zf.mk 3 0 []])) (HV _ _) rz))))))))
  exact ak (ZQ ⟨ds1,(⟨some ⟨g1,0,none⟩,ds1.length,c1⟩:Hd),((p+1)+1)+1,hga,ob,rfl,rfl⟩ (wk [0,0] fl))
 rintro F h ⟨dq,vq,pq,KL,Is,rfl,rfl⟩
 exact ZF (Z88 2 1 (v:=vq) (X2 dq) (Jc _) (ZD (r2 [1] [JG dq vq.v] ⟨dq,pq,rfl,rfl,⟨KL,Is⟩⟩ (Zd.forget _ _))))
theorem Zd7 (ds:List Zf) (n:Nat) (hz:JR ds:=by exact ob) (hn:n<ds.length:=by exact ob):Zl 268 [ZU ds,.i n] [] (Yv (.b (BI ds n))):=by
 have hl_ds:ds.length<=4294967296:=by have:=hz.len;omega
 refine ZG 100 Tryz.func268 (ZF (Y5 2 ?_))
 obtain ⟨x1,Z3⟩:=Zt ds n om
 have hdo:=Dx Z3
 have hz1:=hz.cons_at Z3
 refine Zm (Zh none (n:Int) 3 (VN Z3)) (Z2 1 (iA [.i 0,.i 0,nl] fun b1=>ZI 0 b1 (QL x1) (ie (Yi 2 [0] (iw (US x1.cons) (Y0 ((x1.cons.length:Int)>0) (fun Za=>?_) (fun Za=>?_)))))))
 ·refine Yi 2 [0] (iw (US x1.cons) (XK 9 [0,5] [(24,.b ((decide ((x1.cons.length:Int)>3))||(x1.frm != 0)))] (fun gz=>gz) ?_ (fun hj1=>?_)))
  ·refine Xo [0,5] [(29,.b (((decide ((x1.cons.length:Int)>3))||(x1.frm != 0))||(x1.to_ != 0)))] (fun gz=>gz) ?_ ?_
   ·refine Z2 1 (ib (b:=((decide ((x1.cons.length:Int)>3))||(x1.frm != 0))) 25 (fun Zb=>?_) (fun Zb=>?_))
    ·have ZW:((x1.cons.length:Int)>3)∨(x1.frm≠0):=((Yj dq Yl)).1 Zb
     exact Z0 (wk [0] (Zu true Zb fl))
    have Yh:¬(((x1.cons.length:Int)>3)∨(x1.frm≠0)):=Ya (Yj dq Yl) Zb
    exact Vo [0] (wk [0] (Zu (x1.to_ != 0) Zb fl))
   refine ac (((decide ((x1.cons.length:Int)>3))||(x1.frm != 0))||(x1.to_ != 0)) (p:=(((x1.cons.length:Int)>3)∨(x1.frm≠0))∨(x1.to_≠0)) (Yj (Yj dq Yl) Yl) (fun Zg=>?_) (fun Zg=>?_)
   ·exact ar (Zq (Y1 (.b false) (lb (by clear Z3;first|rfl|omega|grind [UC]))))
   refine ak (Yb (ab 0 (Y4 (fun fz gz m F h=>∃(k:Nat),(k<=x1.cons.length)/\(TC ds.length (x1.cons.drop k)=TC ds.length x1.cons)/\F=sF [0,5] fz [(6,.i k)]/\h=gz/\m=x1.cons.length-k) _ _ _ ⟨0,ob,ob,rfl,rfl,rfl⟩ (wk [0] (Yd fl)) ?_)))
   rintro m F h ⟨k,Yg,Zi,rfl,rfl,rfl⟩
   refine Yi 3 [0] (iw (US x1.cons) (Y0 ((k:Int)<(x1.cons.length:Int)) (fun ZC=>?_) (fun ZC=>?_)))
   ·refine ak (aq (ab 1 (Zv 3 [0] ?_)))
    obtain ⟨x2,Zr⟩:=Zt x1.cons k om
    refine Zm (Zh none (k:Int) 1 (Cr Zr)) (Z2 2 (iw (Y6 x2.fields) (Xo [0,5,6] [(55,.b ((decide ((x2.fields.length:Int)>3))||(!Wi ds.length x2.fields)))] (fun gz=>gz) ?_ ?_)))
    ·refine Z2 2 (ib (b:=(decide ((x2.fields.length:Int)>3))) 45 (fun ZA=>?_) (fun ZA=>?_))
     ·have YE:(x2.fields.length:Int)>3:=(dq).1 ZA
      exact Z0 (wk [0] (Zu true ZA fl))
     have YN:¬((x2.fields.length:Int)>3):=Ya dq ZA
     exact ZM 4 [0] (Zm (Zh none (k:Int) 1 (Cr Zr)) (Z2 2 (Zz [] (Rm ds x2.fields) (Z0 (wk [0] (Zu (!Wi ds.length x2.fields) ZA fl))))))
    refine ac ((decide ((x2.fields.length:Int)>3))||(!Wi ds.length x2.fields)) (p:=((x2.fields.length:Int)>3)∨(¬(Wi ds.length x2.fields=true))) (Yj dq (Yo Iff.rfl)) (fun Ye=>?_) (fun Ye=>?_)
    ·refine ZF ?_
     rw [Y7 Zr] at Zi
     exact ZD (Y1 (.b false) (lb (by clear Z3 Zr;first|rfl|omega|grind [TC,Ja,UC])))
    refine ak (az (Z2 1 (ZK k (Z0 ?_))))
    have hdr:=Y7 Zr
    exact ZL ⟨k+1,ob,(by rw [hdr] at Zi;clear hdr Z3 Zr;grind [TC,Ja]),rfl,rfl,rfl⟩ (wk [0] (ZO k fl))
   refine ax 0 (ZF ?_)
   try rw [Xi (xs:=x1.cons) (k:=k) om] at Zi
   exact ZD (Y1 (.b true) (lb (by clear Z3;first|rfl|omega|grind [TC,Ja,UC])))
  refine Z2 2 (ib (b:=(decide ((x1.cons.length:Int)>3))) 20 (fun Yy=>?_) (fun Yy=>?_))
  ·have X8:(x1.cons.length:Int)>3:=(dq).1 Yy
   exact Z2 4 (Yu (wk [0] (Zu true Yy fl)) hj1)
  have XJ:¬((x1.cons.length:Int)>3):=Ya dq Yy
  exact ZM 4 [0] (Yu (wk [0] (Zu (x1.frm != 0) Yy fl)) hj1)
 refine ak (Yb (ab 2 (Y4 (fun fz gz m F h=>∃(j:Nat),(j<=n)/\(QC x1 ((ds.take n).drop j)=QC x1 (ds.take n))/\F=sF [0,1,5] fz [(7,.i j)]/\h=gz/\m=n-j) _ _ _ ⟨0,ob,ob,rfl,rfl,rfl⟩ (wk [0] (Yd fl)) ?_)))
 rintro m F h ⟨j,Uo,XY,rfl,rfl,rfl⟩
 refine X0 (Y0 ((j:Int)<(n:Int)) (fun Xf=>?_) (fun Xf=>?_))
 ·refine ak (aq (ab 3 (aD 27 (Zj 25 27 [0,1] ?_))))
  obtain ⟨x3,YI⟩:=Zt ds j om
  refine dx 2 (Zh none (j:Int) 3 (VN YI)) (Zj 22 24 [3,4] (dw 5 (US x3.cons) (JY [0,1,5,7] [(87,.b (((x3.cons.length:Int)==0)&&((x3.frm==x1.frm)&&(x3.to_==x1.to_))))] (fun gz=>gz) ?_ ?_)))
  ·refine Zj 19 21 [6,7] (db (b:=((x3.cons.length:Int)==0)) 68 (fun Xe=>?_) (fun Xe=>?_))
   ·have Wn:(x3.cons.length:Int)=0:=(Zp).1 Xe
    refine Zj 17 19 [8,9] (dx 10 (Zh none (j:Int) 3 (VN YI)) (ZJ 9 16 [11,12,13,14,15,16,17] [0] (db (b:=(x3.frm==x1.frm)) 78 (fun Wy=>?_) (fun Wy=>?_))))
    ·have WL:x3.frm=x1.frm:=(Zp).1 Wy
     exact Zj 7 9 [18,19] (dx 20 (Zh none (j:Int) 3 (VN YI)) (ZJ 0 6 [21,22,23,24,25,26] [0] (de (wk [0] (Zu (x3.to_==x1.to_) (And.intro Xe Wy) fl)))))
    have V5:¬(x3.frm=x1.frm):=Ya Zp Wy
    exact Zj 0 9 [18,19,20,21,22,23,24,25,26] (de (wk [0] (Zu false (And.intro Xe Wy) fl)))
   have Ur:¬((x3.cons.length:Int)=0):=Ya Zp Xe
   exact Zj 0 19 [8,9,10,11,12,13,14,15,16,17,18,19,20,21,22,23,24,25,26] (de (wk [0] (Zu false Xe fl)))
  refine ac (((x3.cons.length:Int)==0)&&((x3.frm==x1.frm)&&(x3.to_==x1.to_))) (p:=((x3.cons.length:Int)=0)/\((x3.frm=x1.frm)/\(x3.to_=x1.to_))) (YH Zp (YH Zp Zp)) (fun Xb=>?_) (fun Xb=>?_)
  ·refine ZF ?_
   rw [Y7 (show (ds.take n)[j]? = some x3 by rw [TI,Ze om];exact YI),QC,Ze om] at XY
   exact ZD (Y1 (.b false) (lb (by clear Z3 YI;first|rfl|omega|grind [UC])))
  refine ak (az (Z2 1 (ZK j (hb:=(by have:=hz.len;omega)) (Z0 ?_))))
  have hdr:=Y7 YI
  exact ZL ⟨j+1,ob,(by rw [Y7 (show (ds.take n)[j]? = some x3 by rw [TI,Ze om];exact YI),QC,Z8 om] at XY;exact XY),rfl,rfl,rfl⟩ (wk [0] (ZO j fl))
 refine ax 2 (Zv 3 [0] (iw (Up ds) (Zz [] (UI x1.frm 0 (ds.length:Int)) (XK 12 [] [(99,.b ((decide (0<=x1.frm/\x1.frm<=(ds.length:Int)))&&(decide (0<=x1.to_/\x1.to_<=(ds.length:Int)))))] (fun gz=>gz) ?_ (fun hj2=>?_)))))
 ·refine Z0 ?_
  rw [Xi (show (ds.take n).length<=j by rw [WH];omega),QC] at XY
  exact ZD (Y1 (.b ((decide (0<=x1.frm/\x1.frm<=(ds.length:Int)))&&(decide (0<=x1.to_/\x1.to_<=(ds.length:Int))))) (lb (by clear Z3;first|rfl|omega|grind [UC])))
 refine Z2 1 (ib (b:=(decide (0<=x1.frm/\x1.frm<=(ds.length:Int)))) 93 (fun V4=>?_) (fun V4=>?_))
 ·have Tg:0<=x1.frm/\x1.frm<=(ds.length:Int):=(dq).1 V4
  exact ZM 3 [0] (iw (Up ds) (Zz [] (UI x1.to_ 0 (ds.length:Int)) (Z2 1 (Yu (wk [0] (Zu (decide (0<=x1.to_/\x1.to_<=(ds.length:Int))) V4 fl)) hj2))))
 have UY:¬(0<=x1.frm/\x1.frm<=(ds.length:Int)):=Ya dq V4
 exact Z2 6 (Yu (wk [0] (Zu false V4 fl)) hj2)
theorem Zdc (ds:List Zf) (hz:JR ds:=by exact ob):Zl 222 [ZU ds] [] (Yv (.b (WT ds))):=by
 have hzl:=hz.len
 refine ZG 17 Tryz.func222 (ZF (YL 1 (iw (Up ds) (Y0 ((ds.length:Int)>4) (fun Za=>?_) (fun Za=>?_)))))
 ·exact ar (Zq (Y1 (.b false) (lb (by first|rfl|omega|grind [WT]))))
 refine ak (Yb (ab 0 (Y4 (fun fz gz m F h=>∃(k:Nat),(k<=ds.length)/\(Ta ds (ds.drop k) k=Ta ds ds 0)/\F=sF [0] fz [(3,.i k)]/\h=gz/\m=ds.length-k) _ _ _ ⟨0,ob,ob,rfl,rfl,rfl⟩ (wk [] (Yd fl)) ?_)))
 rintro m F h ⟨k,Yg,Zi,rfl,rfl,rfl⟩
 refine YL 2 (iw (Up ds) (Y0 ((k:Int)<(ds.length:Int)) (fun Zg=>?_) (fun Zg=>?_)))
 ·refine ak (aq (ab 1 (Y5 2 (Zz [] (Zd7 ds k) (YB (!BI ds k) (p:=¬(BI ds k=true)) (Yo Iff.rfl) (fun ZC=>?_) (fun ZC=>?_))))))
  ·refine ZF ?_
   try rw [Xi (xs:=ds) (k:=k) om] at Zi
   obtain ⟨x1,Z3⟩:=Zt ds k om
   rw [Y7 Z3] at Zi
   exact ZD (Y1 (.b false) (lb (by first|rfl|omega|grind [Ta,WT])))
  refine ak (az (Z2 1 (ZK k (Z0 ?_))))
  obtain ⟨x1,Z3⟩:=Zt ds k om
  have hdr:=Y7 Z3
  exact ZL ⟨k+1,ob,(by rw [hdr] at Zi;clear hdr ;grind [Ta]),rfl,rfl,rfl⟩ (wk [] (ZO k fl))
 refine ax 0 (ZF ?_)
 try rw [Xi (xs:=ds) (k:=k) om] at Zi
 exact ZD (Y1 (.b true) (lb (by first|rfl|omega|grind [Ta,WT])))
theorem Zcz (n:Zk) (hz:n.routines.length<=4194304:=by exact ob):Zl 171 [Yn n] [] (Yv (.agg [ZU n.decls,.sl (Uf (n.routines.map Uu)) none])):=by
 refine ZG 35 Tryz.func171 (ar (iA (YT n) fun b1=>iA [nl,nl] fun b2=>ie (Zv 2 [1] (iL (Uf []) 0 5 fun v1=>Z2 1 (iA [nl,nl] fun b3=>?_)))))
 refine ZI 0 b3 [ZU n.decls,.sl (Uf []) (some v1)] (ie (Yb (ab 0 (Y4 (fun fz gz m F h=>∃(k:Nat) (v:Value),(k<=n.routines.length)/\F=sF [1,2,3] fz [(4,.i k)]/\h=[.obj b3 [ZU n.decls,.sl (Uf ((n.routines.take k).map Uu)) (some v)],Zc gz 2,Zc gz 3,.tail v 5]/\m=n.routines.length-k) _ _ _ ⟨0,v1,ob,rfl,rfl,rfl⟩ (wk [0,1,1,0] (Yd fl)) ?_))))
 rintro m F h ⟨k,v,Yg,rfl,rfl,rfl⟩
 refine Yi 3 [2] (iw (Uq n.routines) (Y0 ((k:Int)<(n.routines.length:Int)) (fun Za=>?_) (fun Za=>?_)))
 ·refine ak (aq (ab 1 (aE 19 (ZJ 14 19 [0,1,2,3,4] [0,2] ?_))))
  obtain ⟨x1,Z3⟩:=Zt n.routines k om
  refine dx 5 (Zh none (k:Int) 5 (Wv Z3)) (ZJ 8 13 [6,7,8,9,10] [2] (dx 11 (Zh none (k:Int) 5 (Wv Z3)) (Yr 4 7 [12,13,14] [(30,.agg [Z4 x1.params,.i x1.result,.i 0,.i 0,.sl [] none])] (Z7 15 (dL 15 [0] [b3] (Uf [Sg.mk x1.params x1.result]) 1 5 fun v2=>Yr 3 3 [] [(31,.sl (Uf [Sg.mk x1.params x1.result]) none)] (Z7 16 (dp 16 4 [] [] (Uf ((n.routines.take (k+1)).map Uu)) (Uf ((n.routines.take k).map Uu)) (Uf [Sg.mk x1.params x1.result]) v none 5 (N4 _) (N4 _) (Z3g _) (by simp<;>omega) (by rw [V7 Z3];simp [Uf,Uu]) fun v3=>Zj 1 2 [17] (Z7 18 (YJ 18 2 [] [] b3 [ZU n.decls,.sl (Uf ((n.routines.take (k+1)).map Uu)) (some v3)] (de (az (Z2 1 (ZK k (Z0 ?_))))))))))))))
  have hdr:=Y7 Z3
  exact ZL ⟨k+1,v3,ob,rfl,rfl,rfl⟩ (wk [0,2,2,0] (ZO k fl))
 exact ax 0 (Zv 1 [0] (ZI 1 b2 [ZU n.decls,.sl (Uf ((n.routines.take k).map Uu)) (some v)] (ie (ZD (r3 [] [.agg [ZU n.decls,.sl (Uf ((n.routines.take k).map Uu)) (some v)]] [0] [(b2,b2)] ⟨rfl,rfl⟩ (Zd.agg (.cons (lr _) (.cons (Zd.sl _ (Ym Uf (by rw [show k=n.routines.length by omega,VA]))) .nil))))))))
theorem Zdb (ds:List Zf) (fs:List Sg) (hz:JR ds:=by exact ob) (hf:∀f∈fs,f.params.length<=4194304):Zl 170 [.agg [ZU ds,.sl (Uf fs) none]] [] (Yv (.b (QZ ds fs))):=by
 have hzl:=hz.len
 refine ZG 64 Tryz.func170 (ar (iA [ZU ds,.sl (Uf fs) none] fun b1=>Z0 (Yi 2 [0] (Zz [] (Zdc ds) (Xo [1] [(15,.b ((!WT ds)||(!(decide (1<=(fs.length:Int)/\(fs.length:Int)<=4)))))] (fun gz=>gz) ?_ ?_)))))
 ·refine Z2 2 (ib (b:=(!WT ds)) 9 (fun Zb=>?_) (fun Zb=>?_))
  ·have ZW:¬(WT ds=true):=((Yo Iff.rfl)).1 Zb
   exact Z0 (wk [0] (Zu true Zb fl))
  have Yh:¬(¬(WT ds=true)):=Ya (Yo Iff.rfl) Zb
  exact ZM 2 [0] (iw (N5 fs) (Zz [] (UI (fs.length:Int) 1 4) (Z0 (wk [0] (Zu (!(decide (1<=(fs.length:Int)/\(fs.length:Int)<=4))) Zb fl)))))
 refine ac ((!WT ds)||(!(decide (1<=(fs.length:Int)/\(fs.length:Int)<=4)))) (p:=(¬(WT ds=true))∨(¬(1<=(fs.length:Int)/\(fs.length:Int)<=4))) (Yj (Yo Iff.rfl) (Yo dq)) (fun Za=>?_) (fun Za=>?_)
 ·exact ar (Zq (Y1 (.b false) (lb (by first|rfl|omega|grind [QZ]))))
 refine ak (Yb (ab 0 (Y4 (fun fz gz m F h=>∃(k:Nat),(k<=fs.length)/\(KS ds.length (fs.drop k)=KS ds.length fs)/\F=sF [1] fz [(3,.i k)]/\h=gz/\m=fs.length-k) _ _ _ ⟨0,ob,ob,rfl,rfl,rfl⟩ (wk [0] (Yd fl)) ?_)))
 rintro m F h ⟨k,Yg,Zi,rfl,rfl,rfl⟩
 refine Yi 3 [0] (iw (N5 fs) (Y0 ((k:Int)<(fs.length:Int)) (fun Zg=>?_) (fun Zg=>?_)))
 ·refine ak (aq (ab 1 (Zv 3 [0] ?_)))
  obtain ⟨x1,Z3⟩:=Zt fs k om
  refine Zm (Zh none (k:Int) 5 (HO Z3)) (Z2 1 (iA [nl,.i 0,.i 0,.i 0,nl] fun b2=>ZI 0 b2 [Z4 x1.params,.i x1.result,.i 0,.i 0,.sl [] none] (ie (Zv 2 [0] (iw (Y6 x1.params) (XK 12 [1,3,4] [(39,.b ((decide ((x1.params.length:Int)>3))||(!Wi ds.length x1.params)))] (fun gz=>gz) ?_ (fun hj1=>?_)))))))
  ·refine Xo [1,3] [(48,.b (((decide ((x1.params.length:Int)>3))||(!Wi ds.length x1.params))||(!(decide (0<=x1.result/\x1.result<=(ds.length:Int))))))] (fun gz=>gz) ?_ ?_
   ·refine Z2 1 (ib (b:=((decide ((x1.params.length:Int)>3))||(!Wi ds.length x1.params))) 40 (fun ZA=>?_) (fun ZA=>?_))
    ·have YE:((x1.params.length:Int)>3)∨(¬(Wi ds.length x1.params=true)):=((Yj dq (Yo Iff.rfl))).1 ZA
     exact Z0 (wk [0,0] (Zu true ZA fl))
    have YN:¬(((x1.params.length:Int)>3)∨(¬(Wi ds.length x1.params=true))):=Ya (Yj dq (Yo Iff.rfl)) ZA
    exact ZM 4 [0,1] (iw (Up ds) (Zz [] (UI x1.result 0 (ds.length:Int)) (Z0 (wk [0,0] (Zu (!(decide (0<=x1.result/\x1.result<=(ds.length:Int)))) ZA fl)))))
   refine ac (((decide ((x1.params.length:Int)>3))||(!Wi ds.length x1.params))||(!(decide (0<=x1.result/\x1.result<=(ds.length:Int))))) (p:=(((x1.params.length:Int)>3)∨(¬(Wi ds.length x1.params=true)))∨(¬(0<=x1.result/\x1.result<=(ds.length:Int)))) (Yj (Yj dq (Yo Iff.rfl)) (Yo dq)) (fun ZC=>?_) (fun ZC=>?_)
   ·refine ZF ?_
    rw [Y7 Z3] at Zi
    exact ZD (Y1 (.b false) (lb (by clear Z3;first|rfl|omega|grind [KS,KR,QZ])))
   refine ak (az (Z2 1 (ZK k (Z0 ?_))))
   have hdr:=Y7 Z3
   exact ZL ⟨k+1,ob,(by rw [hdr] at Zi;clear hdr Z3;grind [KS,KR]),rfl,rfl,rfl⟩ (wk [1] (ZO k fl))
  refine Z2 2 (ib (b:=(decide ((x1.params.length:Int)>3))) 32 (fun Yy=>?_) (fun Yy=>?_))
  ·have X8:(x1.params.length:Int)>3:=(dq).1 Yy
   exact Z2 7 (Yu (wk [0,0] (Zu true Yy fl)) hj1)
  have XJ:¬((x1.params.length:Int)>3):=Ya dq Yy
  exact ZM 4 [1,0] (Zz [] (Rm ds x1.params) (Z2 2 (Yu (wk [0,0] (Zu (!Wi ds.length x1.params) Yy fl)) hj1)))
 refine ax 0 (Zv 2 [0] ?_)
 obtain ⟨x2,Zr⟩:=Zt fs 0 om
 have hfo:=Z3x Zr
 refine Zm (Zh none 0 5 (HO Zr)) (Z2 2 (iw (Y6 x2.params) (XK 15 [] [(63,.b (((x2.params.length:Int)==0)&&(x2.result==0)))] (fun gz=>gz) ?_ (fun hj2=>?_))))
 ·refine Z0 ?_
  try rw [Xi (xs:=fs) (k:=k) om] at Zi
  exact ZD (Y1 (.b (((x2.params.length:Int)==0)&&(x2.result==0))) (lb (by clear Zr;first|rfl|omega|grind [KS,KR,QZ])))
 refine Z2 2 (ib (b:=((x2.params.length:Int)==0)) 56 (fun Xe=>?_) (fun Xe=>?_))
 ·have Wn:(x2.params.length:Int)=0:=(Zp).1 Xe
  exact ZM 2 [0] (Zm (Zh none 0 5 (HO Zr)) (Z2 4 (Yu (wk [0] (Zu (x2.result==0) Xe fl)) hj2)))
 have WL:¬((x2.params.length:Int)=0):=Ya Zp Xe
 exact Z2 7 (Yu (wk [0] (Zu false Xe fl)) hj2)
theorem Zd9 (ps:LI) (ls:LI) (hl_ps:ps.length<=4294967296:=by exact ob) (hl_ls:ls.length<=4294967296:=by exact ob):Zl 172 [Z4 ps,Z4 ls] [] (Yv (.b (J1 ps ls))):=by
 refine ZG 47 Tryz.func172 (ZF (Yb (ab 0 (Y4 (fun fz gz m F h=>∃(k:Nat),(k<=ls.length)/\(Ql ps (ls.drop k) (if k=0 then none else ls[k-1]?)=J1 ps ls)/\F=sF [0,1] fz [(5,.i k)]/\h=gz/\m=ls.length-k) _ _ _ ⟨0,ob,ob,rfl,rfl,rfl⟩ (wk [] (Yd fl)) ?_))))
 rintro m F h ⟨k,Yg,Zi,rfl,rfl,rfl⟩
 refine YL 2 (iw (Y6 ls) (Y0 ((k:Int)<(ls.length:Int)) (fun Za=>?_) (fun Za=>?_)))
 ·refine ak (aq (ab 1 (aD 35 (Zj 33 35 [0,1] ?_))))
  obtain ⟨x1,Z3⟩:=Zt ls k om
  refine dx 2 (Zh none (k:Int) 1 (ZY Z3)) (Zj 30 32 [3,4] (dw 5 (Y6 ps) (da 6 (((ps.length:Int)-1)) (((ps.length:Int))-(1)) (Z7 7 (Yp 7 [] [] [] (UI x1 0 ((ps.length:Int)-1)) (Zj 25 27 [8,9] (db (b:=(!(decide (0<=x1/\x1<=((ps.length:Int)-1))))) 21 (fun Zb=>?_) (fun Zb=>?_))))))))
  ·have ZW:¬(0<=x1/\x1<=((ps.length:Int)-1)):=((Yo dq)).1 Zb
   refine Zj 0 25 [10,11,12,13,14,15,16,17,18,19,20,21,22,23,24,25,26,27,28,29,30,31,32,33,34] (de (XV (ZF ?_)))
   rw [Y7 Z3] at Zi
   exact ZD (Y1 (.b false) (lb (by have hq:=FU (ps:=ps) (v:=x1) (r:=ls.drop (k+1)) (prev:=if k=0 then none else ls[k-1]?);rw [<-Zi,hq];rintro ⟨q1,q2,q3⟩;first|omega|(rw [hps] at q2;exact q2 (Ym some om))|(have:=q3 _ (by rw [Z8 om,hls]);omega))))
  have Yh:¬(¬(0<=x1/\x1<=((ps.length:Int)-1))):=Ya (Yo dq) Zb
  refine Zj 22 25 [10,11,12] (dx 13 (Zh none (k:Int) 1 (ZY Z3)) (Zj 20 21 [14] ?_))
  obtain ⟨x2,Zr⟩:=Zt ps x1.toNat om
  have hps:=Zr
  refine dx 15 (Zh none x1 1 (ZY Zr)) (Zj 15 19 [16,17,18,19] (db (b:=(x2==0)) 31 (fun ZA=>?_) (fun ZA=>?_)))
  ·have YE:x2=0:=(Zp).1 ZA
   refine Zj 0 15 [20,21,22,23,24,25,26,27,28,29,30,31,32,33,34] (de (XV (ZF ?_)))
   rw [Y7 Z3] at Zi
   exact ZD (Y1 (.b false) (lb (by have hq:=FU (ps:=ps) (v:=x1) (r:=ls.drop (k+1)) (prev:=if k=0 then none else ls[k-1]?);rw [<-Zi,hq];rintro ⟨q1,q2,q3⟩;first|omega|(rw [hps] at q2;exact q2 (Ym some om))|(have:=q3 _ (by rw [Z8 om,hls]);omega))))
  have YN:¬(x2=0):=Ya Zp ZA
  refine Zj 12 15 [20,21,22] (db (b:=(decide ((k:Int)>0))) 34 (fun Yy=>?_) (fun Yy=>?_))
  ·have X8:(k:Int)>0:=(dq).1 Yy
   refine Zj 10 12 [23,24] (dx 25 (Zh none (k:Int) 1 (ZY Z3)) (Zj 6 9 [26,27,28] (da 29 (((k-1:Nat):Int)) (((k:Int))-(1)) ?_)))
   obtain ⟨x3,YI⟩:=Zt ls (k-1) om
   have hls:=YI
   refine dx 30 (Zh none ((k-1:Nat):Int) 1 (ZY YI)) (Zj 0 4 [31,32,33,34] (de (W4 (x1<=x3) (fun Zg=>?_) (fun Zg=>?_))))
   ·refine ZF ?_
    rw [Y7 Z3] at Zi
    exact ZD (Y1 (.b false) (lb (by have hq:=FU (ps:=ps) (v:=x1) (r:=ls.drop (k+1)) (prev:=if k=0 then none else ls[k-1]?);rw [<-Zi,hq];rintro ⟨q1,q2,q3⟩;first|omega|(rw [hps] at q2;exact q2 (Ym some om))|(have:=q3 _ (by rw [Z8 om,hls]);omega))))
   refine ak (az (Z2 1 (ZK k (Z0 ?_))))
   have hl1:ls[k+1-1]? = some x1:=Z3
   have hlc:(0<=x1/\x1<=(ps.length:Int)-1)/\ps[x1.toNat]?≠some 0/\(∀p,(if k=0 then none else ls[k-1]?)=some p->p<x1):=⟨by omega,by rw [hps];intro q;cases q;omega,fun p hp=>by first|(rw [Z8 om,hls] at hp;cases hp;omega)|(rw [Ze om] at hp;cases hp)⟩
   have hdr:=Y7 Z3
   exact ZL ⟨k+1,ob,(by have hq:=IF (r:=ls.drop (k+1)) hlc;rw [hdr,hq] at Zi;rw [Z8 om,hl1];exact Zi),rfl,rfl,rfl⟩ (wk [] (ZO k fl))
  have XJ:¬((k:Int)>0):=Ya dq Yy
  refine Zj 0 12 [23,24,25,26,27,28,29,30,31,32,33,34] (de (We (ak (az (Z2 1 (ZK k (Z0 ?_)))))))
  have hl1:ls[k+1-1]? = some x1:=Z3
  have hlc:(0<=x1/\x1<=(ps.length:Int)-1)/\ps[x1.toNat]?≠some 0/\(∀p,(if k=0 then none else ls[k-1]?)=some p->p<x1):=⟨by omega,by rw [hps];intro q;cases q;omega,fun p hp=>by first|(rw [Z8 om,hls] at hp;cases hp;omega)|(rw [Ze om] at hp;cases hp)⟩
  have hdr:=Y7 Z3
  exact ZL ⟨k+1,ob,(by have hq:=IF (r:=ls.drop (k+1)) hlc;rw [hdr,hq] at Zi;rw [Z8 om,hl1];exact Zi),rfl,rfl,rfl⟩ (wk [] (ZO k fl))
 refine ax 0 (ZF ?_)
 try rw [Xi (xs:=ls) (k:=k) om] at Zi
 exact ZD (Y1 (.b true) (lb (by first|rfl|omega|grind [Ql])))
theorem Zda (n:Zk) (hz:JR n.decls:=by exact ob) (hr:∀r∈n.routines,r.params.length<=4194304/\r.lent.length<=4194304):Zl 127 [Yn n] [] (Yv (.b (U1 n))):=by
 have hzl:=hz.len
 refine ZG 35 Tryz.func127 (ar (iA (YT n) fun b1=>Z0 (Yi 2 [0] (iw (Uq n.routines) (Xo [1] [(13,.b ((decide ((n.routines.length:Int)>4))||(!QZ n.decls (n.routines.map Uu))))] (fun gz=>gz) ?_ ?_)))))
 ·refine Z2 2 (ib (b:=(decide ((n.routines.length:Int)>4))) 8 (fun Zb=>?_) (fun Zb=>?_))
  ·have ZW:(n.routines.length:Int)>4:=(dq).1 Zb
   exact Z0 (wk [0] (Zu true Zb fl))
  have Yh:¬((n.routines.length:Int)>4):=Ya dq Zb
  exact ZM 1 [0] (Zz [] (Zcz n) (Zz [] (Zdb n.decls (n.routines.map Uu) (hf:=(by intro f hf;obtain ⟨r,h1,rfl⟩:=Wd.1 hf;exact (hr r h1).1))) (Z0 (wk [0] (Zu (!QZ n.decls (n.routines.map Uu)) Zb fl)))))
 refine ac ((decide ((n.routines.length:Int)>4))||(!QZ n.decls (n.routines.map Uu))) (p:=((n.routines.length:Int)>4)∨(¬(QZ n.decls (n.routines.map Uu)=true))) (Yj dq (Yo Iff.rfl)) (fun Za=>?_) (fun Za=>?_)
 ·exact ar (Zq (Y1 (.b false) (lb (by first|rfl|omega|grind [U1]))))
 refine ak (Yb (ab 0 (Y4 (fun fz gz m F h=>∃(k:Nat),(k<=n.routines.length)/\(KN (n.routines.drop k)=KN n.routines)/\F=sF [1] fz [(3,.i k)]/\h=gz/\m=n.routines.length-k) _ _ _ ⟨0,ob,ob,rfl,rfl,rfl⟩ (wk [0] (Yd fl)) ?_)))
 rintro m F h ⟨k,Yg,Zi,rfl,rfl,rfl⟩
 refine Yi 3 [0] (iw (Uq n.routines) (Y0 ((k:Int)<(n.routines.length:Int)) (fun Zg=>?_) (fun Zg=>?_)))
 ·refine ak (aq (ab 1 (aD 14 (ZJ 11 14 [0,1,2] [0] ?_))))
  obtain ⟨x1,Z3⟩:=Zt n.routines k om
  refine dx 3 (Zh none (k:Int) 5 (Wv Z3)) (ZJ 5 10 [4,5,6,7,8] [0] (dx 9 (Zh none (k:Int) 5 (Wv Z3)) (Zj 2 4 [10,11] (Z7 12 (Yp 12 [] [] [] (Zd9 x1.params x1.lent (hl_ps:=(by have:=hr _ (Y2 Z3);omega)) (hl_ls:=(by have:=hr _ (Y2 Z3);omega))) (Zj 0 1 [13] (de (ac (!J1 x1.params x1.lent) (p:=¬(J1 x1.params x1.lent=true)) (Yo Iff.rfl) (fun ZC=>?_) (fun ZC=>?_)))))))))
  ·refine ZF ?_
   rw [Y7 Z3] at Zi
   exact ZD (Y1 (.b false) (lb (by clear Z3;first|rfl|omega|grind [KN,U1])))
  refine ak (az (Z2 1 (ZK k (Z0 ?_))))
  have hdr:=Y7 Z3
  exact ZL ⟨k+1,ob,(by rw [hdr] at Zi;clear hdr Z3;grind [KN]),rfl,rfl,rfl⟩ (wk [0] (ZO k fl))
 refine ax 0 (ZF ?_)
 try rw [Xi (xs:=n.routines) (k:=k) om] at Zi
 exact ZD (Y1 (.b true) (lb (by first|rfl|omega|grind [KN,U1])))
theorem KU (op:Int) :Zl 169 [.i op] [] (Yv (.b (XM op))):=by
 exact ZG 5 Tryz.func169 (ZF (Y5 1 (Zz [] (UI op 0 11) (Zq (Y1 (.b (decide (0<=op/\op<=11))) (lb (by first|rfl|omega|grind [XM])))))))
theorem Zcp (op:Int) :Zl 210 [.i op] [] (Yv (.b (VH op))):=by
 refine ZG 21 Tryz.func210 (ZF (ar (XK 6 [0] [(8,.b ((op==0)||(op==6)))] (fun gz=>gz) ?_ (fun hj1=>?_))))
 ·refine XK 10 [0] [(12,.b (((op==0)||(op==6))||(op==8)))] (fun gz=>gz) ?_ (fun hj2=>?_)
  ·refine XK 14 [0] [(16,.b ((((op==0)||(op==6))||(op==8))||(op==9)))] (fun gz=>gz) ?_ (fun hj3=>?_)
   ·refine XK 18 [] [(20,.b (((((op==0)||(op==6))||(op==8))||(op==9))||(op==10)))] (fun gz=>gz) ?_ (fun hj4=>?_)
    ·exact Zq (Y1 (.b (((((op==0)||(op==6))||(op==8))||(op==9))||(op==10))) (lb (by rw [VH];simp only [Bool.or_assoc])))
    refine Z2 1 (ib (b:=((((op==0)||(op==6))||(op==8))||(op==9))) 17 (fun Zb=>?_) (fun Zb=>?_))
    ·exact Z2 3 (Yu (wk [] (Zu true Zb fl)) hj4)
    exact Z2 3 (Yu (wk [] (Zu (op==10) Zb fl)) hj4)
   refine Z2 1 (ib (b:=(((op==0)||(op==6))||(op==8))) 13 (fun ZA=>?_) (fun ZA=>?_))
   ·exact Z2 3 (Yu (wk [] (Zu true ZA fl)) hj3)
   exact Z2 3 (Yu (wk [] (Zu (op==9) ZA fl)) hj3)
  refine Z2 1 (ib (b:=((op==0)||(op==6))) 9 (fun Yy=>?_) (fun Yy=>?_))
  ·exact Z2 3 (Yu (wk [] (Zu true Yy fl)) hj2)
  exact Z2 3 (Yu (wk [] (Zu (op==8) Yy fl)) hj2)
 refine Z2 3 (ib (b:=(op==0)) 5 (fun Xe=>?_) (fun Xe=>?_))
 ·exact Z2 3 (Yu (wk [] (Zu true Xe fl)) hj1)
 exact Z2 3 (Yu (wk [] (Zu (op==6) Xe fl)) hj1)
theorem Bg (us:LI) (args:LI) (tys:LI) (hl_us:us.length<=4294967296:=by exact ob) (hl_args:args.length<=4294967296:=by exact ob) (hl_tys:tys.length<=4294967296:=by exact ob):Zl 212 [Z4 us,Z4 args,Z4 tys] [] (Yv (.b (Wc us args tys))):=by
 refine ZG 42 Tryz.func212 (ZF (YL 1 (iw (Y6 args) (Z2 1 (iw (Y6 tys) (YB ((args.length:Int) != (tys.length:Int)) Yl (fun Za=>?_) (fun Za=>?_)))))))
 ·exact ar (Zq (Y1 (.b false) (lb (S6 om).symm)))
 refine ak (Yb (ab 0 (Y4 (fun fz gz m F h=>∃(k:Nat),(k<=args.length)/\(T2 us (args.drop k) (tys.drop k)=Wc us args tys)/\F=sF [0,1,2] fz [(7,.i k)]/\h=gz/\m=args.length-k) _ _ _ ⟨0,ob,ob,rfl,rfl,rfl⟩ (wk [] (Yd fl)) ?_)))
 rintro m F h ⟨k,Yg,Zi,rfl,rfl,rfl⟩
 refine YL 2 (iw (Y6 args) (Y0 ((k:Int)<(args.length:Int)) (fun Zg=>?_) (fun Zg=>?_)))
 ·refine ak (aq (ab 1 (aD 23 (Zj 21 23 [0,1] ?_))))
  obtain ⟨x1,Z3⟩:=Zt args k om
  refine dx 2 (Zh none (k:Int) 1 (ZY Z3)) (Zj 18 20 [3,4] (dw 5 (Y6 us) (da 6 (((us.length:Int)-1)) (((us.length:Int))-(1)) (Z7 7 (Yp 7 [] [] [] (UI x1 0 ((us.length:Int)-1)) (Zj 13 15 [8,9] (db (b:=(!(decide (0<=x1/\x1<=((us.length:Int)-1))))) 28 (fun Zb=>?_) (fun Zb=>?_))))))))
  ·have ZW:¬(0<=x1/\x1<=((us.length:Int)-1)):=((Yo dq)).1 Zb
   refine Zj 0 13 [10,11,12,13,14,15,16,17,18,19,20,21,22] (de (XV (ZF ?_)))
   obtain ⟨y,hy⟩:=Zt tys k om
   exact ZD (Y1 (.b false) (lb (by rw [<-Zi];exact (S5 Z3 hy (by rw [K8 ZW];simp)).symm)))
  have Yh:¬(¬(0<=x1/\x1<=((us.length:Int)-1))):=Ya (Yo dq) Zb
  refine Zj 10 13 [10,11,12] (dx 13 (Zh none (k:Int) 1 (ZY Z3)) (Zj 8 9 [14] ?_))
  obtain ⟨x2,Zr⟩:=Zt us x1.toNat om
  refine dx 15 (Zh none x1 1 (ZY Zr)) (Zj 4 7 [16,17,18] ?_)
  obtain ⟨x3,YI⟩:=Zt tys k om
  refine dx 19 (Zh none (k:Int) 1 (ZY YI)) (Zj 0 3 [20,21,22] (de (ac (x2 != x3) Yl (fun ZC=>?_) (fun ZC=>?_))))
  ·exact ar (Zq (Y1 (.b false) (lb (by rw [<-Zi];exact (S5 Z3 YI (by rw [Q0 om Zr];simpa using ZC)).symm))))
  refine ak (az (Z2 1 (ZK k (Z0 ?_))))
  have hdr:=Y7 Z3
  exact ZL ⟨k+1,ob,(by rw [<-Zi];exact (Zem Z3 YI (by rw [Q0 om Zr];congr 1;omega)).symm),rfl,rfl,rfl⟩ (wk [] (ZO k fl))
 exact ax 0 (ar (Zq (Y1 (.b true) (lb (by rw [<-Zi];exact (Zel om om).symm)))))
theorem Zd8 (us:LI) (s:Z5) (hl_us:us.length<=4294967296:=by exact ob):Zl 211 [Z4 us,YG s] [] (Yv (.b (Ul us s.op s.into))):=by
 refine ZG 27 Tryz.func211 (ar (iA (Xv s) fun b1=>Z0 (X0 (Vo [0] (ac (s.into==0) Zp (fun Za=>?_) (fun Za=>?_))))))
 ·exact ar (Zq (Y1 (.b true) (lb (by rw [Ul,Ze Za]))))
 refine ak (ar (XK 10 [0,3] [(17,.b ((s.op==6)&&(decide (1<=s.into/\s.into<=(us.length:Int)))))] (fun gz=>gz) ?_ (fun hj1=>?_)))
 ·refine Z2 1 (ib (b:=((s.op==6)&&(decide (1<=s.into/\s.into<=(us.length:Int))))) 18 (fun Zb=>?_) (fun Zb=>?_))
  ·have ZW:(s.op=6)/\(1<=s.into/\s.into<=(us.length:Int)):=((YH Zp dq)).1 Zb
   refine ZM 3 [0] (ia ((s.into-1)) ((s.into)-(1)) ?_)
   obtain ⟨x1,Z3⟩:=Zt us ((s.into-1).toNat) om
   exact Zm (Zh none (s.into-1) 1 (ZY Z3)) (Zq (Y1 (.b (decide (x1>0))) (lb (by rw [Ul,Z8 Za];first|(rw [Ze om,Q0 om Z3];rfl)|(rw [Ze om,K8 om];rfl)|(rw [Z8 om])|(by_cases q:s.op=6;rw [Ze q,K8 om];rfl;rw [Z8 q])))))
  have Yh:¬((s.op=6)/\(1<=s.into/\s.into<=(us.length:Int))):=Ya (YH Zp dq) Zb
  exact Zq (Y1 (.b false) (lb (by rw [Ul,Z8 Za];first|(rw [Ze om,Q0 om Z3];rfl)|(rw [Ze om,K8 om];rfl)|(rw [Z8 om])|(by_cases q:s.op=6;rw [Ze q,K8 om];rfl;rw [Z8 q]))))
 refine ZM 4 [0] (ib (b:=(s.op==6)) 11 (fun ZA=>?_) (fun ZA=>?_))
 ·have YE:s.op=6:=(Zp).1 ZA
  exact ZM 3 [0] (iw (Y6 us) (Zz [] (UI s.into 1 (us.length:Int)) (Z2 1 (Yu (wk [0] (Zu (decide (1<=s.into/\s.into<=(us.length:Int))) ZA fl)) hj1))))
 have YN:¬(s.op=6):=Ya Zp ZA
 exact Z2 6 (Yu (wk [0] (Zu false ZA fl)) hj1)
theorem Zcx (n:Zk) (us:LI) (s:Z5) (hn:X4 n:=by exact ob) (hl_us:us.length<=4294967296:=by exact ob) (ha:s.args.length<=1000000000:=by exact ob):Zl 215 [Yn n,Z4 us,YG s] [] (Yv (.i (Tx n us s.op s.num s.args))):=by
 have hrl:=hn.len
 have hdl:=hn.decls.len
 refine ZG 69 Tryz.func215 (ar (iA (YT n) fun b1=>iA (Xv s) fun b2=>Z0 (Yi 4 [0,1] (iw (Uq n.routines) (ia (((n.routines.length:Int)-1)) (((n.routines.length:Int))-(1)) (Zz [] (UI s.num 0 ((n.routines.length:Int)-1)) (YB (!(decide (0<=s.num/\s.num<=((n.routines.length:Int)-1)))) (p:=¬(0<=s.num/\s.num<=((n.routines.length:Int)-1))) (Yo dq) (fun Za=>?_) (fun Za=>?_))))))))
 ·exact ar (Zq (Y1 (.i (-1)) (li (Zb1 om).symm)))
 refine ak (Zv 4 [1,0] ?_)
 obtain ⟨x1,Z3⟩:=Zt n.routines s.num.toNat om
 have hrp:=hn.params_at Z3
 have hrt:=hn.lent_at Z3
 have hre:Tx n us s.op s.num s.args=Kh n.decls us s.op s.args x1:=Zb0 om Z3
 refine Zm (Zh none s.num 5 (Wv Z3)) (Z2 1 (iA [nl,nl,.i 0,nl,.i 0] fun b3=>ZI 0 b3 (KM x1) (ie (Zv 2 [0] (iw (Y6 x1.params) (Z0 (X0 (Vo [1] (ac (s.op==9) Zp (fun Zg=>?_) (fun Zg=>?_))))))))))
 ·refine Yi 5 [1,0] (Zz [] (Bg us s.args x1.params) (YB (!Wc us s.args x1.params) (p:=¬(Wc us s.args x1.params=true)) (Yo Iff.rfl) (fun ZC=>?_) (fun ZC=>?_)))
  ·exact ar (Zq (Y1 (.i (-1)) (li (by clear Z3;first|rfl|omega|grind [Kh,Kw]))))
  exact ak (A7 [0] (ZD (Y1 (.i x1.result) (li (by clear Z3;first|rfl|omega|grind [Kh,Kw])))))
 refine ak (aq (aD 20 (JY [3,7,8] [(57,.b (((x1.params.length:Int)==0)||((decide ((x1.lent.length:Int)>0))||(!Wc us s.args (x1.params.take (x1.params.length-1))))))] (fun gz=>gz) ?_ ?_)))
 ·refine Zj 17 20 [0,1,2] (db (b:=((x1.params.length:Int)==0)) 40 (fun Zb=>?_) (fun Zb=>?_))
  ·have ZW:(x1.params.length:Int)=0:=(Zp).1 Zb
   exact Zj 0 17 [3,4,5,6,7,8,9,10,11,12,13,14,15,16,17,18,19] (de (ZE 3 (Zu true Zb fl)))
  have Yh:¬((x1.params.length:Int)=0):=Ya Zp Zb
  refine ZJ 15 17 [3,4] [0] (dw 5 (Y6 x1.lent) (Zj 11 14 [6,7,8] (db (b:=(decide ((x1.lent.length:Int)>0))) 46 (fun ZA=>?_) (fun ZA=>?_))))
  ·have YE:(x1.lent.length:Int)>0:=(dq).1 ZA
   exact Zj 0 11 [9,10,11,12,13,14,15,16,17,18,19] (de (ZE 3 (Zu true (And.intro Zb ZA) fl)))
  have YN:¬((x1.lent.length:Int)>0):=Ya dq ZA
  exact ZJ 5 11 [9,10,11,12,13,14] [1,0] (da 15 (((x1.params.length-1:Nat):Int)) (((x1.params.length:Int))-(1)) (dx 16 (KW (es:=Z6 x1.params) (hv:=none) (l:=0) (m:=((x1.params.length-1:Nat):Int)) (sz:=1) (es':=Z6 (x1.params.take (x1.params.length-1))) kr om (by simp<;>omega) (by simp<;>omega) (YA _) (by first|(simp only [VT,VA,Jd,A3];done)|(simp only [VT,VA,Jd,A3];rfl)|(simp [Jd,A3];done))) (Z7 17 (Yp 17 [] [] [] (Bg us s.args (x1.params.take (x1.params.length-1))) (Zj 0 2 [18,19] (de (ZE 3 (Zu (!Wc us s.args (x1.params.take (x1.params.length-1))) (And.intro Zb ZA) fl))))))))
 refine ac (((x1.params.length:Int)==0)||((decide ((x1.lent.length:Int)>0))||(!Wc us s.args (x1.params.take (x1.params.length-1))))) (p:=((x1.params.length:Int)=0)∨(((x1.lent.length:Int)>0)∨(¬(Wc us s.args (x1.params.take (x1.params.length-1))=true)))) (Yj Zp (Yj dq (Yo Iff.rfl))) (fun Ye=>?_) (fun Ye=>?_)
 ·exact ar (Zq (Y1 (.i (-1)) (li (by clear Z3;first|rfl|omega|grind [Kh,Kw]))))
 refine ak (aD 12 (ZJ 7 12 [0,1,2,3,4] [2,0] (da 5 (((x1.params.length-1:Nat):Int)) (((x1.params.length:Int))-(1)) ?_)))
 obtain ⟨x2,Zr⟩:=Zt x1.params (x1.params.length-1) om
 have hgl:=NQ Zr
 exact dx 6 (Zh none ((x1.params.length-1:Nat):Int) 1 (ZY Zr)) (ZJ 2 5 [7,8,9] [0] (Z7 10 (Yp 10 [] [] [] (Ro n.decls x2 x1.result) (Zj 0 1 [11] (de (ZD (Y1 (.i (Ud n.decls x2 x1.result)) (li (by clear Z3 Zr;first|rfl|omega|grind [Kh,Kw])))))))))
theorem Zco (n:Zk) (us:LI) (s:Z5) (hn:X4 n:=by exact ob) (hl_us:us.length<=4294967296:=by exact ob) (ha:s.args.length<=1000000000:=by exact ob):Zl 217 [Yn n,Z4 us,YG s] [] (Yv (.i (Qg n.decls us s.op s.args))):=by
 have Xt:=hn.decls
 refine ZG 52 Tryz.func217 (ar (iA (YT n) fun b1=>iA (Xv s) fun b2=>Z0 (Yi 2 [0] (iw (Y6 s.args) (Z2 2 (ib (b:=((s.args.length:Int) != 1)) 11 (fun Zb=>?_) (fun Zb=>?_)))))))
 ·have ZW:(s.args.length:Int)≠1:=(Yl).1 Zb
  exact Z0 (XV (ar (Zq (Y1 (.i (-1)) (li (by first|assumption|omega|rfl|(rw [Cl om])|(rw [Cm (Kv om Z3) om])|(rw [Ck (Kv om Z3) om Zr];clear Z3 Zr;grind)))))))
 have Yh:¬((s.args.length:Int)≠1):=Ya Yl Zb
 refine ZM 2 [0] ?_
 obtain ⟨x1,Z3⟩:=Zt s.args 0 om
 refine Zm (Zh none 0 1 (ZY Z3)) (Z2 2 (iw (Y6 us) (ia (((us.length:Int)-1)) (((us.length:Int))-(1)) (Zz [] (UI x1 0 ((us.length:Int)-1)) (Z2 3 (ib (b:=(!(decide (0<=x1/\x1<=((us.length:Int)-1))))) 22 (fun ZA=>?_) (fun ZA=>?_)))))))
 ·have YE:¬(0<=x1/\x1<=((us.length:Int)-1)):=((Yo dq)).1 ZA
  exact Z0 (XV (ar (Zq (Y1 (.i (-1)) (li (by first|assumption|omega|rfl|(rw [Cl om])|(rw [Cm (Kv om Z3) om])|(rw [Ck (Kv om Z3) om Zr];clear Z3 Zr;grind)))))))
 have YN:¬(¬(0<=x1/\x1<=((us.length:Int)-1))):=Ya (Yo dq) ZA
 refine ZM 3 [0] (Zm (Zh none 0 1 (ZY Z3)) (Z2 1 ?_))
 obtain ⟨x2,Zr⟩:=Zt us x1.toNat om
 refine Zm (Zh none x1 1 (ZY Zr)) (YB (x2==0) Zp (fun Za=>?_) (fun Za=>?_))
 ·exact ar (Zq (Y1 (.i (-1)) (li (by first|assumption|omega|rfl|(rw [Cl om])|(rw [Cm (Kv om Z3) om])|(rw [Ck (Kv om Z3) om Zr];clear Z3 Zr;grind)))))
 refine ak (aq (aD 20 (JY [] [(51,.b ((s.op != 14)&&((s.op != 15)&&XX n.decls x2)))] (fun gz=>gz) ?_ ?_)))
 ·refine ZJ 16 20 [0,1,2,3] [0] (db (b:=(s.op != 14)) 35 (fun Yy=>?_) (fun Yy=>?_))
  ·have X8:s.op≠14:=(Yl).1 Yy
   refine ZJ 11 16 [4,5,6,7,8] [0] (db (b:=(s.op != 15)) 40 (fun Xe=>?_) (fun Xe=>?_))
   ·have XJ:s.op≠15:=(Yl).1 Xe
    exact ZJ 6 11 [9,10,11,12,13] [1,0] (dx 14 (Zh none 0 1 (ZY Z3)) (Zj 4 5 [15] (dx 16 (Zh none x1 1 (ZY Zr)) (Zj 2 3 [17] (Z7 18 (Yp 18 [] [] [] (Eg n.decls x2 (hd:=(by first|assumption|omega|rfl|(rw [Cl om])|(rw [Cm (Kv om Z3) om])|(rw [Ck (Kv om Z3) om Zr];clear Z3 Zr;grind)))) (Zj 0 1 [19] (de (wk [0,0] (Zu (XX n.decls x2) (And.intro Yy Xe) fl))))))))))
   have Wn:¬(s.op≠15):=Ya Yl Xe
   exact Zj 0 11 [9,10,11,12,13,14,15,16,17,18,19] (de (wk [0,0] (Zu false (And.intro Yy Xe) fl)))
  have WL:¬(s.op≠14):=Ya Yl Yy
  exact Zj 0 16 [4,5,6,7,8,9,10,11,12,13,14,15,16,17,18,19] (de (wk [0,0] (Zu false Yy fl)))
 refine ac ((s.op != 14)&&((s.op != 15)&&XX n.decls x2)) (p:=(s.op≠14)/\((s.op≠15)/\(XX n.decls x2=true))) (YH Yl (YH Yl Iff.rfl)) (fun Zg=>?_) (fun Zg=>?_)
 ·exact ar (Zq (Y1 (.i (-1)) (li (by first|assumption|omega|rfl|(rw [Cl om])|(rw [Cm (Kv om Z3) om])|(rw [Ck (Kv om Z3) om Zr];clear Z3 Zr;grind)))))
 exact ak (ar (Zq (Y1 (.i 0) (li (by first|assumption|omega|rfl|(rw [Cl om])|(rw [Cm (Kv om Z3) om])|(rw [Ck (Kv om Z3) om Zr];clear Z3 Zr;grind))))))
theorem Rv (n:Zk) (us:LI) (s:Z5) (hn:X4 n:=by exact ob) (hop:s.op=7∨s.op=8:=by exact ob) (hb:us.length+4*s.sz<=1000000000:=by exact ob) (ih:∀(b:Z9) (us:LI),(b.sz<s.sz)->(us.length+4*b.sz<=1000000000)->Zl 128 [Yn n,Z4 us,ZZ b] [] (Yv (.i (Xq n us b)))):Zl 214 [Yn n,Z4 us,YG s] [] (Yv (.i (Tu n us s.op s.num s.kids))):=by
 have Xt:=hn.decls
 have hkz:=Tv s
 refine ZG 71 Tryz.func214 (ar (iA (YT n) fun b1=>iA (Xv s) fun b2=>Z0 (Zv 4 [1,0] (ic [] (JI n.decls s.num) ?_))))
 rintro _ _ ⟨v1,rfl,rfl⟩
 refine Z0 (Y5 1 (io (.i (((ZX n.decls s.num).length:Nat):Int)) (.i (((Z6 (ZX n.decls s.num)).length:Nat):Int)) (li (by rw [Y6])) (Z0 (X0 (Vo [1] (XP (fun fz gz F h=>F=sF [1,3,5] fz [(7,Z4 (ZX n.decls s.num)),(8,.i (((Xn n.decls s.op s.num).length:Nat):Int))]/\h=[Zc gz 1,Zc gz 2]) ?_ ?_))))))
 ·refine ac (s.op==7) Zp (fun Za=>?_) (fun Za=>?_)
  ·exact UW (ZQ ⟨rfl,rfl⟩ (wk [1,1] (fc (x:=ZT (ZX n.decls s.num) v1) (Zd.forget _ _) (fc (x:=.i 2) (li (by rw [Xn,Ze Za];rfl)) fl))))
  exact ak (ZQ ⟨rfl,rfl⟩ (wk [1,1] (fc (x:=ZT (ZX n.decls s.num) v1) (Zd.forget _ _) (fc (x:=.i (((ZX n.decls s.num).length:Nat):Int)) (li (by rw [Xn,Z8 Za,At])) fl))))
 rintro F h ⟨rfl,rfl⟩
 refine X0 (Xo [1,3,5,7,8] [(31,.b (((((Xn n.decls s.op s.num).length:Nat):Int)==0)||((s.kids.length:Int) != (((Xn n.decls s.op s.num).length:Nat):Int))))] (fun gz=>gz) ?_ ?_)
 ·refine Z2 3 (ib (b:=((((Xn n.decls s.op s.num).length:Nat):Int)==0)) 25 (fun Zb=>?_) (fun Zb=>?_))
  ·exact Z0 (wk [0,0] (Zu true Zb fl))
  exact ZM 2 [0] (iw (Ue s.kids) (Z0 (wk [0,0] (Zu ((s.kids.length:Int) != (((Xn n.decls s.op s.num).length:Nat):Int)) Zb fl))))
 refine ac (((((Xn n.decls s.op s.num).length:Nat):Int)==0)||((s.kids.length:Int) != (((Xn n.decls s.op s.num).length:Nat):Int))) (p:=((((Xn n.decls s.op s.num).length:Nat):Int)=0)∨((s.kids.length:Int)≠(((Xn n.decls s.op s.num).length:Nat):Int))) (Yj Zp Yl) (fun Zg=>?_) (fun Zg=>?_)
 ·exact ar (Zq (Y1 (.i (-1)) (li (by rw [Tu,Ze om]))))
 refine ak (ZF (Yb (ab 0 (Y4 (fun fz gz m F h=>∃(k:Nat) (t:Int),(k<=s.kids.length)/\(WY n us (s.kids.drop k) ((Xn n.decls s.op s.num).drop k) (decide (k=0)) t=WY n us s.kids (Xn n.decls s.op s.num) true 0)/\F=sF [1,3,5,7,8] fz [(9,.i t),(10,.i k)]/\h=gz/\m=s.kids.length-k) _ _ _ ⟨0,0,ob,(by rfl),rfl,rfl,rfl⟩ (wk [0,0] (fr (Yd fl))) ?_))))
 rintro m F h ⟨k,t,Yg,Zi,rfl,rfl,rfl⟩
 refine X0 (Y0 ((k:Int)<(((Xn n.decls s.op s.num).length:Nat):Int)) (fun ZC=>?_) (fun ZC=>?_))
 ·refine ak (aq (ab 1 (ZF (X0 (Vo [0] (XP (fun fz gz F h=>∃(m:LI),((Xn n.decls s.op s.num)[k]? = some m)/\F=sF [1,3,5,7,8,9,10] fz [(11,Z4 (us++m))]/\h=gz) ?_ ?_))))))
  ·refine ac (s.op==8) Zp (fun Ye=>?_) (fun Ye=>?_)
   ·refine aE 10 (ZJ 5 10 [0,1,2,3,4] [1] ?_)
    obtain ⟨x1,Z3⟩:=Zt (ZX n.decls s.num) k (by rw [Xn,Z8 om,At] at ZC;omega)
    refine dx 5 (Zh none (k:Int) 1 (ZY Z3)) (Zj 3 4 [6] (Z7 7 (Yp 7 [] [] [] (Kj n.decls x1) (Z7 8 (dc 8 [] [] [] (QV us (ZV n.decls x1) (hl:=(by have:=U6 Xt x1;omega))) ?_)))))
    rintro _ _ ⟨v2,rfl,rfl⟩
    exact Zj 0 1 [9] (de (ZQ ⟨(ZV n.decls x1),(by rw [show s.op=8 from Ye];exact Z0e Z3),rfl,rfl⟩ (wk [1,1] fl)))
   exact ak (ZQ ⟨[],(by rw [Xn,Ze om];have:k=0∨k=1:=(by rw [Xn,Ze om] at ZC;simp at ZC;omega);rcases this with rfl|rfl<;>rfl),rfl,rfl⟩ (wk [0,0] (fc (x:=Z4 us) (Zd.sl _ (Ym Z6 (by simp))) fl)))
  rintro F h ⟨m,QK,rfl,rfl⟩
  refine aD 9 (ZJ 4 9 [0,1,2,3,4] [1,0] ?_)
  obtain ⟨x2,Zr⟩:=Zt s.kids k om
  have hks:=Tt Zr
  have hm3:=EF Xt QK
  refine dx 5 (Zh none (k:Int) 2 (UR Zr)) (Zj 2 3 [6] (Z7 7 (Yp 7 [] [] [] (ih x2 (us++m) ob (by simp only [Yw];omega)) (Zj 0 1 [8] (de (X0 (Xo [1,3,5,7,8,10,12] [(68,.b ((decide ((Xq n (us++m) x2)<0))||((decide ((k:Int)>0))&&((Xq n (us++m) x2) != t))))] (fun gz=>gz) ?_ ?_)))))))
  ·refine Z2 3 (ib (b:=(decide ((Xq n (us++m) x2)<0))) 60 (fun ZA=>?_) (fun ZA=>?_))
   ·exact Z0 (wk [0,0] (Zu true ZA fl))
   refine Z2 3 (ib (b:=(decide ((k:Int)>0))) 63 (fun Yy=>?_) (fun Yy=>?_))
   ·exact Z0 (wk [0,0] (Zu ((Xq n (us++m) x2) != t) (And.intro ZA Yy) fl))
   exact Z0 (wk [0,0] (Zu false (And.intro ZA Yy) fl))
  refine ac ((decide ((Xq n (us++m) x2)<0))||((decide ((k:Int)>0))&&((Xq n (us++m) x2) != t))) (p:=((Xq n (us++m) x2)<0)∨(((k:Int)>0)/\((Xq n (us++m) x2)≠t))) (Yj dq (YH dq Yl)) (fun Xf=>?_) (fun Xf=>?_)
  ·exact ar (Zq (Y1 (.i (-1)) (li (by rw [Tu,Z8 om,<-Zi];exact (OC Zr QK Xf).symm))))
  exact ak (UW (az (Z2 1 (ZK k (Z0 (ZL ⟨k+1,Xq n (us++m) x2,ob,(by rw [<-Zi];exact (OE Zr QK Xf).symm),rfl,rfl,rfl⟩ (wk [0,0] (fr (ZO k fl)))))))))
 exact ax 0 (ar (Zq (Y1 (.i t) (li (by rw [Tu,Z8 om,<-Zi];exact (OD om).symm)))))
theorem Rz (n:Zk) (us:LI) (s:Z5) (hn:X4 n:=by exact ob) (hb:us.length+4*s.sz<=1000000000:=by exact ob) (ih:∀(b:Z9) (us:LI),(b.sz<s.sz)->(us.length+4*b.sz<=1000000000)->Zl 128 [Yn n,Z4 us,ZZ b] [] (Yv (.i (Xq n us b)))):Zl 164 [Yn n,Z4 us,YG s] [] (Yv (.i (Yc n us s))):=by
 have Xt:=hn.decls
 have hkz:=Tv s
 have haz:=Qf s
 have hdl:=Xt.len
 have hst:=An n us s
 refine ZG 183 Tryz.func164 (ar (iA (YT n) fun b1=>iA (Xv s) fun b2=>Z0 (X0 (XK 9 [1,3,5] [(16,.b ((s.num != 0)&&(!VH s.op)))] (fun gz=>gz) ?_ (fun hj1=>?_)))))
 ·refine XK 15 [1,3,5] [(22,.b (((s.num != 0)&&(!VH s.op))||(!Ul us s.op s.into)))] (fun gz=>gz) ?_ (fun hj2=>?_)
  ·refine Xo [1,3,5] [(38,.b ((((s.num != 0)&&(!VH s.op))||(!Ul us s.op s.into))||((decide ((s.kids.length:Int)>0))&&((s.op != 7)&&(s.op != 8)))))] (fun gz=>gz) ?_ ?_
   ·refine Z2 1 (ib (b:=(((s.num != 0)&&(!VH s.op))||(!Ul us s.op s.into))) 23 (fun Zb=>?_) (fun Zb=>?_))
    ·have ZW:((s.num≠0)/\(¬(VH s.op=true)))∨(¬(Ul us s.op s.into=true)):=((Yj (YH Yl (Yo Iff.rfl)) (Yo Iff.rfl))).1 Zb
     exact Z0 (wk [0,0] (Zu true Zb fl))
    have Yh:¬(((s.num≠0)/\(¬(VH s.op=true)))∨(¬(Ul us s.op s.into=true))):=Ya (Yj (YH Yl (Yo Iff.rfl)) (Yo Iff.rfl)) Zb
    refine ZM 2 [0] (iw (Ue s.kids) (Z2 2 (ib (b:=(decide ((s.kids.length:Int)>0))) 28 (fun ZA=>?_) (fun ZA=>?_))))
    ·have YE:(s.kids.length:Int)>0:=(dq).1 ZA
     refine ZM 5 [0] (ib (b:=(s.op != 7)) 33 (fun Yy=>?_) (fun Yy=>?_))
     ·have YN:s.op≠7:=(Yl).1 Yy
      exact Vo [0] (wk [0,0] (Zu (s.op != 8) (And.intro Zb (And.intro ZA Yy)) fl))
     have X8:¬(s.op≠7):=Ya Yl Yy
     exact Z0 (wk [0,0] (Zu false (And.intro Zb (And.intro ZA Yy)) fl))
    have XJ:¬((s.kids.length:Int)>0):=Ya dq ZA
    exact Z0 (wk [0,0] (Zu false (And.intro Zb ZA) fl))
   refine ac ((((s.num != 0)&&(!VH s.op))||(!Ul us s.op s.into))||((decide ((s.kids.length:Int)>0))&&((s.op != 7)&&(s.op != 8)))) (p:=(((s.num≠0)/\(¬(VH s.op=true)))∨(¬(Ul us s.op s.into=true)))∨(((s.kids.length:Int)>0)/\((s.op≠7)/\(s.op≠8)))) (Yj (Yj (YH Yl (Yo Iff.rfl)) (Yo Iff.rfl)) (YH dq (YH Yl Yl))) (fun Za=>?_) (fun Za=>?_)
   ·exact ar (Zq (Y1 (.i (-1)) (li (by first|rfl|( grind)|(have q:=UN (ds:=n.decls) (us:=us) (args:=s.args) om; grind)|(have q:=UO (ds:=n.decls) (us:=us) (args:=s.args) om ‹s.args[0]? = some _› om; grind)|(have q:=UB (ds:=n.decls) (us:=us) (args:=s.args) om ‹s.args[0]? = some _› om ‹us[_]? = some _›; grind)))))
   refine ak (X0 (Vo [0] (ab 0 (ar (YB (s.op==0) Zp (fun Zg=>?_) (fun Zg=>?_))))))
   ·refine Zv 2 [0] (iw (Y6 s.args) (Xo [] [(51,.b (((s.args.length:Int)==0)&&(decide ((-999)<=s.num/\s.num<=999))))] (fun gz=>gz) ?_ ?_))
    ·refine Z2 2 (ib (b:=((s.args.length:Int)==0)) 47 (fun Xe=>?_) (fun Xe=>?_))
     ·have Wn:(s.args.length:Int)=0:=(Zp).1 Xe
      exact ZM 2 [0] (Zz [] (UI s.num (-999) 999) (Z0 (wk [0,0] (Zu (decide ((-999)<=s.num/\s.num<=999)) Xe fl))))
     have WL:¬((s.args.length:Int)=0):=Ya Zp Xe
     exact Z0 (wk [0,0] (Zu false Xe fl))
    refine ac (((s.args.length:Int)==0)&&(decide ((-999)<=s.num/\s.num<=999))) (p:=((s.args.length:Int)=0)/\((-999)<=s.num/\s.num<=999)) (YH Zp dq) (fun ZC=>?_) (fun ZC=>?_)
    ·exact ar (Zq (Y1 (.i 0) (li (by first|rfl|( grind)|(have q:=UN (ds:=n.decls) (us:=us) (args:=s.args) om; grind)|(have q:=UO (ds:=n.decls) (us:=us) (args:=s.args) om ‹s.args[0]? = some _› om; grind)|(have q:=UB (ds:=n.decls) (us:=us) (args:=s.args) om ‹s.args[0]? = some _› om ‹us[_]? = some _›; grind)))))
    exact ak (ar (Zq (Y1 (.i (-1)) (li (by first|rfl|( grind)|(have q:=UN (ds:=n.decls) (us:=us) (args:=s.args) om; grind)|(have q:=UO (ds:=n.decls) (us:=us) (args:=s.args) om ‹s.args[0]? = some _› om; grind)|(have q:=UB (ds:=n.decls) (us:=us) (args:=s.args) om ‹s.args[0]? = some _› om ‹us[_]? = some _›; grind))))))
   refine Yb (XP (fun fz gz F h=>F=sF [1,3,5,40] fz [(52,.b ((s.op==1)||((s.op==2)||((s.op==3)||(s.op==4)))))]/\h=gz) ?_ ?_)
   ·refine ac (s.op==1) Zp (fun Ye=>?_) (fun Ye=>?_)
    ·exact ak (ZQ ⟨rfl,rfl⟩ (wk [0,0] (fc (x:=.b (s.op==1)) (lb (by first|rfl|(rw [Ze Ye])|(rw [Z8 Ye])|(simp [Ye];done)|(rw [Xs];simp [Ye];done)|omega)) fl)))
    refine ar (YB (s.op==2) Zp (fun Xf=>?_) (fun Xf=>?_))
    ·exact ak (ZQ ⟨rfl,rfl⟩ (wk [0,0] (fc (x:=.b (s.op==2)) (lb (by first|rfl|(rw [Ze Ye])|(rw [Z8 Ye])|(simp [Ye,Xf];done)|(rw [Xs];simp [Ye,Xf];done)|omega)) fl)))
    refine ar (YB (s.op==3) Zp (fun Xb=>?_) (fun Xb=>?_))
    ·exact ak (ZQ ⟨rfl,rfl⟩ (wk [0,0] (fc (x:=.b (s.op==3)) (lb (by first|rfl|(rw [Ze Ye])|(rw [Z8 Ye])|(simp [Ye,Xf,Xb];done)|(rw [Xs];simp [Ye,Xf,Xb];done)|omega)) fl)))
    exact UW (ZQ ⟨rfl,rfl⟩ (wk [0,0] (fc (x:=.b (s.op==4)) (lb (by first|rfl|(rw [Ze Ye])|(rw [Z8 Ye])|(simp [Ye,Xf,Xb];done)|(rw [Xs];simp [Ye,Xf,Xb];done)|omega)) fl)))
   rintro F h ⟨rfl,rfl⟩
   refine ac ((s.op==1)||((s.op==2)||((s.op==3)||(s.op==4)))) (p:=(s.op=1)∨((s.op=2)∨((s.op=3)∨(s.op=4)))) (Yj Zp (Yj Zp (Yj Zp Zp))) (fun Vu=>?_) (fun Vu=>?_)
   ·refine Zv 3 [0] (iL (Z6 [0,0]) 2 1 fun v1=>ZP 0 [(60,Z4 [0,0])] (Zz [] (Bg us s.args [0,0] (hl_tys:=(by first|(simp;done)|(have:=U6 Xt s.num;omega)))) (ie (ac (Wc us s.args [0,0]) Iff.rfl (fun Vj=>?_) (fun Vj=>?_)))))
    ·exact ar (Zq (Y1 (.i 0) (li (by first|rfl|( grind)|(have q:=UN (ds:=n.decls) (us:=us) (args:=s.args) om; grind)|(have q:=UO (ds:=n.decls) (us:=us) (args:=s.args) om ‹s.args[0]? = some _› om; grind)|(have q:=UB (ds:=n.decls) (us:=us) (args:=s.args) om ‹s.args[0]? = some _› om ‹us[_]? = some _›; grind)))))
    exact ak (ar (Zq (Y1 (.i (-1)) (li (by first|rfl|( grind)|(have q:=UN (ds:=n.decls) (us:=us) (args:=s.args) om; grind)|(have q:=UO (ds:=n.decls) (us:=us) (args:=s.args) om ‹s.args[0]? = some _› om; grind)|(have q:=UB (ds:=n.decls) (us:=us) (args:=s.args) om ‹s.args[0]? = some _› om ‹us[_]? = some _›; grind))))))
   refine ar (YB (s.op==5) Zp (fun Vk=>?_) (fun Vk=>?_))
   ·refine Zv 3 [0] (iL (Z6 [0]) 1 1 fun v2=>ZP 0 [(67,Z4 [0])] (Zz [] (Bg us s.args [0] (hl_tys:=(by first|(simp;done)|(have:=U6 Xt s.num;omega)))) (ie (ac (Wc us s.args [0]) Iff.rfl (fun UX=>?_) (fun UX=>?_)))))
    ·exact ar (Zq (Y1 (.i 0) (li (by first|rfl|( grind)|(have q:=UN (ds:=n.decls) (us:=us) (args:=s.args) om; grind)|(have q:=UO (ds:=n.decls) (us:=us) (args:=s.args) om ‹s.args[0]? = some _› om; grind)|(have q:=UB (ds:=n.decls) (us:=us) (args:=s.args) om ‹s.args[0]? = some _› om ‹us[_]? = some _›; grind)))))
    exact ak (ar (Zq (Y1 (.i (-1)) (li (by first|rfl|( grind)|(have q:=UN (ds:=n.decls) (us:=us) (args:=s.args) om; grind)|(have q:=UO (ds:=n.decls) (us:=us) (args:=s.args) om ‹s.args[0]? = some _› om; grind)|(have q:=UB (ds:=n.decls) (us:=us) (args:=s.args) om ‹s.args[0]? = some _› om ‹us[_]? = some _›; grind))))))
   refine ar (YB (s.op==6) Zp (fun Jg=>?_) (fun Jg=>?_))
   ·refine aD 17 (ZJ 13 17 [0,1,2,3] [1,0] (Z7 4 (Yp 4 [] [] [] (Lv n.decls s.num) (JY [3,5] [(87,.b ((decide ((Wf n.decls s.num)>0))&&Wc us s.args (ZV n.decls s.num)))] (fun gz=>gz) ?_ ?_))))
    ·refine Zj 10 12 [5,6] (db (b:=(decide ((Wf n.decls s.num)>0))) 77 (fun Wy=>?_) (fun Wy=>?_))
     ·have V5:(Wf n.decls s.num)>0:=(dq).1 Wy
      exact ZJ 3 10 [7,8,9,10,11,12,13] [0,1,0] (Z7 14 (Yp 14 [] [0] [b2] (Kj n.decls s.num (hd:=Xt)) (Z7 15 (Yp 15 [] [] [] (Bg us s.args (ZV n.decls s.num) (hl_tys:=(by first|(simp;done)|(have:=U6 Xt s.num;omega)))) (Zj 0 1 [16] (de (wk [0,0] (Zu (Wc us s.args (ZV n.decls s.num)) Wy fl))))))))
     have Ur:¬((Wf n.decls s.num)>0):=Ya dq Wy
     exact Zj 0 10 [7,8,9,10,11,12,13,14,15,16] (de (wk [0,0] (Zu false Wy fl)))
    refine ac ((decide ((Wf n.decls s.num)>0))&&Wc us s.args (ZV n.decls s.num)) (p:=((Wf n.decls s.num)>0)/\(Wc us s.args (ZV n.decls s.num)=true)) (YH dq Iff.rfl) (fun TO=>?_) (fun TO=>?_)
    ·exact Zv 4 [1,0] (Zz [] (Lv n.decls s.num) (Zq (Y1 (.i (Wf n.decls s.num)) (li (by first|rfl|( grind)|(have q:=UN (ds:=n.decls) (us:=us) (args:=s.args) om; grind)|(have q:=UO (ds:=n.decls) (us:=us) (args:=s.args) om ‹s.args[0]? = some _› om; grind)|(have q:=UB (ds:=n.decls) (us:=us) (args:=s.args) om ‹s.args[0]? = some _› om ‹us[_]? = some _›; grind))))))
    exact ak (ar (Zq (Y1 (.i (-1)) (li (by first|rfl|( grind)|(have q:=UN (ds:=n.decls) (us:=us) (args:=s.args) om; grind)|(have q:=UO (ds:=n.decls) (us:=us) (args:=s.args) om ‹s.args[0]? = some _› om; grind)|(have q:=UB (ds:=n.decls) (us:=us) (args:=s.args) om ‹s.args[0]? = some _› om ‹us[_]? = some _›; grind))))))
   refine ar (YB (s.op==7) Zp (fun KH=>?_) (fun KH=>?_))
   ·refine Zv 3 [0] (iL (Z6 [0]) 1 1 fun v3=>ZP 0 [(98,Z4 [0])] (Zz [] (Bg us s.args [0] (hl_tys:=(by first|(simp;done)|(have:=U6 Xt s.num;omega)))) (ie (ac (Wc us s.args [0]) Iff.rfl (fun BS=>?_) (fun BS=>?_)))))
    ·exact Zv 3 [2,1] (Zz [] (Rv n us s (ih:=ob)) (Zq (Y1 (.i (Tu n us s.op s.num s.kids)) (li (by first|rfl|( grind)|(have q:=UN (ds:=n.decls) (us:=us) (args:=s.args) om; grind)|(have q:=UO (ds:=n.decls) (us:=us) (args:=s.args) om ‹s.args[0]? = some _› om; grind)|(have q:=UB (ds:=n.decls) (us:=us) (args:=s.args) om ‹s.args[0]? = some _› om ‹us[_]? = some _›; grind))))))
    exact ak (ar (Zq (Y1 (.i (-1)) (li (by first|rfl|( grind)|(have q:=UN (ds:=n.decls) (us:=us) (args:=s.args) om; grind)|(have q:=UO (ds:=n.decls) (us:=us) (args:=s.args) om ‹s.args[0]? = some _› om; grind)|(have q:=UB (ds:=n.decls) (us:=us) (args:=s.args) om ‹s.args[0]? = some _› om ‹us[_]? = some _›; grind))))))
   refine ar (YB (s.op==8) Zp (fun If=>?_) (fun If=>?_))
   ·refine Zv 5 [0,0] (iL (Z6 [s.num]) 1 1 fun v4=>ZP 0 [(111,Z4 [s.num])] (Zz [] (Bg us s.args [s.num] (hl_tys:=(by first|(simp;done)|(have:=U6 Xt s.num;omega)))) (ie (ac (Wc us s.args [s.num]) Iff.rfl (fun Ig=>?_) (fun Ig=>?_)))))
    ·exact Zv 3 [2,1] (Zz [] (Rv n us s (ih:=ob)) (Zq (Y1 (.i (Tu n us s.op s.num s.kids)) (li (by first|rfl|( grind)|(have q:=UN (ds:=n.decls) (us:=us) (args:=s.args) om; grind)|(have q:=UO (ds:=n.decls) (us:=us) (args:=s.args) om ‹s.args[0]? = some _› om; grind)|(have q:=UB (ds:=n.decls) (us:=us) (args:=s.args) om ‹s.args[0]? = some _› om ‹us[_]? = some _›; grind))))))
    exact ak (ar (Zq (Y1 (.i (-1)) (li (by first|rfl|( grind)|(have q:=UN (ds:=n.decls) (us:=us) (args:=s.args) om; grind)|(have q:=UO (ds:=n.decls) (us:=us) (args:=s.args) om ‹s.args[0]? = some _› om; grind)|(have q:=UB (ds:=n.decls) (us:=us) (args:=s.args) om ‹s.args[0]? = some _› om ‹us[_]? = some _›; grind))))))
   refine Yb (XP (fun fz gz F h=>F=sF [1,3,5,40] fz [(117,.b ((s.op==9)||(s.op==10)))]/\h=gz) ?_ ?_)
   ·refine ac (s.op==9) Zp (fun Jh=>?_) (fun Jh=>?_)
    ·exact ak (ZQ ⟨rfl,rfl⟩ (wk [0,0] (fc (x:=.b (s.op==9)) (lb (by first|rfl|(rw [Ze Jh])|(rw [Z8 Jh])|(simp [Jh];done)|(rw [Xs];simp [Jh];done)|omega)) fl)))
    exact UW (ZQ ⟨rfl,rfl⟩ (wk [0,0] (fc (x:=.b (s.op==10)) (lb (by first|rfl|(rw [Ze Jh])|(rw [Z8 Jh])|(simp [Jh];done)|(rw [Xs];simp [Jh];done)|omega)) fl)))
   rintro F h ⟨rfl,rfl⟩
   refine ac ((s.op==9)||(s.op==10)) (p:=(s.op=9)∨(s.op=10)) (Yj Zp Zp) (fun Z6c=>?_) (fun Z6c=>?_)
   ·exact Zv 3 [1,0] (Zz [] (Zcx n us s) (Zq (Y1 (.i (Tx n us s.op s.num s.args)) (li (by first|rfl|( grind)|(have q:=UN (ds:=n.decls) (us:=us) (args:=s.args) om; grind)|(have q:=UO (ds:=n.decls) (us:=us) (args:=s.args) om ‹s.args[0]? = some _› om; grind)|(have q:=UB (ds:=n.decls) (us:=us) (args:=s.args) om ‹s.args[0]? = some _› om ‹us[_]? = some _›; grind))))))
   refine ar (YB (s.op==11) Zp (fun Z6d=>?_) (fun Z6d=>?_))
   ·refine aD 26 (ZJ 24 26 [0,1] [0] (dw 2 (Y6 s.args) (Zj 21 23 [3,4] (db (b:=((s.args.length:Int)==2)) 130 (fun V4=>?_) (fun V4=>?_)))))
    ·have Tg:(s.args.length:Int)=2:=(Zp).1 V4
     refine ZJ 19 21 [5,6] [0] ?_
     obtain ⟨x1,Z3⟩:=Zt s.args 0 om
     refine dx 7 (Zh none 0 1 (ZY Z3)) (Zj 16 18 [8,9] (dw 10 (Y6 us) (da 11 (((us.length:Int)-1)) (((us.length:Int))-(1)) (Z7 12 (Yp 12 [] [] [] (UI x1 0 ((us.length:Int)-1)) (Zj 11 13 [13,14] (db (b:=(decide (0<=x1/\x1<=((us.length:Int)-1)))) 140 (fun Vi=>?_) (fun Vi=>?_))))))))
     ·have UY:0<=x1/\x1<=((us.length:Int)-1):=(dq).1 Vi
      refine ZJ 6 11 [15,16,17,18,19] [1,0] (dx 20 (Zh none 0 1 (ZY Z3)) (Zj 4 5 [21] ?_))
      obtain ⟨x2,Zr⟩:=Zt us x1.toNat om
      refine dx 22 (Zh none x1 1 (ZY Zr)) (Zj 2 3 [23] (Z7 24 (Yp 24 [] [] [] (Eg n.decls x2) (Zj 0 1 [25] (de (ac (XX n.decls x2) Iff.rfl (fun Z6e=>?_) (fun Z6e=>?_)))))))
      ·refine aD 14 (ZJ 9 14 [0,1,2,3,4] [1,0] (dx 5 (Zh none 0 1 (ZY Z3)) (Zj 7 8 [6] (dx 7 (Zh none x1 1 (ZY Zr)) (Zj 5 6 [8] (da 9 ((x2-1)) ((x2)-(1)) (hb:=(by have:=Iq ‹XX n.decls _=true›;omega)) ?_))))))
       obtain ⟨x3,YI⟩:=Zt n.decls ((x2-1).toNat) (by have:=Iq ‹XX n.decls _=true›;omega)
       have had:=Z06 (us:=us) (args:=s.args) om ‹s.args[0]? = some _› om ‹us[_]? = some _› ‹XX n.decls _=true› YI
       refine dx 10 (Am (es:=X2 n.decls) (hv:=none) (j:=(x2-1)) (sz:=3) (y:=BC x3) kr (by have:=Iq ‹XX n.decls _=true›;omega) (VN YI) rfl) (Zj 2 3 [11] (Z7 12 (dA 12 [0,1] [b2,b1] [.i 0,.i 0,nl] fun b3=>Z7 13 (YJ 13 0 [] [] b3 (QL x3) (de (aD 8 (ZJ 5 8 [0,1,2] [1] (dx 3 (KW (es:=Z6 s.args) (hv:=none) (l:=1) (m:=(((Z6 s.args).length:Nat):Int)) (sz:=1) (es':=Z6 (s.args.drop 1)) kr om (by simp<;>omega) (by simp<;>omega) (YA _) (by first|(simp only [VT,VA,Jd,A3];done)|(simp only [VT,VA,Jd,A3];rfl)|(simp [Jd,A3];done))) (ZJ 2 4 [4,5] [0] (Z7 6 (dL 6 [1] [b2] (Z6 [x3.frm]) 1 1 fun v5=>Yr 1 1 [] [(170,Z4 [x3.frm])] (Z7 7 (Yp 7 [] [] [] (Bg us (s.args.drop 1) [x3.frm] (hl_tys:=(by first|(simp;done)|(have:=U6 Xt s.num;omega)))) (de (ac (Wc us (s.args.drop 1) [x3.frm]) Iff.rfl (fun NT=>?_) (fun NT=>?_))))))))))))))))
       ·exact A7 [1] (ZD (Y1 (.i x3.to_) (li (by first|rfl|(clear Z3 Zr YI;grind)|(have q:=UN (ds:=n.decls) (us:=us) (args:=s.args) om;clear Z3 Zr YI;grind)|(have q:=UO (ds:=n.decls) (us:=us) (args:=s.args) om ‹s.args[0]? = some _› om;clear Z3 Zr YI;grind)|(have q:=UB (ds:=n.decls) (us:=us) (args:=s.args) om ‹s.args[0]? = some _› om ‹us[_]? = some _›;clear Z3 Zr YI;grind)))))
       exact ak (ar (Zq (Y1 (.i (-1)) (li (by first|rfl|(clear Z3 Zr YI;grind)|(have q:=UN (ds:=n.decls) (us:=us) (args:=s.args) om;clear Z3 Zr YI;grind)|(have q:=UO (ds:=n.decls) (us:=us) (args:=s.args) om ‹s.args[0]? = some _› om;clear Z3 Zr YI;grind)|(have q:=UB (ds:=n.decls) (us:=us) (args:=s.args) om ‹s.args[0]? = some _› om ‹us[_]? = some _›;clear Z3 Zr YI;grind))))))
      exact ak (ar (Zq (Y1 (.i (-1)) (li (by first|rfl|(clear Z3 Zr;grind)|(have q:=UN (ds:=n.decls) (us:=us) (args:=s.args) om;clear Z3 Zr;grind)|(have q:=UO (ds:=n.decls) (us:=us) (args:=s.args) om ‹s.args[0]? = some _› om;clear Z3 Zr;grind)|(have q:=UB (ds:=n.decls) (us:=us) (args:=s.args) om ‹s.args[0]? = some _› om ‹us[_]? = some _›;clear Z3 Zr;grind))))))
     have Qj:¬(0<=x1/\x1<=((us.length:Int)-1)):=Ya dq Vi
     exact Zj 0 11 [15,16,17,18,19,20,21,22,23,24,25] (de (We (ak (ar (Zq (Y1 (.i (-1)) (li (by first|rfl|(clear Z3;grind)|(have q:=UN (ds:=n.decls) (us:=us) (args:=s.args) om;clear Z3;grind)|(have q:=UO (ds:=n.decls) (us:=us) (args:=s.args) om ‹s.args[0]? = some _› om;clear Z3;grind)|(have q:=UB (ds:=n.decls) (us:=us) (args:=s.args) om ‹s.args[0]? = some _› om ‹us[_]? = some _›;clear Z3;grind)))))))))
    have Q6:¬((s.args.length:Int)=2):=Ya Zp V4
    exact Zj 0 21 [5,6,7,8,9,10,11,12,13,14,15,16,17,18,19,20,21,22,23,24,25] (de (We (ak (ar (Zq (Y1 (.i (-1)) (li (by first|rfl|( grind)|(have q:=UN (ds:=n.decls) (us:=us) (args:=s.args) om; grind)|(have q:=UO (ds:=n.decls) (us:=us) (args:=s.args) om ‹s.args[0]? = some _› om; grind)|(have q:=UB (ds:=n.decls) (us:=us) (args:=s.args) om ‹s.args[0]? = some _› om ‹us[_]? = some _›; grind)))))))))
   refine Yb (XP (fun fz gz F h=>F=sF [1,3,5] fz [(174,.b ((s.op==14)||((s.op==15)||((s.op==16)||(s.op==17)))))]/\h=gz) ?_ ?_)
   ·refine ac (s.op==14) Zp (fun TE=>?_) (fun TE=>?_)
    ·exact ak (ZQ ⟨rfl,rfl⟩ (wk [0,0] (fc (x:=.b (s.op==14)) (lb (by first|rfl|(rw [Ze TE])|(rw [Z8 TE])|(simp [TE];done)|(rw [Xs];simp [TE];done)|omega)) fl)))
    refine ar (YB (s.op==15) Zp (fun Ad=>?_) (fun Ad=>?_))
    ·exact ak (ZQ ⟨rfl,rfl⟩ (wk [0,0] (fc (x:=.b (s.op==15)) (lb (by first|rfl|(rw [Ze TE])|(rw [Z8 TE])|(simp [TE,Ad];done)|(rw [Xs];simp [TE,Ad];done)|omega)) fl)))
    refine ar (YB (s.op==16) Zp (fun DM=>?_) (fun DM=>?_))
    ·exact ak (ZQ ⟨rfl,rfl⟩ (wk [0,0] (fc (x:=.b (s.op==16)) (lb (by first|rfl|(rw [Ze TE])|(rw [Z8 TE])|(simp [TE,Ad,DM];done)|(rw [Xs];simp [TE,Ad,DM];done)|omega)) fl)))
    exact UW (ZQ ⟨rfl,rfl⟩ (wk [0,0] (fc (x:=.b (s.op==17)) (lb (by first|rfl|(rw [Ze TE])|(rw [Z8 TE])|(simp [TE,Ad,DM];done)|(rw [Xs];simp [TE,Ad,DM];done)|omega)) fl)))
   rintro F h ⟨rfl,rfl⟩
   refine ac ((s.op==14)||((s.op==15)||((s.op==16)||(s.op==17)))) (p:=(s.op=14)∨((s.op=15)∨((s.op=16)∨(s.op=17)))) (Yj Zp (Yj Zp (Yj Zp Zp))) (fun Z6f=>?_) (fun Z6f=>?_)
   ·exact Zv 3 [1,0] (Zz [] (Zco n us s) (Zq (Y1 (.i (Qg n.decls us s.op s.args)) (li (by first|rfl|( grind)|(have q:=UN (ds:=n.decls) (us:=us) (args:=s.args) om; grind)|(have q:=UO (ds:=n.decls) (us:=us) (args:=s.args) om ‹s.args[0]? = some _› om; grind)|(have q:=UB (ds:=n.decls) (us:=us) (args:=s.args) om ‹s.args[0]? = some _› om ‹us[_]? = some _›; grind))))))
   exact ak (ar (Zq (Y1 (.i (-1)) (li (by first|rfl|( grind)|(have q:=UN (ds:=n.decls) (us:=us) (args:=s.args) om; grind)|(have q:=UO (ds:=n.decls) (us:=us) (args:=s.args) om ‹s.args[0]? = some _› om; grind)|(have q:=UB (ds:=n.decls) (us:=us) (args:=s.args) om ‹s.args[0]? = some _› om ‹us[_]? = some _›; grind))))))
  refine Z2 1 (ib (b:=((s.num != 0)&&(!VH s.op))) 17 (fun Va=>?_) (fun Va=>?_))
  ·have KI:(s.num≠0)/\(¬(VH s.op=true)):=((YH Yl (Yo Iff.rfl))).1 Va
   exact Z2 5 (Yu (wk [0,0] (Zu true Va fl)) hj2)
  have KJ:¬((s.num≠0)/\(¬(VH s.op=true))):=Ya (YH Yl (Yo Iff.rfl)) Va
  exact ZM 2 [0] (Zz [] (Zd8 us s) (Z2 2 (Yu (wk [0,0] (Zu (!Ul us s.op s.into) Va fl)) hj2)))
 refine ZM 4 [0] (ib (b:=(s.num != 0)) 11 (fun Vb=>?_) (fun Vb=>?_))
 ·have AT:s.num≠0:=(Yl).1 Vb
  exact ZM 2 [0] (Zz [] (Zcp s.op) (Z2 2 (Yu (wk [0,0] (Zu (!VH s.op) Vb fl)) hj1)))
 have Ji:¬(s.num≠0):=Ya Yl Vb
 exact Z2 5 (Yu (wk [0,0] (Zu false Vb fl)) hj1)
theorem Zck (n:Zk) (us:LI) (b:Z9) (hn:X4 n:=by exact ob) (hb:us.length+4*b.sz<=1000000000:=by exact ob) (ih:∀(s:Z5) (us:LI),(s.sz<b.sz)->(us.length+4*s.sz<=1000000000)->Zl 164 [Yn n,Z4 us,YG s] [] (Yv (.i (Yc n us s)))):Zl 128 [Yn n,Z4 us,ZZ b] [] (Yv (.i (Xq n us b))):=by
 have hbz:=VS b
 have hbe:=Ds n us b
 refine ZG 52 Tryz.func128 (ar (iA (YT n) fun b1=>iA (Xk b) fun b2=>Z0 (Y5 1 (ic [] (Ub us) ?_))))
 rintro _ _ ⟨v1,rfl,rfl⟩
 refine Z0 (Yb (ab 0 (Y4 (fun fz gz m F h=>∃(k:Nat) (vs:LI) (v:Value),(k<=b.steps.length)/\(vs.length<=us.length+k)/\(XH n (b.steps.drop k) vs=XH n b.steps us)/\F=sF [3,5] fz [(7,ZT vs v),(8,.i k)]/\h=[Zc gz 1,Zc gz 2,.tail v 1]/\m=b.steps.length-k) _ _ _ ⟨0,us,v1,ob,ob,ob,rfl,rfl,rfl⟩ (wk [1,1,0] (fr (Yd fl))) ?_)))
 rintro m F h ⟨k,vs,v,Yg,Zi,Zw,rfl,rfl,rfl⟩
 refine Yi 3 [0] (iw (VF b.steps) (Y0 ((k:Int)<(b.steps.length:Int)) (fun Za=>?_) (fun Za=>?_)))
 ·refine ak (aq (ab 1 (aD 9 (ZJ 4 9 [0,1,2,3,4] [1,0] ?_))))
  obtain ⟨x1,Z3⟩:=Zt b.steps k om
  have hss:=C8 Z3
  refine dx 5 (Zh none (k:Int) 5 (WD Z3)) (Yr 2 3 [6] [(20,Z4 vs)] (Z7 7 (Yp 7 [] [] [] (ih x1 vs ob ob) (Zj 0 1 [8] (de (X0 (Y0 ((Yc n vs x1)<0) (fun Zg=>?_) (fun Zg=>?_))))))))
  ·refine ZF ?_
   rw [Y7 Z3] at Zw
   exact ZD (Y1 (.i (-1)) (li (by clear Z3;first|rfl|omega|grind [XH])))
  refine ak (Zv 3 [0] (Zm (Zh none (k:Int) 5 (WD Z3)) (Z2 2 (Zz [] (KU x1.op) (ie (Jv (fun fz gz F h=>∃(w:Value),F=sF [3,5,8] fz [(7,ZT (if XM x1.op=true then vs++[Yc n vs x1] else vs) w)]/\h=[Zc gz 0,Zc gz 1,.tail w 1]) (fun _ _=>rfl) ?_ ?_))))))
  ·refine ac (XM x1.op) Iff.rfl (fun ZC=>?_) (fun ZC=>?_)
   ·exact az (Z2 2 (iL (Z6 [Yc n vs x1]) 1 1 fun v2=>ZP 0 [(38,Z4 [Yc n vs x1])] (ip 3 (Z6 (vs++[Yc n vs x1])) (Z6 vs) (Z6 [Yc n vs x1]) v none 1 (YA _) (YA _) (W6 _) (by simp<;>omega) (by simp [W5,Z6]) fun v3=>Z0 (ZQ ⟨v3,rfl,rfl⟩ (wk [2,2,0] (fc (x:=ZT (vs++[Yc n vs x1]) v3) (Zd.slh _ (Ym Z6 (by first|rfl|(rw [Ze ZC])|(rw [Z8 ZC])|(simp [ZC];done)|(rw [Xs];simp [ZC];done)|omega))) fl))))))
   exact ak (ZQ ⟨v,rfl,rfl⟩ (ZE 3 (fc (x:=ZT vs v) (Zd.slh _ (Ym Z6 (by first|rfl|(rw [Ze ZC])|(rw [Z8 ZC])|(simp [ZC];done)|(rw [Xs];simp [ZC];done)|omega))) fl)))
  rintro F h ⟨w,rfl,rfl⟩
  refine az (Z2 1 (ZK k (Z0 ?_)))
  have hdr:=Y7 Z3
  exact ZL ⟨k+1,(if XM x1.op=true then vs++[Yc n vs x1] else vs),w,ob,(by split<;>(try simp)<;>omega),(by rw [hdr] at Zw;clear hdr Z3;grind [XH]),rfl,rfl,rfl⟩ (ZE 3 (fr (ZO k fl)))
 refine ax 0 (Yi 3 [0] (iw (Y6 vs) (ia (((vs.length:Int)-1)) (((vs.length:Int))-(1)) (Zz [] (UI b.result 0 ((vs.length:Int)-1)) (YB (!(decide (0<=b.result/\b.result<=((vs.length:Int)-1)))) (p:=¬(0<=b.result/\b.result<=((vs.length:Int)-1))) (Yo dq) (fun Ye=>?_) (fun Ye=>?_))))))
 ·refine ZF ?_
  try rw [Xi (xs:=b.steps) (k:=k) om] at Zw
  exact ZD (Y1 (.i (-1)) (li (by rw [hbe,<-Zw];show _=(XA vs b.result).getD (-1);rw [K8 Ye];rfl)))
 refine ak (Zv 3 [0] ?_)
 obtain ⟨x2,Zr⟩:=Zt vs b.result.toNat om
 refine Zm (Zh (some v) b.result 1 (ZY Zr)) (Z0 ?_)
 try rw [Xi (xs:=b.steps) (k:=k) om] at Zw
 exact ZD (Y1 (.i x2) (li (by rw [hbe,<-Zw];show _=(XA vs b.result).getD (-1);rw [Q0 om Zr];rfl)))
theorem Zd4 (b:Z9) (l:Int) (hb:b.sz<=1000000000) (hl:0<=l/\l<=600) (ih:∀(b2:Z9) (l:Int),(b2.sz<b.sz)->(0<=l/\l<=600)->Zl 103 [ZZ b2,.i l] [] (Yv (.i (WM b2 l)))):Zl 103 [ZZ b,.i l] [] (Yv (.i (WM b l))):=by
 have hbz:=VS b
 have hbe:=OP b l
 refine ZG 43 Tryz.func103 (ar (iA (Xk b) fun b1=>?_))
 refine Z0 (Yb (ab 0 (Y4 (fun fz gz m F h=>∃(k:Nat) (q:Int),(k<=b.steps.length)/\(0<=q/\q<=600)/\(TP (b.steps.drop k) q=TP b.steps l)/\F=sF [2] fz [(1,.i q),(5,.i k)]/\h=gz/\m=b.steps.length-k) _ _ _ ⟨0,l,ob,ob,ob,rfl,rfl,rfl⟩ (wk [0] (fr (Yd fl))) ?_)))
 rintro m F h ⟨k,q,Yg,Zi,Zw,rfl,rfl,rfl⟩
 refine Yi 3 [0] (iw (VF b.steps) (Y0 ((k:Int)<(b.steps.length:Int)) (fun Za=>?_) (fun Za=>?_)))
 ·refine ak (aq (ab 1 (X0 (Y0 (q<1) (fun Zg=>?_) (fun Zg=>?_)))))
  ·refine ZF ?_
   try rw [Xi (xs:=b.steps) (k:=k) om] at Zw
   obtain ⟨x1,Z3⟩:=Zt b.steps k om
   rw [Y7 Z3] at Zw
   clear Z3
   exact ZD (Y1 (.i (-1)) (li (by first|rfl|omega|grind [TP])))
  obtain ⟨s1,hxs1⟩:=Zt b.steps k om
  have hss:=Kl hxs1
  have hkz:=Tv s1
  refine ak (Y5 1 (ia ((q-1)) ((q)-(1)) (Z0 (ZF (ab 2 (Y4 (fun fz gz m F h=>∃(j:Nat) (j2:Int),(j<=s1.kids.length)/\(0<=j2/\j2<=600)/\(Qa (s1.kids.drop j) j2=Qa s1.kids (q-1))/\F=sF [2,5] fz [(1,.i j2),(6,.i j)]/\h=gz/\m=s1.kids.length-j) _ _ _ ⟨0,(q-1),ob,ob,ob,rfl,rfl,rfl⟩ (wk [0] (fr (Yd fl))) ?_))))))
  rintro m F h ⟨j,j2,Uo,XY,XS,rfl,rfl,rfl⟩
  refine Yi 4 [0] (Zm (Zh none (k:Int) 5 (WD hxs1)) (Z2 2 (iw (Ue s1.kids) (Y0 ((j:Int)<(s1.kids.length:Int)) (fun ZC=>?_) (fun ZC=>?_)))))
  ·refine ak (aq (ab 3 (Zv 3 [0] (Zm (Zh none (k:Int) 5 (WD hxs1)) (Z2 3 ?_)))))
   obtain ⟨x1,Z3⟩:=Zt s1.kids j om
   have hks:=Tt Z3
   have hle:=IE.2 x1 j2 om
   refine Zm (Zh none (j:Int) 2 (UR Z3)) (Z2 2 (Zz [] (ih x1 j2 ob ob) (Z0 (ar (Y0 ((WM x1 j2)<0) (fun Ye=>?_) (fun Ye=>?_))))))
   ·refine ZF ?_
    rw [Y7 hxs1] at Zw
    rw [Y7 Z3] at XS
    have hls:=FT s1 (q-1)
    exact ZD (Y1 (.i (-1)) (li (by clear Z3 hxs1;first|rfl|omega|grind [TP,Qa])))
   refine ak (az (Z2 1 (ZK j (Z0 ?_))))
   have hdr:=Y7 Z3
   exact ZL ⟨j+1,(WM x1 j2),ob,ob,(by rw [hdr] at XS;clear hdr Z3 hxs1;grind [Qa]),rfl,rfl,rfl⟩ (wk [0] (fr (ZO j fl)))
  refine ax 2 (az (Z2 1 (ZK k (Z0 ?_))))
  rw [Xi om] at XS
  have hls:=FT s1 (q-1)
  rw [Qa] at XS
  have hdr:=Y7 hxs1
  exact ZL ⟨k+1,j2,ob,ob,(by rw [hdr] at Zw;clear hdr hxs1;grind [TP]),rfl,rfl,rfl⟩ (wk [0] (fr (ZO k fl)))
 refine ax 0 (ZF ?_)
 try rw [Xi (xs:=b.steps) (k:=k) om] at Zw
 exact ZD (Y1 (.i q) (li (by first|rfl|omega|grind [TP])))
theorem Zd3 (b:Z9) (l:Int) (hb:b.sz<=1000000000) (hl:0<=l/\l<=600):Zl 103 [.agg [.sl (Zy b.steps) none,.i b.result],.i l] [] (Yv (.i (WM b l))):=by
 have key:∀m:Nat,∀(b:Z9) (l:Int),b.sz<=m->b.sz<=1000000000->(0<=l/\l<=600)->Zl 103 [.agg [.sl (Zy b.steps) none,.i b.result],.i l] [] (Yv (.i (WM b l))):=by
  intro m
  induction m with
  | zero=>intro b l h;have:=b.sz_pos;omega
  | succ m ih=>intro b l h1 h2 h3;exact Zd4 b l h2 h3 fun b2 l2 k1 k2=>ih b2 l2 om om k2
 exact key b.sz b l (X5 _) hb hl
theorem Zcj (n:Zk) (hn:X4 n) (m:Nat):∀(b:Z9) (us:LI),(b.sz<=m)->(us.length+4*b.sz<=1000000000)->Zl 128 [Yn n,Z4 us,ZZ b] [] (Yv (.i (Xq n us b))):=by
 induction m with
 | zero=>intro b us h;have:=b.sz_pos;omega
 | succ m ih=>intro b us h1 h2;exact Zck n us b hn h2 fun s us2 k1 k2=>Rz n us2 s hn k2 fun b2 us3 q1 q2=>ih b2 us3 om q2
theorem Rp (n:Zk) (us:LI) (b:Z9) (hn:X4 n) (hb:us.length+4*b.sz<=1000000000):Zl 128 [Yn n,Z4 us,ZZ b] [] (Yv (.i (Xq n us b))):=
 Zcj n hn b.sz b us (X5 _) hb
theorem Ly (n:Zk) (us:LI) (s:Z5) (hn:X4 n) (hb:us.length+4*s.sz<=1000000000):Zl 164 [Yn n,Z4 us,YG s] [] (Yv (.i (Yc n us s))):=
 Rz n us s hn hb fun b2 us3 _ q2=>Rp n us3 b2 hn q2
theorem Zd5 (b:Z9) (hb:b.sz<=1000000000:=by exact ob):Zl 66 [ZZ b] [] (Yv (.i (TG b))):=by
 have hle:=IE.2 b 600 om
 refine ZG 10 Tryz.func66 (ar (iA (Xk b) fun b1=>Z0 (Zv 1 [0] (Zz [] (Zd3 b 600 ob ob) (Z0 (X0 (Y0 ((WM b 600)<0) (fun Za=>?_) (fun Za=>?_))))))))
 ·exact ar (Zq (Y1 (.i (-1)) (li (by first|rfl|omega|grind [TG]))))
 exact ak (Y5 1 (ia ((600-(WM b 600))) ((600)-(WM b 600)) (Zq (Y1 (.i (600-(WM b 600))) (li (by first|rfl|omega|grind [TG]))))))
theorem A8 (z:Int) :Zl 226 [.i z] [] (Yv (Y3 (Z1.mk 0 z []))):=by
 exact ZG 6 Tryz.func226 (ar (iA [.i 0,.i 0,nl] fun b1=>ie (Y5 1 (iL (Ys []) 0 3 fun v1=>Z2 1 (ZI 1 b1 [.i 0,.i z,Qm [] v1] (ie (ZD (r3 [] [.agg [.i 0,.i z,Qm [] v1]] [0] [(b1,b1)] ⟨rfl,rfl⟩ (Zd.agg (.cons li (.cons li (.cons (Zd.sl _ (Ym Ys rfl)) .nil))))))))))))
theorem Q4 (z:Int) :Zl 273 [.i z] [] (Yv (Y3 (Z1.mk 12 z []))):=by
 exact ZG 6 Tryz.func273 (ar (iA [.i 0,.i 0,nl] fun b1=>ie (Y5 1 (iL (Ys []) 0 3 fun v1=>Z2 1 (ZI 1 b1 [.i 12,.i z,Qm [] v1] (ie (ZD (r3 [] [.agg [.i 12,.i z,Qm [] v1]] [0] [(b1,b1)] ⟨rfl,rfl⟩ (Zd.agg (.cons li (.cons li (.cons (Zd.sl _ (Ym Ys rfl)) .nil))))))))))))
theorem XQ (op:Int) (nm:Int) (ks:List Z1) :Zl 271 [.i op,.i nm,Xy ks] [] (Yv (Y3 (Z1.mk op nm ks))):=by
 exact ZG 11 Tryz.func271 (ar (iA [.i 0,.i 0,nl] fun b1=>ie (Y5 4 (ZI 0 b1 [.i op,.i nm,Xy ks] (ie (ZD (r3 [] [.agg [.i op,.i nm,Xy ks]] [0] [(b1,b1)] ⟨rfl,rfl⟩ (Zd.agg (.cons li (.cons li (.cons (Zd.sl _ (Ym Ys rfl)) .nil)))))))))))
theorem NM (rd:Nat) (bs:LI) (p:Nat) (ZH:∀z∈bs,0<=z/\z<=255) (hp:p+4<=1000000000:=by exact ob):Zl 294 [.p rd 0] [Yx rd bs p] (fun r h=>∃(z:Int),r=.i z/\h=[.obj rd [U9 bs,.i (p+4:Nat)]]/\-2000<=z/\z<=2000):=by
 refine ZG 12 Tryz.func294 (ZF (Y5 2 (ic [0] (W2 rd bs p 6 (ZH:=ob)) ?_)))
 rintro _ _ ⟨k1,rfl,rfl,ZW⟩
 have qhp1:=ZW.lt om
 refine Z2 1 (ic [0] (W2 rd bs (p+1) 6 (ZH:=ob)) ?_)
 rintro _ _ ⟨k2,rfl,rfl,Yh⟩
 have qhp2:=Yh.lt om
 refine Z2 1 (ic [0] (W2 rd bs ((p+1)+1) 40 (ZH:=ob)) ?_)
 rintro _ _ ⟨k3,rfl,rfl,YE⟩
 have qhp3:=YE.lt om
 refine iL (Z6 [k1,k2,0,1,2,-1,3,k3,999,-998]) 10 1 fun v1=>ZP 0 [(10,Z4 [k1,k2,0,1,2,-1,3,k3,999,-998])] (ic [1] (VO rd bs (((p+1)+1)+1) [k1,k2,0,1,2,-1,3,k3,999,-998] (ZH:=ob)) ?_)
 rintro _ _ ⟨z1,rfl,rfl,YN⟩
 exact Zq (r1 [0] ⟨z1,rfl,rfl,(by simp at YN;omega)⟩)
theorem NA (g:W8) (gb:Nat) (rs:List Func) (t:Int) (hg:GP g:=by exact ob) (Wq:g.funcs <+: rs:=by exact ob):Zl 306 [.agg (Ws g gb),.i t] [XO gb rs] (fun r h=>∃(xs:LI),r=Z4 xs/\h=[XO gb rs]/\xs.length<=4/\∀i∈xs,JO g t i):=by
 have hgl:=hg.len
 have hdl:=hg.decls.len
 refine ZG 53 Tryz.func306 (ar (iA (Ws g gb) fun b1=>Z0 (ar (iL (Z6 []) 0 1 fun v1=>?_))))
 refine Z0 (Yb (ab 0 (Y4 (fun fz gz m F h=>∃(k:Nat) (ys:LI) (u:Value),(k<=g.funcs.length)/\(ys.length<=k)/\(∀i∈ys,JO g t i)/\F=sF [1,2] fz [(5,ZT ys u),(6,.i k)]/\h=[Zc gz 1,Zc gz 2,.tail u 1]/\m=g.funcs.length-k) _ _ _ ⟨0,[],v1,ob,ob,(fun i hi=>by cases hi),rfl,rfl,rfl⟩ (wk [1,1,0] (fr (Yd fl))) ?_)))
 rintro m F h ⟨k,ys,u,Yg,Zi,Zw,rfl,rfl,rfl⟩
 refine Yi 3 [0] (io (.i g.funcs.length) (.i g.funcs.length) (lr _) (Y0 ((k:Int)<(g.funcs.length:Int)) (fun Za=>?_) (fun Za=>?_)))
 ·refine ak (aq (ab 1 (Zv 3 [0] ?_)))
  obtain ⟨x1,Z3⟩:=Zt g.funcs k om
  have hso:=(hg.sigs _ (Y2 Z3)).bd
  refine Zm (Wp gb g.funcs.length 4 k 5 (k:Int)) (Z2 1 (V6 (Vl 1 gb 4 4 5 (k*5+0) (Zo (Xr rs)) [Z4 x1.params] 31 (Z4 x1.params) (UE Wq Z3 0 rfl (V8 rfl))) (iw (Y6 x1.params) (Z0 (aD 25 (Zj 22 25 [0,1,2] (db (b:=(decide ((x1.params.length:Int)>0))) 25 (fun Zb=>?_) (fun Zb=>?_))))))))
  ·have ZW:(x1.params.length:Int)>0:=(dq).1 Zb
   refine ZJ 17 22 [3,4,5,6,7] [0,0] (dx 8 (Wp gb g.funcs.length 4 k 5 (k:Int)) (Zj 15 16 [9] (U7 10 (Vl 1 gb 4 4 5 (k*5+0) (Zo (Xr rs)) [Z4 x1.params] 31 (Z4 x1.params) (UE Wq Z3 0 rfl (V8 rfl))) (Zj 13 14 [11] (da 12 ((((x1.params.length-1):Nat):Int)) (((x1.params.length:Int))-(1)) ?_)))))
   obtain ⟨x2,Zr⟩:=Zt x1.params (x1.params.length-1) om
   refine dx 13 (Zh none (((x1.params.length-1):Nat):Int) 1 (ZY Zr)) (ZJ 7 11 [14,15,16,17] [0] (dx 18 (Wp gb g.funcs.length 4 k 5 (k:Int)) (Zj 5 6 [19] (U7 20 (Vl 1 gb 4 4 5 (k*5+1) (Zo (Xr rs)) [.i x1.result] 3 (.i x1.result) (UE Wq Z3 1 rfl (V8 rfl))) (Zj 3 4 [22] (Z7 21 (Yp 21 [] [] [] (Ro g.decls x2 x1.result) (Zj 0 2 [23,24] (de (ac ((Ud g.decls x2 x1.result)==t) Zp (fun Zg=>?_) (fun Zg=>?_)))))))))))
   ·exact az (Z2 2 (iL (Z6 [(k:Int)]) 1 1 fun v2=>ZP 0 [(50,Z4 [(k:Int)])] (ip 3 (Z6 (ys++[(k:Int)])) (Z6 ys) (Z6 [(k:Int)]) u none 1 (YA _) (YA _) (W6 _) (by simp<;>omega) (by simp [W5,Z6]) fun v3=>Z0 (az (Z2 1 (ZK k (Z0 (ZL ⟨k+1,(ys++[(k:Int)]),v3,ob,ob,(Xz Zw (JO.mk Z3 om Zr Zg)),rfl,rfl,rfl⟩ (wk [2,2,0] (fr (ZO k fl)))))))))))
   exact ak (az (Z2 1 (ZK k (Z0 (ZL ⟨k+1,ys,u,ob,ob,ob,rfl,rfl,rfl⟩ (ZE 3 (fr (ZO k fl))))))))
  have Yh:¬((x1.params.length:Int)>0):=Ya dq Zb
  exact Zj 0 22 [3,4,5,6,7,8,9,10,11,12,13,14,15,16,17,18,19,20,21,22,23,24] (de (We (ak (az (Z2 1 (ZK k (Z0 (ZL ⟨k+1,ys,u,ob,ob,ob,rfl,rfl,rfl⟩ (ZE 3 (fr (ZO k fl)))))))))))
 exact ax 0 (ar (Zq (r2 [1] [ZT ys u] ⟨ys,rfl,rfl,⟨by omega,Zw⟩⟩ (Zd.forget _ _))))
theorem Z68 (vs:LI) (t:Int) (hv:vs.length<=2000:=by exact ob):Zl 295 [Z4 vs,.i t] [] (fun r h=>∃(xs:LI),r=Z4 xs/\h=[]/\xs.length<=vs.length/\∀i∈xs,0<=i/\i<vs.length):=by
 refine ZG 25 Tryz.func295 (ZF (ar (iL (Z6 []) 0 1 fun v1=>?_)))
 refine Z0 (Yb (ab 0 (Y4 (fun fz gz m F h=>∃(k:Nat) (ys:LI) (u:Value),(k<=vs.length)/\(ys.length<=k)/\(∀i∈ys,0<=i/\i<vs.length)/\F=sF [0,1] fz [(5,ZT ys u),(6,.i k)]/\h=[.tail u 1]/\m=vs.length-k) _ _ _ ⟨0,[],v1,ob,ob,(fun i hi=>by cases hi),rfl,rfl,rfl⟩ (wk [0] (fr (Yd fl))) ?_)))
 rintro m F h ⟨k,ys,u,Yg,Zi,Zw,rfl,rfl,rfl⟩
 refine YL 2 (iw (Y6 vs) (Y0 ((k:Int)<(vs.length:Int)) (fun Za=>?_) (fun Za=>?_)))
 ·refine ak (aq (ab 1 (Y5 2 ?_)))
  obtain ⟨x1,Z3⟩:=Zt vs k om
  refine Zm (Zh none (k:Int) 1 (ZY Z3)) (YB (x1==t) Zp (fun Zg=>?_) (fun Zg=>?_))
  ·exact az (Z2 2 (iL (Z6 [(k:Int)]) 1 1 fun v2=>ZP 0 [(22,Z4 [(k:Int)])] (ip 1 (Z6 (ys++[(k:Int)])) (Z6 ys) (Z6 [(k:Int)]) u none 1 (YA _) (YA _) (W6 _) (by simp<;>omega) (by simp [W5,Z6]) fun v3=>Z0 (az (Z2 1 (ZK k (Z0 (ZL ⟨k+1,(ys++[(k:Int)]),v3,ob,ob,(Xz Zw om),rfl,rfl,rfl⟩ (wk [0] (fr (ZO k fl)))))))))))
  exact ak (az (Z2 1 (ZK k (Z0 (ZL ⟨k+1,ys,u,ob,ob,ob,rfl,rfl,rfl⟩ (wk [0] (fr (ZO k fl))))))))
 exact ax 0 (ar (Zq (r2 [] [ZT ys u] ⟨ys,rfl,rfl,⟨by omega,Zw⟩⟩ (Zd.forget _ _))))
theorem Fq (g:W8) (gb:Nat) (rs:List Func) (vs:LI) (t:Int) (hg:GP g:=by exact ob) (Wq:g.funcs <+: rs:=by exact ob) (hv:vs.length<=2000:=by exact ob):Zl 296 [.agg (Ws g gb),Z4 vs,.i t] [XO gb rs] (fun r h=>∃(w:Bool),r=.b w/\h=[XO gb rs]):=by
 have Xt:=hg.decls.ok
 refine ZG 24 Tryz.func296 (ar (iA (Ws g gb) fun b1=>Z0 (Zv 3 [0] (Zz [] (Eg g.decls t) (Z2 2 (ib (b:=(!XX g.decls t)) 12 (fun Zb=>?_) (fun Zb=>?_)))))))
 ·exact Zq (r1 [1] ⟨true,rfl,rfl⟩)
 refine ZM 2 [0] (ic [1] (NA g gb rs t) ?_)
 rintro _ _ ⟨xs1,rfl,rfl,YE⟩
 have qhp3:=YE.1
 refine iw (Y6 xs1) (Z2 3 (ib (b:=(decide ((xs1.length:Int)>0))) 19 (fun ZA=>?_) (fun ZA=>?_)))
 ·exact Zq (r1 [0] ⟨true,rfl,rfl⟩)
 exact Z2 2 (Zz [] (UJ vs t) (Zq (r1 [0] ⟨(decide (t∈vs)),rfl,rfl⟩)))
theorem Z5z (rd:Nat) (bs:LI) (p:Nat) (g:W8) (gb:Nat) (rs:List Func) (t:Int) (ZH:∀z∈bs,0<=z/\z<=255) (hp:p+5+15*rk t<=1000000000) (hg:GP g) (Wq:g.funcs <+: rs) (ih:∀(rd:Nat) (bs:LI) (p:Nat) (t2:Int),(∀z∈bs,0<=z/\z<=255)->(p+5+15*rk t2<=1000000000)->(rk t2<rk t)->Zl 297 [.p rd 0,.agg (Ws g gb),.i t2] [Yx rd bs p,XO gb rs] (fun r h=>∃(e:Z1) (p2:Nat),r=Y3 e/\h=[Yx rd bs p2,XO gb rs]/\SE g (1+3*rk t2) e/\p<=p2/\p2<=p+5+15*rk t2)):Zl 297 [.p rd 0,.agg (Ws g gb),.i t] [Yx rd bs p,XO gb rs] (fun r h=>∃(e:Z1) (p2:Nat),r=Y3 e/\h=[Yx rd bs p2,XO gb rs]/\SE g (1+3*rk t) e/\p<=p2/\p2<=p+5+15*rk t):=by
 have Xt:=hg.decls.ok
 have hgl:=hg.len
 have hrk:=L8 t
 refine ZG 118 Tryz.func297 (ar (iA (Ws g gb) fun b1=>iA [.i 0,.i 0,nl] fun b2=>ie (Zv 3 [1] (ic [] (JI g.decls t) ?_))))
 rintro _ _ ⟨v1,rfl,rfl⟩
 refine Z0 (YL 1 (io (.i (((ZX g.decls t).length:Nat):Int)) (.i (((Z6 (ZX g.decls t)).length:Nat):Int)) (li (by rw [Y6])) (Y0 ((((ZX g.decls t).length:Nat):Int)>0) (fun Za=>?_) (fun Za=>?_))))
 ·refine Y5 1 ?_
  obtain ⟨x1,Z3⟩:=Zt (ZX g.decls t) 0 om
  refine Zm (Zh (some v1) 0 1 (ZY Z3)) (Z0 (aq (aq (XP (fun fz gz F h=>∃(w1:Bool) (p5:Nat),(w1=true->1<(ZX g.decls t).length)/\(p<=p5/\p5<=p+1)/\F=sF [0,2,4,6,8] fz [(7,Z4 (ZX g.decls t)),(34,.b w1)]/\h=[Zc gz 1,Zc gz 2,Yx rd bs p5,Zc gz 4]) ?_ ?_))))
  ·refine az (Z2 1 (io (.i (((ZX g.decls t).length:Nat):Int)) (.i (((Z6 (ZX g.decls t)).length:Nat):Int)) (li (by rw [Y6])) (Z2 2 (ib (b:=(decide ((((ZX g.decls t).length:Nat):Int)>1))) 30 (fun Zb=>?_) (fun Zb=>?_)))))
   ·have ZW:(((ZX g.decls t).length:Nat):Int)>1:=(dq).1 Zb
    refine Z2 1 (ic [3] (W2 rd bs p 4 (ZH:=ob)) ?_)
    rintro _ _ ⟨k1,rfl,rfl,Yh⟩
    have qhp2:=Yh.lt om
    exact Z0 (ZQ ⟨(k1==0),p+1,(by first|exact (fun h=>by cases h)|exact fun _=>by omega),ob,rfl,rfl⟩ (wk [2,2,0,1] fl))
   have YE:¬((((ZX g.decls t).length:Nat):Int)>1):=Ya dq Zb
   exact Z0 (ZQ ⟨false,p,(by first|exact (fun h=>by cases h)|exact fun _=>by omega),ob,rfl,rfl⟩ (wk [1,1,1,1] fl))
  rintro F h ⟨w1,p5,kR4_0,kR4_1,rfl,rfl⟩
  refine XP (fun fz gz F h=>∃(c1:Int),(c1∈ZX g.decls t)/\F=sF [0,2,4,6,7] fz [(8,.i c1)]/\h=gz) ?_ ?_
  ·refine ac w1 Iff.rfl (fun Zg=>?_) (fun Zg=>?_)
   ·refine az (Z2 1 ?_)
    obtain ⟨x2,Zr⟩:=Zt (ZX g.decls t) 1 (kR4_0 (by assumption))
    exact Zm (Zh none 1 1 (ZY Zr)) (Z0 (ZQ ⟨x2,(Y2 Zr),rfl,rfl⟩ (ZE 4 fl)))
   exact ak (ZQ ⟨x1,(Y2 Z3),rfl,rfl⟩ (ZE 4 fl))
  rintro F h ⟨c1,VY,rfl,rfl⟩
  have hcf:=U6 Xt c1
  refine Yi 3 [1] (Zz [] (Kj g.decls c1) (Z2 1 (Zz [] (UJ (ZV g.decls c1) t) (ie (XP (fun fz gz F h=>∃(c2:Int),(Az g.decls t c2)/\F=sF [0,4,6] fz [(8,.i c2)]/\h=gz) ?_ ?_)))))
  ·refine W4 (t∈(ZV g.decls c1)) (fun ZC=>?_) (fun ZC=>?_)
   ·exact az (Z2 1 (Zm (Zh none 0 1 (ZY Z3)) (Z0 (ZQ ⟨x1,(Zbt hg.decls VY (by assumption) Z3),rfl,rfl⟩ (ZE 4 fl)))))
   exact ak (ZQ ⟨c1,(Zbs hg.decls VY (by assumption)),rfl,rfl⟩ (ZE 4 fl))
  rintro F h ⟨c2,CM,rfl,rfl⟩
  obtain ⟨NT,TE,Ad⟩:=CM
  refine ar (iL (Ys []) 0 3 fun v2=>?_)
  refine Z0 (Zv 3 [2] (Zz [] (Kj g.decls c2) (Z0 (Yb (ab 0 (Y4 (fun fz gz m F h=>∃(k:Nat) (ys:List Z1) (u:Value) (pq:Nat),(k<=(ZV g.decls c2).length)/\(ys.length=k)/\(∀e∈ys,SE g 1 e)/\(p<=pq/\pq<=p+1+5*k)/\F=sF [0,4,6,8,10] fz [(9,Qm ys u),(11,.i k)]/\h=[Zc gz 1,Zc gz 2,Yx rd bs pq,Zc gz 4,.tail u 3]/\m=(ZV g.decls c2).length-k) _ _ _ ⟨0,[],v2,p5,ob,ob,(fun e he=>by cases he),ob,rfl,rfl,rfl⟩ (wk [1,1,1,1,0] (fr (Yd fl))) ?_))))))
  rintro m F h ⟨k,ys,u,pq,Yg,Zi,Zw,Yq,rfl,rfl,rfl⟩
  refine YL 2 (io (.i (((ZV g.decls c2).length:Nat):Int)) (.i (((Z6 (ZV g.decls c2)).length:Nat):Int)) (li (by rw [Y6])) (Y0 ((k:Int)<(((ZV g.decls c2).length:Nat):Int)) (fun Ye=>?_) (fun Ye=>?_)))
  ·refine ak (aq (ab 1 (aE 11 (ZJ 6 11 [0,1,2,3,4] [1] ?_))))
   obtain ⟨x3,YI⟩:=Zt (ZV g.decls c2) k om
   have hz3:=PG (Ad _ (Y2 YI))
   refine dx 5 (Zh none (k:Int) 1 (ZY YI)) (Zj 4 5 [6] (Z7 7 (dc 7 [2,2] [] [] (ih rd bs pq x3 ob ob om) ?_)))
   rintro _ _ ⟨e1,p21,rfl,rfl,YN⟩
   have hse:=YN.1
   rw [hz3] at hse
   exact Z7 8 (WC 8 [] [] [Y3 e1] (Ys [e1]) (XN [e1]).symm 1 3 fun v3=>Yr 2 2 [] [(66,Xy [e1])] (Z7 9 (dp 9 5 [] [] (Ys (ys++[e1])) (Ys ys) (Ys [e1]) u none 3 (Tc _) (Tc _) (JB _) (by simp<;>omega) (by simp [JA,Ys]) fun v4=>Zj 0 1 [10] (de (az (Z2 1 (ZK k (Z0 (ZL ⟨k+1,(ys++[e1]),v4,p21,ob,ob,(Xz Zw hse),ob,rfl,rfl,rfl⟩ (wk [4,4,2,2,0] (fr (ZO k fl))))))))))))
  exact ax 0 (ar (ZP 2 [(69,Xy ys)] (Zz [] (XQ 6 c2 ys) (ZI 0 b2 (YX (Z1.mk 6 c2 ys)) (ie (ZD (r3 [2,2] [Y3 (Z1.mk 6 c2 ys)] [0] [(b2,b2)] ⟨(Z1.mk 6 c2 ys),pq,rfl,rfl,⟨SE.node (k:=3*rk t) (.inl rfl) om Zw om om om,by omega⟩⟩ (lr _))))))))
 refine ak (Zv 2 [2] (ic [4] (NA g gb rs t) ?_))
 rintro _ _ ⟨xs1,rfl,rfl,X8⟩
 have hcl:=X8.2
 have hcn:=X8.1
 refine Z0 (X0 (Xo [0,4,6,12] [(80,.b ((decide (t>0))&&(decide ((xs1.length:Int)>0))))] (fun gz=>gz) ?_ ?_))
 ·refine Z2 3 (ib (b:=(decide (t>0))) 76 (fun ZA=>?_) (fun ZA=>?_))
  ·have XJ:t>0:=(dq).1 ZA
   exact Z2 1 (iw (Y6 xs1) (Z0 (ZE 5 (Zu (decide ((xs1.length:Int)>0)) ZA fl))))
  have Wn:¬(t>0):=Ya dq ZA
  exact Z0 (ZE 5 (Zu false ZA fl))
 refine ac ((decide (t>0))&&(decide ((xs1.length:Int)>0))) (p:=(t>0)/\((xs1.length:Int)>0)) (YH dq dq) (fun Xf=>?_) (fun Xf=>?_)
 ·refine Y5 3 (iw (Y6 xs1) (ic [4] (W2 rd bs p (xs1.length:Int) (ZH:=ob)) ?_))
  rintro _ _ ⟨k2,rfl,rfl,WL⟩
  have qhp8:=WL.lt om
  obtain ⟨x4,WE⟩:=Zt xs1 k2.toNat om
  have hclo:=hcl _ (Y2 WE)
  have hcb:=hclo.lt
  refine Zm (Zh none k2 1 (ZY WE)) (Z0 (Zv 3 [4] ?_))
  obtain ⟨x5,Ug⟩:=Zt g.funcs x4.toNat om
  have hso:=(hg.sigs _ (Y2 Ug)).bd
  have hr1:=Zau (t:=t) hg.decls om om
  have hfu:=Ug
  refine Zm (Wp gb g.funcs.length 4 x4.toNat 5 x4) (Z2 1 (V6 (Vl 1 gb 4 4 5 (x4.toNat * 5+0) (Zo (Xr rs)) [Z4 x5.params] 31 (Z4 x5.params) (UE Wq Ug 0 rfl (V8 rfl))) (Z0 (ar (iL (Ys []) 0 3 fun v5=>?_)))))
  refine Z0 (Yb (ab 2 (Y4 (fun fz gz m F h=>∃(k:Nat) (ys:List Z1) (u:Value) (pq:Nat),(k<=x5.params.length)/\(ys.length=k)/\(∀e∈ys,SE g 1 e)/\(p<=pq/\pq<=p+1+5*k)/\F=sF [0,4,6,13,14] fz [(15,Qm ys u),(16,.i k)]/\h=[Yx rd bs pq,Zc gz 2,Zc gz 4,Zc gz 5,.tail u 3]/\m=x5.params.length-k) _ _ _ ⟨0,[],v5,p+1,ob,ob,(fun e he=>by cases he),ob,rfl,rfl,rfl⟩ (wk [1,1,2,2,0] (fr (Yd fl))) ?_)))
  rintro m F h ⟨k,ys,u,pq,Uo,XY,XS,J7,rfl,rfl,rfl⟩
  refine YL 1 (ZK k (Z2 1 (iw (Y6 x5.params) (Y0 (((k+1:Nat):Int)<(x5.params.length:Int)) (fun Xb=>?_) (fun Xb=>?_)))))
  ·refine ak (aq (ab 3 (aE 11 (ZJ 6 11 [0,1,2,3,4] [3] ?_))))
   obtain ⟨x6,BT⟩:=Zt x5.params k om
   have hz3:=hclo.low hg om hfu om BT
   refine dx 5 (Zh none (k:Int) 1 (ZY BT)) (Zj 4 5 [6] (Z7 7 (dc 7 [0,0] [] [] (ih rd bs pq x6 ob ob om) ?_)))
   rintro _ _ ⟨e2,p22,rfl,rfl,V5⟩
   have hse:=V5.1
   rw [hz3] at hse
   exact Z7 8 (WC 8 [] [] [Y3 e2] (Ys [e2]) (XN [e2]).symm 1 3 fun v6=>Yr 2 2 [] [(110,Xy [e2])] (Z7 9 (dp 9 5 [] [] (Ys (ys++[e2])) (Ys ys) (Ys [e2]) u none 3 (Tc _) (Tc _) (JB _) (by simp<;>omega) (by simp [JA,Ys]) fun v7=>Zj 0 1 [10] (de (az (Z2 1 (ZK k (Z0 (ZL ⟨k+1,(ys++[e2]),v7,p22,ob,ob,(Xz XS hse),ob,rfl,rfl,rfl⟩ (wk [2,2,2,2,0] (fr (ZO k fl))))))))))))
  exact ax 2 (ar (ZP 2 [(113,Xy ys)] (Zz [] (XQ 10 x4 ys) (ZI 2 b2 (YX (Z1.mk 10 x4 ys)) (ie (ZD (r3 [1,1] [Y3 (Z1.mk 10 x4 ys)] [0] [(b2,b2)] ⟨(Z1.mk 10 x4 ys),pq,rfl,rfl,⟨SE.node (k:=3) (.inr rfl) om XS om om om,by omega⟩⟩ (lr _))))))))
 refine ak (Y5 1 (ic [4] (NM rd bs p (ZH:=ob)) ?_))
 rintro _ _ ⟨z1,rfl,rfl,Ur⟩
 exact Zz [] (A8 z1) (ZI 3 b2 (YX (Z1.mk 0 z1 [])) (ie (ZD (r3 [1,1] [Y3 (Z1.mk 0 z1 [])] [0] [(b2,b2)] ⟨(Z1.mk 0 z1 []),p+4,rfl,rfl,⟨SE.int om om,by omega⟩⟩ (lr _)))))
theorem Z5y (rd:Nat) (bs:LI) (p:Nat) (g:W8) (gb:Nat) (rs:List Func) (t:Int) (ZH:∀z∈bs,0<=z/\z<=255) (hp:p+5+15*rk t<=1000000000:=by exact ob) (hg:GP g:=by exact ob) (Wq:g.funcs <+: rs:=by exact ob):Zl 297 [.p rd 0,.agg (Ws g gb),.i t] [Yx rd bs p,XO gb rs] (fun r h=>∃(e:Z1) (p2:Nat),r=Y3 e/\h=[Yx rd bs p2,XO gb rs]/\SE g (1+3*rk t) e/\p<=p2/\p2<=p+5+15*rk t):=by
 have key:∀k:Nat,∀(rd:Nat) (bs:LI) (p:Nat) (t2:Int),(∀z∈bs,0<=z/\z<=255)->(p+5+15*rk t2<=1000000000)->(rk t2<k)->Zl 297 [.p rd 0,.agg (Ws g gb),.i t2] [Yx rd bs p,XO gb rs] (fun r h=>∃(e:Z1) (p2:Nat),r=Y3 e/\h=[Yx rd bs p2,XO gb rs]/\SE g (1+3*rk t2) e/\p<=p2/\p2<=p+5+15*rk t2):=by
  intro k
  induction k with
  | zero=>intro rd bs p t2 h1 h2 h3;omega
  | succ k ih=>intro rd bs p t2 h1 h2 h3;exact Z5z rd bs p g gb rs t2 h1 h2 hg Wq fun rd bs p t3 q1 q2 q3=>ih rd bs p t3 q1 q2 om
 exact key 2 rd bs p t ZH hp (by have:=L8 t;omega)
theorem CA (rd:Nat) (bs:LI) (p:Nat) (g:W8) (gb:Nat) (rs:List Func) (vs:LI) (t:Int) (ZH:∀z∈bs,0<=z/\z<=255) (hp:p+30<=1000000000:=by exact ob) (hg:GP g:=by exact ob) (Wq:g.funcs <+: rs:=by exact ob) (hv:vs.length<=2000:=by exact ob):Zl 274 [.p rd 0,.agg (Ws g gb),Z4 vs,.i t] [Yx rd bs p,XO gb rs] (fun r h=>∃(e:Z1) (p2:Nat),r=Y3 e/\h=[Yx rd bs p2,XO gb rs]/\GE g vs.length 4 e/\p<=p2/\p2<=p+30):=by
 have hrk:=L8 t
 refine ZG 40 Tryz.func274 (ar (iA (Ws g gb) fun b1=>iA [.i 0,.i 0,nl] fun b2=>ie (Y5 2 (ic [] (Z68 vs t) ?_))))
 rintro _ _ ⟨xs1,rfl,rfl,ZW⟩
 have hxs:=ZW
 refine Z0 (aq (aq (XP (fun fz gz F h=>∃(wb:Bool) (p5:Nat),(wb=true->0<xs1.length)/\(p<=p5/\p5<=p+1)/\F=sF [0,3,5,8,9] fz [(27,.b wb)]/\h=[Zc gz 0,Zc gz 1,Yx rd bs p5,Zc gz 3]) ?_ ?_)))
 ·refine az (Z2 1 (iw (Y6 xs1) (Z2 2 (ib (b:=(decide ((xs1.length:Int)>0))) 16 (fun Zb=>?_) (fun Zb=>?_)))))
  ·have Yh:(xs1.length:Int)>0:=(dq).1 Zb
   refine Z2 1 (ic [2] (W2 rd bs p 6 (ZH:=ob)) ?_)
   rintro _ _ ⟨k1,rfl,rfl,YE⟩
   have qhp3:=YE.lt om
   refine Z2 2 (ib (b:=(decide (k1>0))) 20 (fun ZA=>?_) (fun ZA=>?_))
   ·have YN:k1>0:=(dq).1 ZA
    exact Z0 (ZQ ⟨true,p+1,(by first|exact (fun h=>Bool.noConfusion h)|exact fun _=>by omega),ob,rfl,rfl⟩ (wk [1,1,0,0] fl))
   have X8:¬(k1>0):=Ya dq ZA
   refine ZM 1 [2] (iL (Z6 []) 0 1 fun v1=>ZP 1 [(22,Z4 [])] (ic [4] (Fq g gb rs [] t) ?_))
   rintro _ _ ⟨w1,rfl,rfl⟩
   exact Z0 (ZQ ⟨(!w1),p+1,(by first|exact (fun h=>Bool.noConfusion h)|exact fun _=>by omega),ob,rfl,rfl⟩ (wk [3,3,2,0] fl))
  have XJ:¬((xs1.length:Int)>0):=Ya dq Zb
  exact Z0 (ZQ ⟨false,p,(by first|exact (fun h=>Bool.noConfusion h)|exact fun _=>by omega),ob,rfl,rfl⟩ (ZE 4 fl))
 rintro F h ⟨wb,p5,kR2_0,kR2_1,rfl,rfl⟩
 refine ac wb Iff.rfl (fun Za=>?_) (fun Za=>?_)
 ·have hk0:=kR2_0 Za
  refine Y5 3 (iw (Y6 xs1) (ic [2] (W2 rd bs p5 (xs1.length:Int) (ZH:=ob)) ?_))
  rintro _ _ ⟨k2,rfl,rfl,Wn⟩
  have qhp7:=Wn.lt om
  obtain ⟨x1,Z3⟩:=Zt xs1 k2.toNat om
  have hxv:=hxs.2 _ (Y2 Z3)
  exact Zm (Zh none k2 1 (ZY Z3)) (Z2 1 (Zz [] (Q4 x1) (ZI 1 b2 (YX (Z1.mk 12 x1 [])) (ie (ZD (r3 [1,2] [Y3 (Z1.mk 12 x1 [])] [0] [(b2,b2)] ⟨(Z1.mk 12 x1 []),p5+1,rfl,rfl,⟨GE.var hxv om om,by omega⟩⟩ (lr _)))))))
 refine ak (Zv 3 [1] (ic [2,2] (Z5y rd bs p5 g gb rs t (ZH:=ob)) ?_))
 rintro _ _ ⟨e1,p21,rfl,rfl,WL⟩
 have hse:=WL.1
 exact ZI 2 b2 (YX e1) (ie (ZD (r3 [1,1] [Y3 e1] [0] [(b2,b2)] ⟨e1,p21,rfl,rfl,⟨hse.ge om,by omega⟩⟩ (lr _))))
theorem Z4e (rd:Nat) (bs:LI) (p:Nat) (g:W8) (gb:Nat) (rs:List Func) (vs:LI) (ZH:∀z∈bs,0<=z/\z<=255) (hp:p+1<=1000000000:=by exact ob) (hg:GP g:=by exact ob) (Wq:g.funcs <+: rs:=by exact ob) (hv:vs.length<=2000:=by exact ob):Zl 289 [.p rd 0,.agg (Ws g gb),Z4 vs] [Yx rd bs p,XO gb rs] (fun r h=>∃(z:Int),r=.i z/\h=[.obj rd [U9 bs,.i (p+1:Nat)],XO gb rs]/\0<=z/\z<=4):=by
 have Xt:=hg.decls.ok
 have hgl:=hg.len
 have hdl:=hg.decls.len
 refine ZG 24 Tryz.func289 (ar (iA (Ws g gb) fun b1=>Z0 (Y5 1 (iL (Z6 [1,1,3,0,2,4,3]) 7 1 fun v1=>ZP 0 [(9,Z4 [1,1,3,0,2,4,3])] (ic [2] (VO rd bs p [1,1,3,0,2,4,3] (ZH:=ob)) ?_)))))
 rintro _ _ ⟨z1,rfl,rfl,ZW⟩
 have hz:=B6 (a:=0) (b:=4) ZW (by decide)
 refine Z0 (aq (aq (XP (fun fz gz F h=>∃(wb:Bool),(True)/\F=sF [7] fz [(22,.b wb)]/\h=[Zc gz 0,Zc gz 3]) ?_ ?_)))
 ·refine az (ZM 3 [2] (iw (Up g.decls) (Z2 2 (ib (b:=(decide (z1>(g.decls.length:Int)))) 16 (fun Zb=>?_) (fun Zb=>?_)))))
  ·exact Z0 (ZQ ⟨true,True.intro,rfl,rfl⟩ (wk [0,2] fl))
  refine ZM 3 [2] (ic [3] (Fq g gb rs vs z1) ?_)
  rintro _ _ ⟨w1,rfl,rfl⟩
  exact Z0 (ZQ ⟨(!w1),True.intro,rfl,rfl⟩ (wk [1,0] fl))
 rintro F h ⟨wb,kR2_0,rfl,rfl⟩
 refine ac wb Iff.rfl (fun Za=>?_) (fun Za=>?_)
 ·exact ar (Zq (r1 [0,0] ⟨1,rfl,rfl,om⟩))
 exact ak (ar (Zq (r1 [0,0] ⟨z1,rfl,rfl,om⟩)))
theorem Z4i (g:W8) (gb:Nat) (rs:List Func) (t:Int) (hg:GP g:=by exact ob) (Wq:g.funcs <+: rs:=by exact ob):Zl 292 [.agg (Ws g gb),.i t] [XO gb rs] (fun r h=>∃(xs:LI),r=Z4 xs/\h=[XO gb rs]/\xs.length<=4/\∀i∈xs,1<=i/\i<g.funcs.length):=by
 have Xt:=hg.decls.ok
 have hgl:=hg.len
 have hdl:=hg.decls.len
 refine ZG 57 Tryz.func292 (ar (iA (Ws g gb) fun b1=>Z0 (ar (iL (Z6 []) 0 1 fun v1=>?_))))
 refine Z0 (Yb (ab 0 (Y4 (fun fz gz m F h=>∃(k:Nat) (ys:LI) (u:Value),(1<=k/\k<=g.funcs.length)/\(ys.length<=k)/\(∀i∈ys,1<=i/\i<g.funcs.length)/\F=sF [1,2] fz [(5,ZT ys u),(6,.i k)]/\h=[Zc gz 1,Zc gz 2,.tail u 1]/\m=g.funcs.length-k) _ _ _ ⟨1,[],v1,ob,ob,(fun i hi=>by cases hi),rfl,rfl,rfl⟩ (wk [1,1,0] (fr (fc (x:=.i 1) li fl))) ?_)))
 rintro m F h ⟨k,ys,u,Yg,Zi,Zw,rfl,rfl,rfl⟩
 refine Yi 3 [0] (io (.i g.funcs.length) (.i g.funcs.length) (lr _) (Y0 ((k:Int)<(g.funcs.length:Int)) (fun Za=>?_) (fun Za=>?_)))
 ·refine ak (aq (ab 1 (Zv 3 [0] ?_)))
  obtain ⟨x1,Z3⟩:=Zt g.funcs k om
  have hso:=(hg.sigs _ (Y2 Z3)).bd
  refine Zm (Wp gb g.funcs.length 4 k 5 (k:Int)) (Z2 1 (V6 (Vl 1 gb 4 4 5 (k*5+1) (Zo (Xr rs)) [.i x1.result] 3 (.i x1.result) (UE Wq Z3 1 rfl (V8 rfl))) (Z0 (Yb (ab 2 (Y4 (fun fz gz m F h=>∃(j:Nat) (wo:Bool),(True)/\F=sF [1,2,5,6] fz [(7,.b wo),(8,.i j)]/\h=gz/\m=x1.params.length-j) _ _ _ ⟨0,(x1.result==t),True.intro,rfl,rfl,rfl⟩ (ZE 3 (fr (Yd fl))) ?_))))))
  rintro m F h ⟨j,wo,Uo,rfl,rfl,rfl⟩
  refine Yi 4 [0] (Zm (Wp gb g.funcs.length 4 k 5 (k:Int)) (Z2 1 (V6 (Vl 1 gb 4 4 5 (k*5+0) (Zo (Xr rs)) [Z4 x1.params] 31 (Z4 x1.params) (UE Wq Z3 0 rfl (V8 rfl))) (iw (Y6 x1.params) (Y0 ((j:Int)<(x1.params.length:Int)) (fun Zg=>?_) (fun Zg=>?_))))))
  ·refine ak (aq (ab 3 (aE 16 (Zj 14 16 [0,1] (db (b:=wo) 37 (fun Zb=>?_) (fun Zb=>?_))))))
   ·refine ZJ 10 14 [2,4,5,6] [0,0] (dx 7 (Wp gb g.funcs.length 4 k 5 (k:Int)) (Zj 8 9 [8] (U7 9 (Vl 1 gb 4 4 5 (k*5+0) (Zo (Xr rs)) [Z4 x1.params] 31 (Z4 x1.params) (UE Wq Z3 0 rfl (V8 rfl))) (Zj 6 7 [10] ?_))))
    obtain ⟨x2,Zr⟩:=Zt x1.params j om
    refine dx 11 (Zh none (j:Int) 1 (ZY Zr)) (Zj 4 5 [12] (Z7 3 (dL 3 [1,0,0] [gb,b1,b1] (Z6 []) 0 1 fun v2=>Yr 3 3 [] [(39,Z4 [])] (Z7 13 (dc 13 [2] [] [] (Fq g gb rs [] x2) ?_)))))
    rintro _ _ ⟨w1,rfl,rfl⟩
    exact Zj 0 2 [14,15] (de (az (Z2 1 (ZK j (Z0 (ZL ⟨j+1,w1,True.intro,rfl,rfl,rfl⟩ (wk [2,0,1] (fr (ZO j fl)))))))))
   exact Zj 0 14 [2,3,4,5,6,7,8,9,10,11,12,13,14,15] (de (az (Z2 1 (ZK j (Z0 (ZL ⟨j+1,false,ob,rfl,rfl,rfl⟩ (ZE 3 (fr (ZO j fl)))))))))
  refine ax 2 (ar (YB wo Iff.rfl (fun ZC=>?_) (fun ZC=>?_)))
  ·exact az (Z2 2 (iL (Z6 [(k:Int)]) 1 1 fun v3=>ZP 0 [(54,Z4 [(k:Int)])] (ip 3 (Z6 (ys++[(k:Int)])) (Z6 ys) (Z6 [(k:Int)]) u none 1 (YA _) (YA _) (W6 _) (by simp<;>omega) (by simp [W5,Z6]) fun v4=>Z0 (az (Z2 1 (ZK k (Z0 (ZL ⟨k+1,(ys++[(k:Int)]),v4,ob,ob,(Xz Zw om),rfl,rfl,rfl⟩ (wk [2,2,0] (fr (ZO k fl)))))))))))
  exact ak (az (Z2 1 (ZK k (Z0 (ZL ⟨k+1,ys,u,ob,ob,ob,rfl,rfl,rfl⟩ (ZE 3 (fr (ZO k fl))))))))
 exact ax 0 (ar (Zq (r2 [1] [ZT ys u] ⟨ys,rfl,rfl,⟨by omega,Zw⟩⟩ (Zd.forget _ _))))
theorem Z5n (e:Z1) (left:Int) (hz:e.sz<=1000000:=by exact ob) (hl:0<=left/\left<=1000:=by exact ob) (ih:∀(e2:Z1) (left:Int),(e2.sz<e.sz)->(0<=left/\left<=1000)->Zl 275 [Y3 e2,.i left] [] (fun r h=>∃(w:Int),r=.i w/\h=[]/\NL e2.sz left w)):Zl 275 [Y3 e,.i left] [] (fun r h=>∃(w:Int),r=.i w/\h=[]/\NL e.sz left w):=by
 have hes:=e.sz_eq
 have hel:=Nf (xs:=e.kids)
 refine ZG 27 Tryz.func275 (ar (iA (YX e) fun b1=>Z0 (X0 (Y0 (left<1) (fun Za=>?_) (fun Za=>?_)))))
 ·exact ar (Zq (r1 [] ⟨(-1),rfl,rfl,(.inr ⟨by omega,rfl⟩)⟩))
 refine ak (Y5 1 (ia ((left-1)) ((left)-(1)) (Z0 (Yb (ab 0 (Y4 (fun fz gz m F h=>∃(k:Nat) (q:Int),(k<=e.kids.length)/\(0<=q/\q+1+Xx (e.kids.take k)=left)/\F=sF [2] fz [(1,.i q),(5,.i k)]/\h=gz/\m=e.kids.length-k) _ _ _ ⟨0,(left-1),ob,(by simp [Xx];omega),rfl,rfl,rfl⟩ (wk [0] (fr (Yd fl))) ?_))))))
 rintro m F h ⟨k,q,Yg,Zi,rfl,rfl,rfl⟩
 refine Yi 3 [0] (iw (HL e.kids) (Y0 ((k:Int)<(e.kids.length:Int)) (fun Zg=>?_) (fun Zg=>?_)))
 ·refine ak (aq (ab 1 (Zv 3 [0] ?_)))
  obtain ⟨x1,Z3⟩:=Zt e.kids k om
  have hks:=BN Z3
  have htk:Xx (e.kids.take (k+1))=Xx (e.kids.take k)+(x1).sz:=by rw [V7 Z3,DB,Xx,Xx];rfl
  have htl:Xx (e.kids.take (k+1))<=Xx e.kids:=by have h:=Ym Xx (Ux (k+1) e.kids);rw [DB] at h;omega
  refine Zm (Zh none (k:Int) 3 (Cu Z3)) (Z2 2 (ic [] (ih x1 q ob ob) ?_))
  rintro _ _ ⟨w1,rfl,rfl,ZW⟩
  have hnl:=ZW
  unfold NL at hnl
  refine Z0 (ar (Y0 (w1<0) (fun ZC=>?_) (fun ZC=>?_)))
  ·exact ar (Zq (r1 [] ⟨(-1),rfl,rfl,(.inr ⟨by omega,rfl⟩)⟩))
  exact ak (az (Z2 1 (ZK k (Z0 (ZL ⟨k+1,w1,ob,ob,rfl,rfl,rfl⟩ (wk [0] (fr (ZO k fl))))))))
 refine ax 0 (ZF ?_)
 have htk:Xx (e.kids.take k)=Xx e.kids:=by rw [Vq om]
 exact ZD (r1 [] ⟨q,rfl,rfl,(.inl ⟨by omega,by omega⟩)⟩)
theorem Z5m (e:Z1) (left:Int) (hz:e.sz<=1000000:=by exact ob) (hl:0<=left/\left<=1000:=by exact ob):Zl 275 [Y3 e,.i left] [] (fun r h=>∃(w:Int),r=.i w/\h=[]/\NL e.sz left w):=by
 have key:∀k:Nat,∀(e2:Z1) (left:Int),(e2.sz<k)->(e2.sz<=1000000)->(0<=left/\left<=1000)->Zl 275 [Y3 e2,.i left] [] (fun r h=>∃(w:Int),r=.i w/\h=[]/\NL e2.sz left w):=by
  intro k
  induction k with
  | zero=>intro e2 left h;omega
  | succ k ih=>intro e2 left h1 h2 h3;exact Z5n e2 left h2 h3 fun e3 l3 q1 q2=>ih e3 l3 om om q2
 exact key (e.sz+1) e left om hz hl
theorem NJ (e:Z1) (hz:e.sz<=1000000:=by exact ob):Zl 232 [Y3 e] [] (fun r h=>∃(w:Int),r=.i w/\h=[]/\((w=e.sz/\e.sz<=30)∨(w=-1/\30<e.sz))):=by
 refine ZG 10 Tryz.func232 (ar (iA (YX e) fun b1=>Z0 (Zv 1 [0] (ic [] (Z5m e 30) ?_))))
 rintro _ _ ⟨w1,rfl,rfl,ZW⟩
 have hnl:=ZW
 unfold NL at hnl
 refine Z0 (X0 (Y0 (w1<0) (fun Za=>?_) (fun Za=>?_)))
 ·exact ar (Zq (r1 [] ⟨(-1),rfl,rfl,ob⟩))
 exact ak (Y5 1 (ia ((30-w1)) ((30)-(w1)) (Zq (r1 [] ⟨(30-w1),rfl,rfl,ob⟩))))
theorem BP (rd:Nat) (bs:LI) (p:Nat) (g:W8) (gb:Nat) (rs:List Func) (vs:LI) (ts:LI) (b:Nat) (bb:Nat) (ZH:∀z∈bs,0<=z/\z<=255) (hp:p+ts.length*bC (b / ts.length)<=1000000000:=by exact ob) (hg:GP g:=by exact ob) (Wq:g.funcs <+: rs:=by exact ob) (hv:vs.length+3*bb<=900:=by exact ob) (ht:ts.length<=3:=by exact ob) (hb:b<bb/\bb<=1000:=by exact ob) (ih:∀(rd:Nat) (bs:LI) (p:Nat) (vs2:LI) (t2:Int) (b2:Nat),(∀z∈bs,0<=z/\z<=255)->(p+bC b2<=1000000000)->(vs2.length+3*b2<=900)->(b2<bb)->Zl 270 [.p rd 0,.agg (Ws g gb),Z4 vs2,.i t2,.i b2] [Yx rd bs p,XO gb rs] (fun r h=>∃(e:Z1) (p2:Nat),r=Y3 e/\h=[Yx rd bs p2,XO gb rs]/\GE g vs2.length (bS b2) e/\p<=p2/\p2<=p+bC b2)):Zl 290 [.p rd 0,.agg (Ws g gb),Z4 vs,Z4 ts,.i b] [Yx rd bs p,XO gb rs] (fun r h=>∃(ys:List Z1) (p2:Nat),r=Xy ys/\h=[Yx rd bs p2,XO gb rs]/\ys.length=ts.length/\(∀e∈ys,GE g vs.length (bS (b / ts.length)) e)/\p<=p2/\p2<=p+ts.length*bC (b / ts.length)):=by
 have hqb:=Nat.div_le_self b ts.length
 refine ZG 36 Tryz.func290 (ar (iA (Ws g gb) fun b1=>Z0 (ar (iL (Ys []) 0 3 fun v1=>?_))))
 refine Z0 (Yb (ab 0 (Y4 (fun fz gz m F h=>∃(k:Nat) (ys:List Z1) (u:Value) (pq:Nat),(k<=ts.length)/\(ys.length=k)/\(∀e∈ys,GE g vs.length (bS (b / ts.length)) e)/\(p<=pq/\pq<=p+k*bC (b / ts.length))/\F=sF [0,2,3,4,6] fz [(11,Qm ys u),(12,.i k)]/\h=[Zc gz 1,Yx rd bs pq,Zc gz 3,.tail u 3]/\m=ts.length-k) _ _ _ ⟨0,[],v1,p,ob,ob,(fun e he=>by cases he),(by simp),rfl,rfl,rfl⟩ (wk [1,1,1,0] (fr (Yd fl))) ?_)))
 rintro m F h ⟨k,ys,u,pq,Yg,Zi,Zw,Yq,rfl,rfl,rfl⟩
 refine YL 2 (iw (Y6 ts) (Y0 ((k:Int)<(ts.length:Int)) (fun Za=>?_) (fun Za=>?_)))
 ·obtain ⟨hm1,hm2⟩:=P3 (k:=k) (L:=ts.length) (C:=bC (b / ts.length)) om
  refine ak (aq (ab 1 (aE 16 (ZJ 10 16 [0,1,2,3,4,5] [0] ?_))))
  obtain ⟨x1,Z3⟩:=Zt ts k om
  refine dx 6 (Zh none (k:Int) 1 (ZY Z3)) (Zj 6 9 [7,8,9] (dw 10 (Y6 ts) (dx 11 (BW b ts.length om om) (Z7 12 (dc 12 [1,1] [] [] (ih rd bs pq vs x1 (b / ts.length) ob ob ob ob) ?_)))))
  rintro _ _ ⟨e1,p21,rfl,rfl,ZW⟩
  have Xg:=ZW.1
  exact Z7 13 (WC 13 [] [] [Y3 e1] (Ys [e1]) (XN [e1]).symm 1 3 fun v2=>Yr 2 2 [] [(33,Xy [e1])] (Z7 14 (dp 14 4 [] [] (Ys (ys++[e1])) (Ys ys) (Ys [e1]) u none 3 (Tc _) (Tc _) (JB _) (by simp<;>omega) (by simp [JA,Ys]) fun v3=>Zj 0 1 [15] (de (az (Z2 1 (ZK k (Z0 (ZL ⟨k+1,(ys++[e1]),v3,p21,ob,ob,(Xz Zw (by assumption)),om,rfl,rfl,rfl⟩ (wk [4,2,2,0] (fr (ZO k fl))))))))))))
 have hke:k=ts.length:=by omega
 subst hke
 exact ax 0 (ar (Zq (r2 [1,1] [Qm ys u] ⟨ys,pq,rfl,rfl,⟨by omega,Zw,by omega⟩⟩ (Zd.forget _ _))))
theorem Z50 (rd:Nat) (bs:LI) (p:Nat) (g:W8) (gb:Nat) (rs:List Func) (vs:LI) (t:Int) (b:Nat) (ZH:∀z∈bs,0<=z/\z<=255) (hp:p+(bC b-1)<=1000000000:=by exact ob) (hg:GP g:=by exact ob) (Wq:g.funcs <+: rs:=by exact ob) (hv:vs.length+3*b<=900:=by exact ob) (hb:3<=b:=by exact ob) (ih:∀(rd:Nat) (bs:LI) (p:Nat) (vs2:LI) (t2:Int) (b2:Nat),(∀z∈bs,0<=z/\z<=255)->(p+bC b2<=1000000000)->(vs2.length+3*b2<=900)->(b2<b)->Zl 270 [.p rd 0,.agg (Ws g gb),Z4 vs2,.i t2,.i b2] [Yx rd bs p,XO gb rs] (fun r h=>∃(e:Z1) (p2:Nat),r=Y3 e/\h=[Yx rd bs p2,XO gb rs]/\GE g vs2.length (bS b2) e/\p<=p2/\p2<=p+bC b2)):Zl 291 [.p rd 0,.agg (Ws g gb),Z4 vs,.i t,.i b] [Yx rd bs p,XO gb rs] (fun r h=>∃(e:Z1) (p2:Nat),r=Y3 e/\h=[Yx rd bs p2,XO gb rs]/\GE g vs.length (bS b) e/\p<=p2/\p2<=p+(bC b-1)):=by
 have Xt:=hg.decls.ok
 have hgl:=hg.len
 have hdl:=hg.decls.len
 have hcm:=Mu b
 refine ZG 69 Tryz.func291 (ar (iA (Ws g gb) fun b1=>iA [.i 0,.i 0,nl] fun b2=>ie (Y5 1 (iL (Z6 [1,1,3,4]) 4 1 fun v1=>ZP 0 [(16,Z4 [1,1,3,4])] (ic [3] (VO rd bs p [1,1,3,4] (ZH:=ob)) ?_)))))
 rintro _ _ ⟨z1,rfl,rfl,ZW⟩
 have hz:=B6 (a:=1) (b:=4) ZW (by decide)
 refine Z0 (Yi 3 [3] (iw (Up g.decls) (Xo [0,2,3,4,6,10,11] [(28,.b ((decide (z1>(g.decls.length:Int)))||XX g.decls z1))] (fun gz=>gz) ?_ ?_)))
 ·refine Z2 2 (ib (b:=(decide (z1>(g.decls.length:Int)))) 23 (fun Zb=>?_) (fun Zb=>?_))
  ·exact Z0 (ZE 5 (Zu true Zb fl))
  exact ZM 3 [3] (Zz [] (Eg g.decls z1) (Z0 (ZE 5 (Zu (XX g.decls z1) Zb fl))))
 refine XP (fun fz gz F h=>∃(d:Int),(1<=d/\d<=4)/\F=sF [0,2,3,4,6,10] fz [(11,.i d)]/\h=[Zc gz 0,Zc gz 2,Zc gz 3,Zc gz 4]) ?_ ?_
 ·refine ac ((decide (z1>(g.decls.length:Int)))||XX g.decls z1) (p:=(z1>(g.decls.length:Int))∨(XX g.decls z1=true)) (Yj dq Iff.rfl) (fun Za=>?_) (fun Za=>?_)
  ·exact UW (ZQ ⟨1,om,rfl,rfl⟩ (wk [0,1,1,1] fl))
  exact ak (ZQ ⟨z1,om,rfl,rfl⟩ (wk [0,1,1,1] fl))
 rintro F h ⟨d,KL,rfl,rfl⟩
 have hcl:=IP Xt d
 have hmc:=Z9b (L:=(ZX g.decls d).length) (q:=((b-2) / (ZX g.decls d).length)) (b:=b) om hb (Q1 _ _)
 have hqb:=Nat.div_le_self (b-2) (ZX g.decls d).length
 refine Zv 3 [2] (ic [] (JI g.decls d) ?_)
 rintro _ _ ⟨v2,rfl,rfl⟩
 refine Z0 (Zv 4 [3] (ic [1,3] (CA rd bs (p+1) g gb rs vs d (ZH:=ob)) ?_))
 rintro _ _ ⟨e1,p21,rfl,rfl,YN⟩
 have hle:=YN.1
 refine UG [Y3 e1] (Ys [e1]) (XN [e1]).symm 1 3 fun v3=>?_
 refine Z0 (Yb (ab 0 (Y4 (fun fz gz m F h=>∃(k:Nat) (ys:List Z1) (u:Value) (pq:Nat),(k<=(ZX g.decls d).length)/\(ys.length=k)/\(QD g.decls g.funcs.length (TT g.decls 8 d vs.length) 1 ys)/\(∀e∈ys,e.sz<=bS ((b-2) / (ZX g.decls d).length))/\(p<=pq/\pq<=p+31+k*bC ((b-2) / (ZX g.decls d).length))/\F=sF [0,2,3,4,6,10,11] fz [(12,Z4 (ZX g.decls d)),(13,Qm (e1::ys) u),(14,.i k)]/\h=[Yx rd bs pq,Zc gz 2,Zc gz 4,Zc gz 5,.tail u 3]/\m=(ZX g.decls d).length-k) _ _ _ ⟨0,[],v3,p21,ob,rfl,True.intro,(fun e he=>by cases he),(by simp only [Nat.zero_mul];omega),rfl,rfl,rfl⟩ (wk [1,1,2,2,0] (fc (x:=ZT (ZX g.decls d) v2) (Zd.forget _ _) (fc (x:=Qm [e1] v3) (Zd.slh _ (Ym Ys rfl)) (Yd fl)))) ?_)))
 rintro m F h ⟨k,ys,u,pq,Yg,Zi,Zw,Yq,XR,rfl,rfl,rfl⟩
 refine YL 2 (io (.i (((ZX g.decls d).length:Nat):Int)) (.i (((Z6 (ZX g.decls d)).length:Nat):Int)) (li (by rw [Y6])) (Y0 ((k:Int)<(((ZX g.decls d).length:Nat):Int)) (fun Zg=>?_) (fun Zg=>?_)))
 ·refine ak (aq (ab 1 (aE 22 (ZJ 14 22 [0,1,2,3,4,5,6,7] [3,3] ?_))))
  obtain ⟨x1,Z3⟩:=Zt (ZX g.decls d) k om
  have hcf:=U6 Xt x1
  have harm:=D3 (m:=vs.length) Z3
  obtain ⟨hm1,hm2⟩:=P3 (k:=k) (L:=(ZX g.decls d).length) (C:=bC ((b-2) / (ZX g.decls d).length)) om
  refine dx 8 (Zh none (k:Int) 1 (ZY Z3)) (Zj 10 13 [9,12,13] (da 14 (((b-2:Nat):Int)) (((b:Int))-(2)) (Zj 8 9 [15] (dn 16 (.i (((ZX g.decls d).length:Nat):Int)) (.i (((Z6 (ZX g.decls d)).length:Nat):Int)) (li (by rw [Y6])) (dx 17 (BW (b-2) ((ZX g.decls d).length) om om) (Z7 10 (Yp 10 [] [3] [b1] (Kj g.decls x1) (Z7 11 (dc 11 [] [3] [b1] (QV vs (ZV g.decls x1)) ?_)))))))))
  rintro _ _ ⟨v4,rfl,rfl⟩
  refine Yr 4 4 [] [(56,Z4 (vs++(ZV g.decls x1)))] (Z7 18 (dc 18 [1,1] [] [] (ih rd bs pq (vs++(ZV g.decls x1)) t ((b-2) / ((ZX g.decls d).length)) ob ob (by simp only [Yw];omega) ob) ?_))
  rintro _ _ ⟨e2,p22,rfl,rfl,X8⟩
  have Xg:=X8.1
  exact Z7 19 (WC 19 [] [] [Y3 e2] (Ys [e2]) (XN [e2]).symm 1 3 fun v5=>Yr 2 2 [] [(64,Xy [e2])] (Z7 20 (dp 20 6 [] [] (Ys ((e1::ys)++[e2])) (Ys (e1::ys)) (Ys [e2]) u none 3 (Tc _) (Tc _) (JB _) (by simp<;>omega) (by simp [JA,Ys]) fun v6=>Zj 0 1 [21] (de (az (Z2 1 (ZK k (Z0 (ZL ⟨k+1,(ys++[e2]),v6,p22,ob,ob,(N8.2 ⟨Zw,by rw [Zi,harm,<-Yw];exact Xg.1,True.intro⟩),(Xz Yq Xg.2),om,rfl,rfl,rfl⟩ (wk [2,2,3,3,0] (fr (fc (x:=Qm ((e1::ys)++[e2]) v6) (Zd.slh _ (Ym Ys rfl)) (ZO k fl)))))))))))))
 refine ax 0 (ar (ZP 2 [(67,Xy (e1::ys))] (Zz [] (XQ 8 d (e1::ys)) (ZI 2 b2 (YX (Z1.mk 8 d (e1::ys))) (ie ?_)))))
 have hke:k=(ZX g.decls d).length:=by omega
 subst hke
 exact ZD (r3 [1,1] [Y3 (Z1.mk 8 d (e1::ys))] [0] [(b2,b2)] ⟨(Z1.mk 8 d (e1::ys)),pq,rfl,rfl,⟨GE.match_ om hle Zw Yq Zi rfl om (Z9c om hb (Q1 _ _)),by omega⟩⟩ (lr _))
theorem ND (rd:Nat) (bs:LI) (p:Nat) (g:W8) (gb:Nat) (rs:List Func) (vs:LI) (t:Int) (b:Nat) (ZH:∀z∈bs,0<=z/\z<=255) (hp:p+(bC b-1)<=1000000000:=by exact ob) (hg:GP g:=by exact ob) (Wq:g.funcs <+: rs:=by exact ob) (hv:vs.length+3*b<=900:=by exact ob) (hb:3<=b:=by exact ob) (ih:∀(rd:Nat) (bs:LI) (p:Nat) (vs2:LI) (t2:Int) (b2:Nat),(∀z∈bs,0<=z/\z<=255)->(p+bC b2<=1000000000)->(vs2.length+3*b2<=900)->(b2<b)->Zl 270 [.p rd 0,.agg (Ws g gb),Z4 vs2,.i t2,.i b2] [Yx rd bs p,XO gb rs] (fun r h=>∃(e:Z1) (p2:Nat),r=Y3 e/\h=[Yx rd bs p2,XO gb rs]/\GE g vs2.length (bS b2) e/\p<=p2/\p2<=p+bC b2)):Zl 293 [.p rd 0,.agg (Ws g gb),Z4 vs,.i t,.i b] [Yx rd bs p,XO gb rs] (fun r h=>∃(e:Z1) (p2:Nat),r=Y3 e/\h=[Yx rd bs p2,XO gb rs]/\GE g vs.length (bS b) e/\p<=p2/\p2<=p+(bC b-1)):=by
 have Xt:=hg.decls.ok
 have hgl:=hg.len
 have hdl:=hg.decls.len
 have hac:=Z01 hb
 have has:=Z02 hb
 refine ZG 120 Tryz.func293 (ar (iA (Ws g gb) fun b1=>iA [.i 0,.i 0,nl] fun b2=>ie (YL 1 (ic [2] (W2 rd bs p 4 (ZH:=ob)) ?_))))
 rintro _ _ ⟨k1,rfl,rfl,ZW⟩
 have qhp1:=ZW.lt om
 refine Z0 (XP (fun fz gz F h=>∃(p5:Nat),(p<=p5/\p5<=p+1)/\F=sF [0,2,3,4,6,10] fz []/\h=[Yx rd bs p5,Zc gz 1,Zc gz 2,Zc gz 3]) ?_ ?_)
 ·refine ac (k1==0) Zp (fun Za=>?_) (fun Za=>?_)
  ·refine ZF (ab 0 (Y4 (fun fz gz m F h=>∃(a:Nat),(1<=a/\a<=g.decls.length+1)/\F=sF [0,2,3,4,6,10] fz [(11,.i a)]/\h=gz/\m=g.decls.length+1-a) _ _ _ ⟨1,ob,rfl,rfl,rfl⟩ (ZE 4 (fc (x:=.i 1) li fl)) ?_))
   rintro m F h ⟨a,Yg,rfl,rfl,rfl⟩
   refine Yi 3 [2] (iw (Up g.decls) (Y0 ((a:Int)<=(g.decls.length:Int)) (fun Zg=>?_) (fun Zg=>?_)))
   ·refine ak (aq (ab 1 (aq (XP (fun fz gz F h=>∃(wb:Bool),(True)/\F=sF [0,2,3,4,6,10,11] fz [(44,.b wb)]/\h=gz) ?_ ?_))))
    ·refine az (ZM 3 [2] (Zz [] (Eg g.decls (a:Int)) (Z2 1 (ib (b:=XX g.decls (a:Int)) 28 (fun Zb=>?_) (fun Zb=>?_)))))
     ·refine ZM 3 [2] (ia (((a-1:Nat):Int)) (((a:Int))-(1)) ?_)
      obtain ⟨x1,Z3⟩:=Zt g.decls (a-1) om
      refine Zm (Zh none ((a-1:Nat):Int) 3 (VN Z3)) (Z2 6 (ib (b:=(x1.to_==t)) 39 (fun ZA=>?_) (fun ZA=>?_)))
      ·refine ZM 3 [2] (ic [3] (Fq g gb rs vs (a:Int)) ?_)
       rintro _ _ ⟨w1,rfl,rfl⟩
       exact Z0 (ZQ ⟨w1,True.intro,rfl,rfl⟩ (wk [1,1,1,0] fl))
      exact Z0 (ZQ ⟨false,True.intro,rfl,rfl⟩ (ZE 4 fl))
     exact Z0 (ZQ ⟨false,True.intro,rfl,rfl⟩ (ZE 4 fl))
    rintro F h ⟨wb,kR5_0,rfl,rfl⟩
    refine ac wb Iff.rfl (fun ZC=>?_) (fun ZC=>?_)
    ·refine aD 21 (ZJ 11 21 [0,1,2,3,5,6,7,8,9,10] [2,2,2] (da 11 (((a-1:Nat):Int)) (((a:Int))-(1)) ?_))
     obtain ⟨x2,Zr⟩:=Zt g.decls (a-1) om
     refine dx 12 (Zh none ((a-1:Nat):Int) 3 (VN Zr)) (Zj 6 9 [13,14,15] (da 16 (((b-2:Nat):Int)) (((b:Int))-(2)) (Z7 4 (dc 4 [0,2] [1,1] [b1,b1] (CA rd bs (p+1) g gb rs vs (a:Int) (ZH:=ob)) ?_))))
     rintro _ _ ⟨e1,p21,rfl,rfl,XJ⟩
     have hle:=XJ.1
     refine Z7 17 (dc 17 [0,0] [] [] (ih rd bs p21 vs x2.frm (b-2) ob ob ob ob) ?_)
     rintro _ _ ⟨e2,p22,rfl,rfl,Wn⟩
     have Xg:=Wn.1
     exact Z7 18 (WC 18 [] [] [Y3 e1,Y3 e2] (Ys [e1,e2]) (XN [e1,e2]).symm 2 3 fun v1=>Yr 2 2 [] [(63,Xy [e1,e2])] (Z7 19 (Yp 19 [] [] [] (XQ 11 0 [e1,e2]) (Z7 20 (YJ 20 3 [] [] b2 (YX (Z1.mk 11 0 [e1,e2])) (de (ZD (r3 [2,2] [Y3 (Z1.mk 11 0 [e1,e2])] [0] [(b2,b2)] ⟨(Z1.mk 11 0 [e1,e2]),p22,rfl,rfl,⟨GE.two om om hle Xg om,by omega⟩⟩ (lr _)))))))))
    exact ak (az (Z2 1 (ZK a (Z0 (ZL ⟨a+1,ob,rfl,rfl,rfl⟩ (ZE 4 (ZO a fl)))))))
   exact ax 0 (ZQ ⟨p+1,ob,rfl,rfl⟩ (ZE 4 fl))
  exact ak (ZQ ⟨p+1,ob,rfl,rfl⟩ (ZE 4 fl))
 rintro F h ⟨p5,KL,rfl,rfl⟩
 refine Zv 3 [2] (ic [] (JI g.decls t) ?_)
 rintro _ _ ⟨v2,rfl,rfl⟩
 refine Z0 (YL 1 (io (.i (((ZX g.decls t).length:Nat):Int)) (.i (((Z6 (ZX g.decls t)).length:Nat):Int)) (li (by rw [Y6])) (Y0 ((((ZX g.decls t).length:Nat):Int)>0) (fun Ye=>?_) (fun Ye=>?_))))
 ·refine Y5 3 (io (.i (((ZX g.decls t).length:Nat):Int)) (.i (((Z6 (ZX g.decls t)).length:Nat):Int)) (li (by rw [Y6])) (ic [1] (W2 rd bs p5 (((ZX g.decls t).length:Nat):Int) (ZH:=ob)) ?_))
  rintro _ _ ⟨k2,rfl,rfl,WL⟩
  have qhp8:=WL.lt om
  obtain ⟨x3,YI⟩:=Zt (ZX g.decls t) k2.toNat om
  have hcc:=hg.decls.cons_cases (Y2 YI)
  refine Zm (Zh (some v2) k2 1 (ZY YI)) (Z0 (aD 13 (ZJ 5 13 [0,1,2,3,4,5,6,8] [3,3] (da 9 (((b-1:Nat):Int)) (((b:Int))-(1)) (Z7 7 (Yp 7 [] [2] [b1] (Kj g.decls x3) (Z7 10 (dc 10 [0,3] [] [] (BP rd bs (p5+1) g gb rs vs (ZV g.decls x3) (b-1) b (ZH:=ob) (hp:=(BX (p:=p) (by first|omega|simp) hb om om)) (ht:=(by first|omega|simp)) (hb:=om) (ih:=ih)) ?_))))))))
  rintro _ _ ⟨ys1,p23,rfl,rfl,V5⟩
  have hga1:=V5.1
  have hga2:=V5.2.1
  have hga3:=V5.2.2
  have hnc:=Ai (b:=b) (show (ys1).length<=3 by rw [hga1];first|omega|simp) hb (Q1 _ (b-1))
  rw [hga1] at hnc
  exact Z7 11 (Yp 11 [] [] [] (XQ 6 x3 ys1) (Z7 12 (YJ 12 3 [] [] b2 (YX (Z1.mk 6 x3 ys1)) (de (ZD (r3 [1,1] [Y3 (Z1.mk 6 x3 ys1)] [0] [(b2,b2)] ⟨(Z1.mk 6 x3 ys1),p23,rfl,rfl,⟨GE.node om (fun h=>by omega) om hga2 hga1 (by first|omega|simp) (DZ (by first|omega|simp) hb (Q1 _ _)),by omega⟩⟩ (lr _)))))))
 refine ak (X0 (Y0 (t>0) (fun Xf=>?_) (fun Xf=>?_)))
 ·refine Zv 4 [3] (ic [1,3] (CA rd bs p5 g gb rs vs t (ZH:=ob)) ?_)
  rintro _ _ ⟨e3,p24,rfl,rfl,Ur⟩
  have hle:=Ur.1
  exact ZI 3 b2 (YX e3) (ie (ZD (r3 [1,1] [Y3 e3] [0] [(b2,b2)] ⟨e3,p24,rfl,rfl,⟨hle.le (Mv b),by omega⟩⟩ (lr _))))
 refine ak (YL 1 (ic [1] (W2 rd bs p5 3 (ZH:=ob)) ?_))
 rintro _ _ ⟨k3,rfl,rfl,Tg⟩
 have qhp11:=Tg.lt om
 refine YB (k3==0) Zp (fun Xb=>?_) (fun Xb=>?_)
 ·refine Zv 3 [3] (iL (Z6 [0]) 1 1 fun v3=>Z2 1 (ia (((b-1:Nat):Int)) (((b:Int))-(1)) (ZP 0 [(104,Z4 [0])] (ic [1,4] (BP rd bs (p5+1) g gb rs vs [0] (b-1) b (ZH:=ob) (hp:=(BX (p:=p) (by first|omega|simp) hb om om)) (ht:=(by first|omega|simp)) (hb:=om) (ih:=ih)) ?_))))
  rintro _ _ ⟨ys2,p25,rfl,rfl,UY⟩
  have hga1:=UY.1
  have hga2:=UY.2.1
  have hga3:=UY.2.2
  have hnc:=Ai (b:=b) (show (ys2).length<=3 by rw [hga1];first|omega|simp) hb (Q1 _ (b-1))
  rw [hga1] at hnc
  exact Zz [] (XQ 5 0 ys2) (ZI 4 b2 (YX (Z1.mk 5 0 ys2)) (ie (ZD (r3 [1,1] [Y3 (Z1.mk 5 0 ys2)] [0] [(b2,b2)] ⟨(Z1.mk 5 0 ys2),p25,rfl,rfl,⟨GE.node om (fun h=>by omega) om hga2 hga1 (by first|omega|simp) (DZ (by first|omega|simp) hb (Q1 _ _)),by omega⟩⟩ (lr _)))))
 refine ak (aD 12 (ZJ 7 12 [0,3,4,5,7] [3] (da 8 (((b-1:Nat):Int)) (((b:Int))-(1)) (Ky (fun fz gz F h=>∃(z1:Int) (ys3:List Z1) (p26:Nat),(z1∈[1,2,3,4])/\(ys3.length=[0,0].length/\(∀e∈ys3,GE g vs.length (bS ((b-1) / [0,0].length)) e)/\((p5+1)+1)<=p26/\p26<=((p5+1)+1)+[0,0].length*bC ((b-1) / [0,0].length))/\F=sF [10] fz []/\h=[.obj b2 (YX (Z1.mk z1 0 ys3)),Yx rd bs p26,Zc gz 4,Zc gz 1,Zc gz 3]) ?_ ?_))))
 ·refine VE 1 6 ?_ ?_
  ·refine dL 1 [2] [b1] (Z6 [1,2,3,4]) 4 1 fun v4=>Yr 5 5 [] [(110,Z4 [1,2,3,4])] (VE 2 6 ?_ ?_)
   ·refine dc 2 [1] [1] [b1] (VO rd bs (p5+1) [1,2,3,4] (ZH:=ob)) ?_
    rintro _ _ ⟨z1,rfl,rfl,Qj⟩
    have hz:=B6 (a:=1) (b:=4) Qj (by decide)
    refine Z7 6 (dL 6 [2] [b1] (Z6 [0,0]) 2 1 fun v5=>Yr 3 3 [] [(115,Z4 [0,0])] (Z7 9 (dc 9 [1,5] [] [] (BP rd bs ((p5+1)+1) g gb rs vs [0,0] (b-1) b (ZH:=ob) (hp:=(BX (p:=p) (by first|omega|simp) hb om om)) (ht:=(by first|omega|simp)) (hb:=om) (ih:=ih)) ?_)))
    rintro _ _ ⟨ys3,p26,rfl,rfl,Q6⟩
    have hga1:=Q6.1
    have hga2:=Q6.2.1
    have hga3:=Q6.2.2
    have hnc:=Ai (b:=b) (show (ys3).length<=3 by rw [hga1];first|omega|simp) hb (Q1 _ (b-1))
    rw [hga1] at hnc
    exact Z7 10 (Yp 10 [] [] [] (XQ z1 0 ys3) (Z7 11 (YJ 11 5 [] [] b2 (YX (Z1.mk z1 0 ys3)) (de (ZQ ⟨z1,ys3,p26,(by assumption),(by assumption),rfl,rfl⟩ (wk [0,0,0,2,2] fl))))))
   refine dL 6 [2] [b1] (Z6 [0,0]) 2 1 fun v6=>Z7 2 (dc 2 [2] [1] [b1] (VO rd bs (p5+1) [1,2,3,4] (ZH:=ob)) ?_)
   rintro _ _ ⟨z2,rfl,rfl,KI⟩
   have hz:=B6 (a:=1) (b:=4) KI (by decide)
   refine Yr 3 3 [] [(115,Z4 [0,0])] (Z7 9 (dc 9 [0,5] [] [] (BP rd bs ((p5+1)+1) g gb rs vs [0,0] (b-1) b (ZH:=ob) (hp:=(BX (p:=p) (by first|omega|simp) hb om om)) (ht:=(by first|omega|simp)) (hb:=om) (ih:=ih)) ?_))
   rintro _ _ ⟨ys4,p27,rfl,rfl,KJ⟩
   have hga1:=KJ.1
   have hga2:=KJ.2.1
   have hga3:=KJ.2.2
   have hnc:=Ai (b:=b) (show (ys4).length<=3 by rw [hga1];first|omega|simp) hb (Q1 _ (b-1))
   rw [hga1] at hnc
   exact Z7 10 (Yp 10 [] [] [] (XQ z2 0 ys4) (Z7 11 (YJ 11 5 [] [] b2 (YX (Z1.mk z2 0 ys4)) (de (ZQ ⟨z2,ys4,p27,(by assumption),(by assumption),rfl,rfl⟩ (wk [0,0,0,2,2] fl))))))
  refine dL 6 [2] [b1] (Z6 [0,0]) 2 1 fun v7=>Z7 1 (dL 1 [2] [b1] (Z6 [1,2,3,4]) 4 1 fun v8=>Yr 4 4 [] [(110,Z4 [1,2,3,4])] (Z7 2 (dc 2 [2] [1] [b1] (VO rd bs (p5+1) [1,2,3,4] (ZH:=ob)) ?_)))
  rintro _ _ ⟨z3,rfl,rfl,AT⟩
  have hz:=B6 (a:=1) (b:=4) AT (by decide)
  refine Yr 3 3 [] [(115,Z4 [0,0])] (Z7 9 (dc 9 [0,5] [] [] (BP rd bs ((p5+1)+1) g gb rs vs [0,0] (b-1) b (ZH:=ob) (hp:=(BX (p:=p) (by first|omega|simp) hb om om)) (ht:=(by first|omega|simp)) (hb:=om) (ih:=ih)) ?_))
  rintro _ _ ⟨ys5,p28,rfl,rfl,Ji⟩
  have hga1:=Ji.1
  have hga2:=Ji.2.1
  have hga3:=Ji.2.2
  have hnc:=Ai (b:=b) (show (ys5).length<=3 by rw [hga1];first|omega|simp) hb (Q1 _ (b-1))
  rw [hga1] at hnc
  exact Z7 10 (Yp 10 [] [] [] (XQ z3 0 ys5) (Z7 11 (YJ 11 5 [] [] b2 (YX (Z1.mk z3 0 ys5)) (de (ZQ ⟨z3,ys5,p28,(by assumption),(by assumption),rfl,rfl⟩ (wk [0,0,0,2,2] fl))))))
 rintro F h ⟨z1,ys3,p26,Qj,Q6,rfl,rfl⟩
 have hz:=B6 (a:=1) (b:=4) Qj (by decide)
 have hga1:=Q6.1
 have hga2:=Q6.2.1
 have hga3:=Q6.2.2
 have hnc:=Ai (b:=b) (show (ys3).length<=3 by rw [hga1];first|omega|simp) hb (Q1 _ (b-1))
 rw [hga1] at hnc
 exact ZD (r3 [1,1] [Y3 (Z1.mk z1 0 ys3)] [0] [(b2,b2)] ⟨(Z1.mk z1 0 ys3),p26,rfl,rfl,⟨GE.node om (fun h=>by omega) om hga2 hga1 (by first|omega|simp) (DZ (by first|omega|simp) hb (Q1 _ _)),by omega⟩⟩ (lr _))
theorem Z51 (rd:Nat) (bs:LI) (p:Nat) (g:W8) (gb:Nat) (rs:List Func) (vs:LI) (t:Int) (b:Nat) (ZH:∀z∈bs,0<=z/\z<=255) (hp:p+bC b<=1000000000) (hg:GP g) (Wq:g.funcs <+: rs) (hv:vs.length+3*b<=900) (ih:∀(rd:Nat) (bs:LI) (p:Nat) (vs2:LI) (t2:Int) (b2:Nat),(∀z∈bs,0<=z/\z<=255)->(p+bC b2<=1000000000)->(vs2.length+3*b2<=900)->(b2<b)->Zl 270 [.p rd 0,.agg (Ws g gb),Z4 vs2,.i t2,.i b2] [Yx rd bs p,XO gb rs] (fun r h=>∃(e:Z1) (p2:Nat),r=Y3 e/\h=[Yx rd bs p2,XO gb rs]/\GE g vs2.length (bS b2) e/\p<=p2/\p2<=p+bC b2)):Zl 270 [.p rd 0,.agg (Ws g gb),Z4 vs,.i t,.i b] [Yx rd bs p,XO gb rs] (fun r h=>∃(e:Z1) (p2:Nat),r=Y3 e/\h=[Yx rd bs p2,XO gb rs]/\GE g vs.length (bS b) e/\p<=p2/\p2<=p+bC b):=by
 have Xt:=hg.decls.ok
 have hgl:=hg.len
 have hdl:=hg.decls.len
 have hbm:=Mv b
 have hcm:=Mu b
 refine ZG 114 Tryz.func270 (ar (iA (Ws g gb) fun b1=>iA [.i 0,.i 0,nl] fun b2=>ie (X0 (Y0 ((b:Int)<3) (fun Za=>?_) (fun Za=>?_)))))
 ·refine Zv 4 [1] (ic [2,2] (CA rd bs p g gb rs vs t (ZH:=ob)) ?_)
  rintro _ _ ⟨e1,p21,rfl,rfl,ZW⟩
  have hle:=ZW.1
  exact ZI 2 b2 (YX e1) (ie (ZD (r3 [1,1] [Y3 e1] [0] [(b2,b2)] ⟨e1,p21,rfl,rfl,⟨hle.le hbm,by omega⟩⟩ (lr _))))
 have hb:3<=b:=by omega
 have hlc:=Z95 hb
 have hls:=Z96 hb
 refine ak (YL 1 (ic [2] (W2 rd bs p 12 (ZH:=ob)) ?_))
 rintro _ _ ⟨k1,rfl,rfl,Yh⟩
 have qhp2:=Yh.lt om
 refine ie (ab 0 (ar (YB (k1==0) Zp (fun Zg=>?_) (fun Zg=>?_))))
 ·refine Zv 4 [2] (ic [0,2] (CA rd bs (p+1) g gb rs vs t (ZH:=ob)) ?_)
  rintro _ _ ⟨e2,p22,rfl,rfl,YE⟩
  have hle:=YE.1
  exact ZI 2 b2 (YX e2) (ie (ZD (r3 [1,1] [Y3 e2] [0] [(b2,b2)] ⟨e2,p22,rfl,rfl,⟨hle.le hbm,by omega⟩⟩ (lr _))))
 refine Yb (XP (fun fz gz F h=>F=sF [0,2,3,4,6,10,22] fz [(30,.b ((k1==1)||(k1==2)))]/\h=gz) ?_ ?_)
 ·refine ac (k1==1) Zp (fun ZC=>?_) (fun ZC=>?_)
  ·exact ak (ZQ ⟨rfl,rfl⟩ (ZE 4 (fc (x:=.b (k1==1)) (lb (by first|rfl|(rw [Ze ZC])|(rw [Z8 ZC])|(simp [ZC];done)|(rw [Xs];simp [ZC];done)|omega)) fl)))
  exact UW (ZQ ⟨rfl,rfl⟩ (ZE 4 (fc (x:=.b (k1==2)) (lb (by first|rfl|(rw [Ze ZC])|(rw [Z8 ZC])|(simp [ZC];done)|(rw [Xs];simp [ZC];done)|omega)) fl)))
 rintro F h ⟨rfl,rfl⟩
 refine ac ((k1==1)||(k1==2)) (p:=(k1=1)∨(k1=2)) (Yj Zp Zp) (fun Ye=>?_) (fun Ye=>?_)
 ·refine Zv 3 [2] (ic [0,2] (Z4e rd bs (p+1) g gb rs vs (ZH:=ob)) ?_)
  rintro _ _ ⟨z1,rfl,rfl,YN⟩
  refine Z0 (aD 20 (ZJ 15 20 [0,1,2,3,4] [3] (dx 5 (BW b 2 om om) (ZJ 8 14 [7,8,9,10,13,14] [3] (dx 15 (BW b 2 om om) (Ky (fun fz gz F h=>∃(e3:Z1) (e4:Z1) (p24:Nat) (p23:Nat),(GE g vs.length (bS (b / 2)) e3/\((p+1)+1)<=p23/\p23<=((p+1)+1)+bC (b / 2))/\(GE g (vs++[z1]).length (bS (b / 2)) e4/\p23<=p24/\p24<=p23+bC (b / 2))/\F=sF [10] fz []/\h=[.obj b2 (YX (Z1.mk 13 0 [e3,e4])),Yx rd bs p24,Zc gz 1,Zc gz 3]) ?_ ?_))))))
  ·refine VE 6 11 ?_ ?_
   ·refine dc 6 [0,0] [1] [b1] (ih rd bs ((p+1)+1) vs z1 (b / 2) ob ob (by first|omega|(simp only [Yw,YR,Xu];omega)) ob) ?_
    rintro _ _ ⟨e3,p23,rfl,rfl,X8⟩
    have hgehp5:=X8.1
    refine Z7 11 (dL 11 [3] [b1] (Z6 [z1]) 1 1 fun v1=>Yr 5 5 [] [(48,Z4 [z1])] (Z7 12 (dc 12 [] [3] [b1] (QV vs [z1]) ?_)))
    rintro _ _ ⟨v2,rfl,rfl⟩
    refine Yr 4 4 [] [(49,Z4 (vs++[z1]))] (Z7 16 (dc 16 [2,2] [] [] (ih rd bs p23 (vs++[z1]) t (b / 2) ob ob (by first|omega|(simp only [Yw,YR,Xu];omega)) ob) ?_))
    rintro _ _ ⟨e4,p24,rfl,rfl,XJ⟩
    have hgehp6:=XJ.1
    exact Z7 17 (WC 17 [] [] [Y3 e3,Y3 e4] (Ys [e3,e4]) (XN [e3,e4]).symm 2 3 fun v3=>Yr 2 2 [] [(54,Xy [e3,e4])] (Z7 18 (Yp 18 [] [] [] (XQ 13 0 [e3,e4]) (Z7 19 (YJ 19 5 [] [] b2 (YX (Z1.mk 13 0 [e3,e4])) (de (ZQ ⟨e3,e4,p24,_,(by assumption),(by assumption),rfl,rfl⟩ (wk [0,1,1,3] fl))))))))
   refine dL 11 [3,3] [b1,b1] (Z6 [z1]) 1 1 fun v4=>Z7 6 (dc 6 [1,1] [1] [b1] (ih rd bs ((p+1)+1) vs z1 (b / 2) ob ob (by first|omega|(simp only [Yw,YR,Xu];omega)) ob) ?_)
   rintro _ _ ⟨e5,p25,rfl,rfl,Wn⟩
   have hgehp7:=Wn.1
   refine Yr 5 5 [] [(48,Z4 [z1])] (Z7 12 (dc 12 [] [3] [b1] (QV vs [z1]) ?_))
   rintro _ _ ⟨v5,rfl,rfl⟩
   refine Yr 4 4 [] [(49,Z4 (vs++[z1]))] (Z7 16 (dc 16 [1,1] [] [] (ih rd bs p25 (vs++[z1]) t (b / 2) ob ob (by first|omega|(simp only [Yw,YR,Xu];omega)) ob) ?_))
   rintro _ _ ⟨e6,p26,rfl,rfl,WL⟩
   have hgehp8:=WL.1
   exact Z7 17 (WC 17 [] [] [Y3 e5,Y3 e6] (Ys [e5,e6]) (XN [e5,e6]).symm 2 3 fun v6=>Yr 2 2 [] [(54,Xy [e5,e6])] (Z7 18 (Yp 18 [] [] [] (XQ 13 0 [e5,e6]) (Z7 19 (YJ 19 5 [] [] b2 (YX (Z1.mk 13 0 [e5,e6])) (de (ZQ ⟨e5,e6,p26,_,(by assumption),(by assumption),rfl,rfl⟩ (wk [0,1,1,3] fl))))))))
  rintro F h ⟨e3,e4,p24,p23,X8,XJ,rfl,rfl⟩
  have hgehp5:=X8.1
  have hgehp6:=XJ.1
  exact ZD (r3 [1,1] [Y3 (Z1.mk 13 0 [e3,e4])] [0] [(b2,b2)] ⟨(Z1.mk 13 0 [e3,e4]),p24,rfl,rfl,⟨GE.let_ (by assumption) (by have h:=‹GE g (vs++[_]).length (bS (b / 2)) _›;rw [Yw] at h;exact h) hls,by omega⟩⟩ (lr _))
 refine ar (YB (k1==3) Zp (fun Xf=>?_) (fun Xf=>?_))
 ·refine Zv 5 [2] (iL (Z6 [0,t,t]) 3 1 fun v7=>Z2 1 (ia (((b-1:Nat):Int)) (((b:Int))-(1)) (ZP 0 [(63,Z4 [0,t,t])] (ic [1,3] (BP rd bs (p+1) g gb rs vs [0,t,t] (b-1) b (ZH:=ob) (hp:=(BX (p:=p) (by first|omega|simp) hb om om)) (ht:=(by first|omega|simp)) (hb:=om) (ih:=ih)) ?_))))
  rintro _ _ ⟨ys1,p27,rfl,rfl,V5⟩
  have hga1:=V5.1
  have hga2:=V5.2.1
  have hga3:=V5.2.2
  have hnc:=Ai (b:=b) (show (ys1).length<=3 by rw [hga1];first|omega|simp) hb (Q1 _ (b-1))
  rw [hga1] at hnc
  exact Zz [] (XQ 7 0 ys1) (ZI 3 b2 (YX (Z1.mk 7 0 ys1)) (ie (ZD (r3 [1,1] [Y3 (Z1.mk 7 0 ys1)] [0] [(b2,b2)] ⟨(Z1.mk 7 0 ys1),p27,rfl,rfl,⟨GE.if_ om hga2 hga1 (DZ (by simp) hb (Q1 3 _)),by omega⟩⟩ (lr _)))))
 refine Yb (XP (fun fz gz F h=>F=sF [0,2,3,4,6,10,22] fz [(68,.b ((k1==4)||((k1==5)||(k1==6))))]/\h=gz) ?_ ?_)
 ·refine ac (k1==4) Zp (fun Xb=>?_) (fun Xb=>?_)
  ·exact ak (ZQ ⟨rfl,rfl⟩ (ZE 4 (fc (x:=.b (k1==4)) (lb (by first|rfl|(rw [Ze Xb])|(rw [Z8 Xb])|(simp [Xb];done)|(rw [Xs];simp [Xb];done)|omega)) fl)))
  refine ar (YB (k1==5) Zp (fun Vu=>?_) (fun Vu=>?_))
  ·exact ak (ZQ ⟨rfl,rfl⟩ (ZE 4 (fc (x:=.b (k1==5)) (lb (by first|rfl|(rw [Ze Xb])|(rw [Z8 Xb])|(simp [Xb,Vu];done)|(rw [Xs];simp [Xb,Vu];done)|omega)) fl)))
  exact UW (ZQ ⟨rfl,rfl⟩ (ZE 4 (fc (x:=.b (k1==6)) (lb (by first|rfl|(rw [Ze Xb])|(rw [Z8 Xb])|(simp [Xb,Vu];done)|(rw [Xs];simp [Xb,Vu];done)|omega)) fl)))
 rintro F h ⟨rfl,rfl⟩
 refine ac ((k1==4)||((k1==5)||(k1==6))) (p:=(k1=4)∨((k1=5)∨(k1=6))) (Yj Zp (Yj Zp Zp)) (fun Vj=>?_) (fun Vj=>?_)
 ·refine Zv 5 [2] (ic [0,2] (Z50 rd bs (p+1) g gb rs vs t b (ZH:=ob) (ih:=ih)) ?_)
  rintro _ _ ⟨e7,p28,rfl,rfl,Ur⟩
  have hgm:=Ur.1
  exact ZI 2 b2 (YX e7) (ie (ZD (r3 [1,1] [Y3 e7] [0] [(b2,b2)] ⟨e7,p28,rfl,rfl,⟨hgm,by omega⟩⟩ (lr _))))
 refine Yb (XP (fun fz gz F h=>F=sF [0,2,3,4,6,10] fz [(78,.b ((k1==7)||(k1==8)))]/\h=gz) ?_ ?_)
 ·refine ac (k1==7) Zp (fun Vk=>?_) (fun Vk=>?_)
  ·exact ak (ZQ ⟨rfl,rfl⟩ (ZE 4 (fc (x:=.b (k1==7)) (lb (by first|rfl|(rw [Ze Vk])|(rw [Z8 Vk])|(simp [Vk];done)|(rw [Xs];simp [Vk];done)|omega)) fl)))
  exact UW (ZQ ⟨rfl,rfl⟩ (ZE 4 (fc (x:=.b (k1==8)) (lb (by first|rfl|(rw [Ze Vk])|(rw [Z8 Vk])|(simp [Vk];done)|(rw [Xs];simp [Vk];done)|omega)) fl)))
 rintro F h ⟨rfl,rfl⟩
 refine ac ((k1==7)||(k1==8)) (p:=(k1=7)∨(k1=8)) (Yj Zp Zp) (fun UX=>?_) (fun UX=>?_)
 ·refine Zv 2 [2] (ic [3] (Z4i g gb rs t) ?_)
  rintro _ _ ⟨xs1,rfl,rfl,Tg⟩
  have hcal:=Tg
  refine Z0 (Y5 1 (iw (Y6 xs1) (Y0 ((xs1.length:Int)>0) (fun Jg=>?_) (fun Jg=>?_))))
  ·refine Y5 3 (iw (Y6 xs1) (ic [1] (W2 rd bs (p+1) (xs1.length:Int) (ZH:=ob)) ?_))
   rintro _ _ ⟨k2,rfl,rfl,UY⟩
   have qhp12:=UY.lt om
   obtain ⟨x1,Z3⟩:=Zt xs1 k2.toNat om
   have hcv:=hcal.2 _ (Y2 Z3)
   refine Zm (Zh none k2 1 (ZY Z3)) (Z0 (aD 15 (ZJ 8 15 [0,1,2,3,4,5,6] [3,3] ?_)))
   obtain ⟨x2,Zr⟩:=Zt g.funcs x1.toNat om
   have hso:=(hg.sigs _ (Y2 Zr)).bd
   refine dx 7 (Wp gb g.funcs.length 4 x1.toNat 5 x1) (Zj 6 7 [8] (U7 9 (Vl 1 gb 4 4 5 (x1.toNat * 5+0) (Zo (Xr rs)) [Z4 x2.params] 31 (Z4 x2.params) (UE Wq Zr 0 rfl (V8 rfl))) (Zj 4 5 [10] (da 11 (((b-1:Nat):Int)) (((b:Int))-(1)) (Z7 12 (dc 12 [0,0] [] [] (BP rd bs ((p+1)+1) g gb rs vs x2.params (b-1) b (ZH:=ob) (hp:=(BX (p:=p) (by first|omega|simp) hb om om)) (ht:=(by first|omega|simp)) (hb:=om) (ih:=ih)) ?_))))))
   rintro _ _ ⟨ys2,p29,rfl,rfl,Qj⟩
   have hga1:=Qj.1
   have hga2:=Qj.2.1
   have hga3:=Qj.2.2
   have hnc:=Ai (b:=b) (show (ys2).length<=3 by rw [hga1];first|omega|simp) hb (Q1 _ (b-1))
   rw [hga1] at hnc
   exact Z7 13 (Yp 13 [] [] [] (XQ 9 x1 ys2) (Z7 14 (YJ 14 2 [] [] b2 (YX (Z1.mk 9 x1 ys2)) (de (ZD (r3 [1,1] [Y3 (Z1.mk 9 x1 ys2)] [0] [(b2,b2)] ⟨(Z1.mk 9 x1 ys2),p29,rfl,rfl,⟨GE.node om (fun _=>by omega) om hga2 hga1 (by first|omega|simp) (DZ (by first|omega|simp) hb (Q1 _ _)),by omega⟩⟩ (lr _)))))))
  refine ak (Zv 5 [3] (ic [1,0] (ND rd bs (p+1) g gb rs vs t b (ZH:=ob) (ih:=ih)) ?_))
  rintro _ _ ⟨e8,p210,rfl,rfl,Q6⟩
  have hgm:=Q6.1
  exact ZI 2 b2 (YX e8) (ie (ZD (r3 [1,1] [Y3 e8] [0] [(b2,b2)] ⟨e8,p210,rfl,rfl,⟨hgm,by omega⟩⟩ (lr _))))
 refine ak (Zv 5 [2] (ic [0,2] (ND rd bs (p+1) g gb rs vs t b (ZH:=ob) (ih:=ih)) ?_))
 rintro _ _ ⟨e9,p211,rfl,rfl,KI⟩
 have hgm:=KI.1
 exact ZI 2 b2 (YX e9) (ie (ZD (r3 [1,1] [Y3 e9] [0] [(b2,b2)] ⟨e9,p211,rfl,rfl,⟨hgm,by omega⟩⟩ (lr _))))
theorem QF (rd:Nat) (bs:LI) (p:Nat) (g:W8) (gb:Nat) (rs:List Func) (vs:LI) (t:Int) (b:Nat) (ZH:∀z∈bs,0<=z/\z<=255) (hp:p+bC b<=1000000000:=by exact ob) (hg:GP g:=by exact ob) (Wq:g.funcs <+: rs:=by exact ob) (hv:vs.length+3*b<=900:=by exact ob):Zl 270 [.p rd 0,.agg (Ws g gb),Z4 vs,.i t,.i b] [Yx rd bs p,XO gb rs] (fun r h=>∃(e:Z1) (p2:Nat),r=Y3 e/\h=[Yx rd bs p2,XO gb rs]/\GE g vs.length (bS b) e/\p<=p2/\p2<=p+bC b):=by
 have key:∀k:Nat,∀(rd:Nat) (bs:LI) (p:Nat) (vs:LI) (t:Int) (b2:Nat),(∀z∈bs,0<=z/\z<=255)->(p+bC b2<=1000000000)->(vs.length+3*b2<=900)->(b2<k)->Zl 270 [.p rd 0,.agg (Ws g gb),Z4 vs,.i t,.i b2] [Yx rd bs p,XO gb rs] (fun r h=>∃(e:Z1) (p2:Nat),r=Y3 e/\h=[Yx rd bs p2,XO gb rs]/\GE g vs.length (bS b2) e/\p<=p2/\p2<=p+bC b2):=by
  intro k
  induction k with
  | zero=>intro rd bs p vs t b2 h1 h2 h3 h4;omega
  | succ k ih=>intro rd bs p vs t b2 h1 h2 h3 h4;exact Z51 rd bs p g gb rs vs t b2 h1 h2 hg Wq h3 fun rd bs p vs t b3 q1 q2 q3 q4=>ih rd bs p vs t b3 q1 q2 q3 om
 exact key (b+1) rd bs p vs t b ZH hp hv om
theorem NC (rd:Nat) (bs:LI) (p:Nat) (g:W8) (gb:Nat) (rs:List Func) (vs:LI) (t:Int) (b:Nat) (ZH:∀z∈bs,0<=z/\z<=255) (hp:p+40000<=1000000000:=by exact ob) (hg:GP g:=by exact ob) (Wq:g.funcs <+: rs:=by exact ob) (hv:vs.length+3*b<=900:=by exact ob) (hb:b<=20:=by exact ob):Zl 231 [.p rd 0,.agg (Ws g gb),Z4 vs,.i t,.i b] [Yx rd bs p,XO gb rs] (fun r h=>∃(e:Z1) (p2:Nat),r=Y3 e/\h=[Yx rd bs p2,XO gb rs]/\GE g vs.length 30 e/\p<=p2/\p2<=p+40000):=by
 have CF:=EG hb
 refine ZG 34 Tryz.func231 (ar (iA (Ws g gb) fun b1=>iA [.i 0,.i 0,nl] fun b2=>ie (Zv 5 [1] (ic [2,2] (QF rd bs p g gb rs vs t b (ZH:=ob)) ?_))))
 rintro _ _ ⟨e1,p21,rfl,rfl,ZW⟩
 have Xg:=ZW.1
 refine iA [.i 0,.i 0,nl] fun b3=>?_
 refine ZI 0 b3 (YX e1) (ie (aq (ab 0 (Y4 (fun fz gz m F h=>∃(bq:Nat) (eQ:Z1) (pq:Nat),(GE g vs.length (bS bq) eQ)/\(bq<=b)/\(p<=pq/\pq+1900*bq<=p+1900*(b+1))/\F=sF [0,2,3,6,10,11] fz [(4,.i bq)]/\h=[.obj b3 (YX eQ),Yx rd bs pq,Zc gz 2,Zc gz 3,Zc gz 4]/\m=bq+1) _ _ _ ⟨b,e1,p21,Xg,ob,ob,rfl,rfl,rfl⟩ (ZE 5 fl) ?_))))
 rintro m F h ⟨bq,eQ,pq,Yg,Zi,Zw,rfl,rfl,rfl⟩
 refine Yi 1 [0] (ic [] (NJ eQ (hz:=(by have h1:=Yg.2;have h2:=(EG (b:=bq) om).1;omega))) ?_)
 rintro _ _ ⟨w1,rfl,rfl,Yh⟩
 have DO:=Yh
 have hq20:=EG (b:=bq) om
 have hq21:=EG (b:=bq / 2) om
 have Xm:=Yg.2
 refine Xo [0,2,3,4,6,10,11] [(24,.b ((decide (w1<0))&&(decide ((bq:Int)>2))))] (fun gz=>gz) ?_ ?_
 ·refine Z2 2 (ib (b:=(decide (w1<0))) 21 (fun Zb=>?_) (fun Zb=>?_))
  ·exact Z0 (ZE 5 (Zu (decide ((bq:Int)>2)) Zb fl))
  exact Z0 (ZE 5 (Zu false Zb fl))
 refine ac ((decide (w1<0))&&(decide ((bq:Int)>2))) (p:=(w1<0)/\((bq:Int)>2)) (YH dq dq) (fun Za=>?_) (fun Za=>?_)
 ·refine ak (ab 1 (Y5 1 (Zm (BW bq 2 om om) (Z0 (az (ZM 5 [4] (ic [1,1] (QF rd bs pq g gb rs vs t (bq / 2) (ZH:=ob)) ?_)))))))
  rintro _ _ ⟨e2,p22,rfl,rfl,X8⟩
  have Xg:=X8.1
  exact ZI 2 b3 (YX e2) (ie (ZL ⟨(bq / 2),e2,p22,Xg,ob,ob,rfl,rfl,rfl⟩ (ZE 5 (fc (x:=.i (bq / 2:Nat)) li fl))))
 exact ax 0 (Zv 1 [0] (ZI 3 b2 (YX eQ) (ie (ZD (r3 [2,2] [Y3 eQ] [0] [(b2,b2)] ⟨eQ,pq,rfl,rfl,⟨⟨Yg.1,by omega⟩,by omega⟩⟩ (lr _))))))
theorem Z5f (rd:Nat) (bs:LI) (p:Nat) (t:Int) (ZH:∀z∈bs,0<=z/\z<=255) (hp:p+14<=1000000000:=by exact ob):Zl 272 [.p rd 0,.i t] [Yx rd bs p] (fun r h=>∃(e:Z1) (p2:Nat),r=Y3 e/\h=[Yx rd bs p2]/\(∀g:W8,SE g 9 e)/\p<=p2/\p2<=p+14):=by
 refine ZG 45 Tryz.func272 (ar (iA [.i 0,.i 0,nl] fun b1=>ie (ar (iL (Ys []) 0 3 fun v1=>ZP 0 [(10,Xy [])] (Zz [] (XQ 6 0 []) (iA [.i 0,.i 0,nl] fun b2=>ZI 0 b2 (YX (Z1.mk 6 0 [])) (ie (X0 (YB (t==3) Zp (fun Za=>?_) (fun Za=>?_))))))))))
 ·refine ar (iL (Ys []) 0 3 fun v2=>ZP 0 [(14,Xy [])] (Zz [] (XQ 6 2 []) (iA [.i 0,.i 0,nl] fun b3=>?_)))
  refine ZI 0 b3 (YX (Z1.mk 6 2 [])) (ie (aD 9 (ZJ 6 9 [0,1,4] [0,0] (Ky (fun fz gz F h=>∃(k1:Int) (b4:Nat),(Pk 9 k1)/\F=sF [0,4,6] fz [(7,.p b4 0)]/\h=[.obj b4 (YX (Z1.mk 6 3 [Z1.mk 6 2 [],Z1.mk 0 k1 [],Z1.mk 6 2 []])),.obj rd [U9 bs,.i (p+1:Nat)],Zc gz 0,Zc gz 1,Zc gz 2,Zc gz 3,Zc gz 4]) ?_ ?_))))
  ·refine VE 2 7 ?_ ?_
   ·refine dc 2 [5] [0,0] [b3,b3] (W2 rd bs p 9 (ZH:=ob)) ?_
    rintro _ _ ⟨k1,rfl,rfl,ZW⟩
    have qhp1:=ZW.lt om
    refine VE 3 7 ?_ ?_
    ·refine Yp 3 [] [1,1] [b3,b3] (A8 k1) (VE 5 7 ?_ ?_)
     ·refine WC 5 [] [] [Y3 (Z1.mk 6 2 []),Y3 (Z1.mk 0 k1 []),Y3 (Z1.mk 6 2 [])] (Ys [Z1.mk 6 2 [],Z1.mk 0 k1 [],Z1.mk 6 2 []]) (XN [Z1.mk 6 2 [],Z1.mk 0 k1 [],Z1.mk 6 2 []]).symm 3 3 fun v3=>Yr 3 3 [] [(21,Xy [Z1.mk 6 2 [],Z1.mk 0 k1 [],Z1.mk 6 2 []])] (VE 6 7 ?_ ?_)
      ·exact Yp 6 [] [] [] (XQ 6 3 [Z1.mk 6 2 [],Z1.mk 0 k1 [],Z1.mk 6 2 []]) (Z7 7 (dA 7 [] [] [.i 0,.i 0,nl] fun b4=>Z7 8 (YJ 8 0 [] [] b4 (YX (Z1.mk 6 3 [Z1.mk 6 2 [],Z1.mk 0 k1 [],Z1.mk 6 2 []])) (de (ZQ ⟨k1,b4,(by assumption),rfl,rfl⟩ (wk [0,1,1,1,1,1,1] fl))))))
      exact dA 7 [] [] [.i 0,.i 0,nl] fun b5=>Z7 6 (Yp 6 [] [] [] (XQ 6 3 [Z1.mk 6 2 [],Z1.mk 0 k1 [],Z1.mk 6 2 []]) (Z7 8 (YJ 8 0 [] [] b5 (YX (Z1.mk 6 3 [Z1.mk 6 2 [],Z1.mk 0 k1 [],Z1.mk 6 2 []])) (de (ZQ ⟨k1,b5,(by assumption),rfl,rfl⟩ (wk [0,1,1,1,1,1,1] fl))))))
     exact dA 7 [1,1] [b3,b3] [.i 0,.i 0,nl] fun b6=>Z7 5 (WC 5 [] [] [Y3 (Z1.mk 6 2 []),Y3 (Z1.mk 0 k1 []),Y3 (Z1.mk 6 2 [])] (Ys [Z1.mk 6 2 [],Z1.mk 0 k1 [],Z1.mk 6 2 []]) (XN [Z1.mk 6 2 [],Z1.mk 0 k1 [],Z1.mk 6 2 []]).symm 3 3 fun v4=>Yr 2 2 [] [(21,Xy [Z1.mk 6 2 [],Z1.mk 0 k1 [],Z1.mk 6 2 []])] (Z7 6 (Yp 6 [] [] [] (XQ 6 3 [Z1.mk 6 2 [],Z1.mk 0 k1 [],Z1.mk 6 2 []]) (Z7 8 (YJ 8 1 [] [] b6 (YX (Z1.mk 6 3 [Z1.mk 6 2 [],Z1.mk 0 k1 [],Z1.mk 6 2 []])) (de (ZQ ⟨k1,b6,(by assumption),rfl,rfl⟩ (wk [0,1,1,1,1,1,1] fl))))))))
    exact dA 7 [1,1] [b3,b3] [.i 0,.i 0,nl] fun b7=>Z7 3 (Yp 3 [] [2,2] [b3,b3] (A8 k1) (Z7 5 (WC 5 [] [] [Y3 (Z1.mk 6 2 []),Y3 (Z1.mk 0 k1 []),Y3 (Z1.mk 6 2 [])] (Ys [Z1.mk 6 2 [],Z1.mk 0 k1 [],Z1.mk 6 2 []]) (XN [Z1.mk 6 2 [],Z1.mk 0 k1 [],Z1.mk 6 2 []]).symm 3 3 fun v5=>Yr 2 2 [] [(21,Xy [Z1.mk 6 2 [],Z1.mk 0 k1 [],Z1.mk 6 2 []])] (Z7 6 (Yp 6 [] [] [] (XQ 6 3 [Z1.mk 6 2 [],Z1.mk 0 k1 [],Z1.mk 6 2 []]) (Z7 8 (YJ 8 1 [] [] b7 (YX (Z1.mk 6 3 [Z1.mk 6 2 [],Z1.mk 0 k1 [],Z1.mk 6 2 []])) (de (ZQ ⟨k1,b7,(by assumption),rfl,rfl⟩ (wk [0,1,1,1,1,1,1] fl))))))))))
   refine dA 7 [0,0] [b3,b3] [.i 0,.i 0,nl] fun b8=>Z7 2 (dc 2 [6] [1,1] [b3,b3] (W2 rd bs p 9 (ZH:=ob)) ?_)
   rintro _ _ ⟨k2,rfl,rfl,Yh⟩
   have qhp2:=Yh.lt om
   exact Z7 3 (Yp 3 [] [2,2] [b3,b3] (A8 k2) (Z7 5 (WC 5 [] [] [Y3 (Z1.mk 6 2 []),Y3 (Z1.mk 0 k2 []),Y3 (Z1.mk 6 2 [])] (Ys [Z1.mk 6 2 [],Z1.mk 0 k2 [],Z1.mk 6 2 []]) (XN [Z1.mk 6 2 [],Z1.mk 0 k2 [],Z1.mk 6 2 []]).symm 3 3 fun v6=>Yr 2 2 [] [(21,Xy [Z1.mk 6 2 [],Z1.mk 0 k2 [],Z1.mk 6 2 []])] (Z7 6 (Yp 6 [] [] [] (XQ 6 3 [Z1.mk 6 2 [],Z1.mk 0 k2 [],Z1.mk 6 2 []]) (Z7 8 (YJ 8 2 [] [] b8 (YX (Z1.mk 6 3 [Z1.mk 6 2 [],Z1.mk 0 k2 [],Z1.mk 6 2 []])) (de (ZQ ⟨k2,b8,(by assumption),rfl,rfl⟩ (wk [0,1,1,1,1,1,1] fl))))))))))
  rintro F h ⟨k1,b4,ZW,rfl,rfl⟩
  have qhp1:=ZW.lt om
  refine aD 8 (ZJ 5 8 [0,1,4] [0,2] (Z7 2 (dc 2 [1] [1,0] [b3,b4] (W2 rd bs (p+1) 9 (ZH:=ob)) ?_)))
  rintro _ _ ⟨k3,rfl,rfl,YE⟩
  have qhp3:=YE.lt om
  exact Z7 3 (Yp 3 [] [2,1] [b3,b4] (A8 k3) (Z7 5 (WC 5 [] [] [Y3 (Z1.mk 6 3 [Z1.mk 6 2 [],Z1.mk 0 k1 [],Z1.mk 6 2 []]),Y3 (Z1.mk 0 k3 []),Y3 (Z1.mk 6 2 [])] (Ys [Z1.mk 6 3 [Z1.mk 6 2 [],Z1.mk 0 k1 [],Z1.mk 6 2 []],Z1.mk 0 k3 [],Z1.mk 6 2 []]) (XN [Z1.mk 6 3 [Z1.mk 6 2 [],Z1.mk 0 k1 [],Z1.mk 6 2 []],Z1.mk 0 k3 [],Z1.mk 6 2 []]).symm 3 3 fun v7=>Yr 2 2 [] [(28,Xy [Z1.mk 6 3 [Z1.mk 6 2 [],Z1.mk 0 k1 [],Z1.mk 6 2 []],Z1.mk 0 k3 [],Z1.mk 6 2 []])] (Z7 6 (Yp 6 [] [] [] (XQ 6 3 [Z1.mk 6 3 [Z1.mk 6 2 [],Z1.mk 0 k1 [],Z1.mk 6 2 []],Z1.mk 0 k3 [],Z1.mk 6 2 []]) (Z7 7 (YJ 7 7 [] [] b1 (YX (Z1.mk 6 3 [Z1.mk 6 3 [Z1.mk 6 2 [],Z1.mk 0 k1 [],Z1.mk 6 2 []],Z1.mk 0 k3 [],Z1.mk 6 2 []])) (de (ZD (r3 [2] [Y3 (Z1.mk 6 3 [Z1.mk 6 3 [Z1.mk 6 2 [],Z1.mk 0 k1 [],Z1.mk 6 2 []],Z1.mk 0 k3 [],Z1.mk 6 2 []])] [0] [(b1,b1)] ⟨(Z1.mk 6 3 [Z1.mk 6 3 [Z1.mk 6 2 [],Z1.mk 0 k1 [],Z1.mk 6 2 []],Z1.mk 0 k3 [],Z1.mk 6 2 []]),(p+1)+1,rfl,rfl,⟨fun g=>SE.three (s1:=4) (s2:=1) (s3:=1) om om (SE.three (s1:=1) (s2:=1) (s3:=1) om om (SE.nil om om om) (SE.int om om) (SE.nil om om om) om) (SE.int om om) (SE.nil om om om) om,by omega⟩⟩ (lr _)))))))))))
 refine ak (Zv 1 [0] (iA [.i 0,.i 0,nl] fun b9=>ZI 0 b9 (YX (Z1.mk 6 0 [])) (ie (YL 1 (ic [4] (W2 rd bs p 3 (ZH:=ob)) ?_)))))
 rintro _ _ ⟨k4,rfl,rfl,YN⟩
 have qhp4:=YN.lt om
 refine ia ((1+k4)) ((1)+(k4)) (Z0 (ab 0 (Y4 (fun fz gz m F h=>∃(j:Int) (eQ:Z1) (pq:Nat),(0<=j/\j<=3)/\(∀g:W8,SE g (7-2*j.toNat) eQ)/\(p+1<=pq/\pq+4*j.toNat<=p+13)/\F=sF [0,4,8] fz [(9,.i j)]/\h=[Yx rd bs pq,.obj b9 (YX eQ),Zc gz 4]/\m=j.toNat) _ _ _ ⟨(1+k4),(Z1.mk 6 0 []),p+1,ob,(fun g=>SE.nil om om om),ob,rfl,rfl,rfl⟩ (wk [0,0,2] fl) ?_)))
 rintro m F h ⟨j,eQ,pq,Yg,Zi,Zw,rfl,rfl,rfl⟩
 refine X0 (Y0 (j>0) (fun Zg=>?_) (fun Zg=>?_))
 ·refine ak (aq (ab 1 (aE 7 (ZJ 5 7 [0,3] [1] (Z7 1 (dc 1 [0] [0] [b9] (NM rd bs pq (ZH:=ob)) ?_))))))
  rintro _ _ ⟨z1,rfl,rfl,X8⟩
  have hz:=X8
  exact Z7 2 (Yp 2 [] [1] [b9] (A8 z1) (Z7 4 (WC 4 [] [] [Y3 (Z1.mk 0 z1 []),Y3 eQ] (Ys [Z1.mk 0 z1 [],eQ]) (XN [Z1.mk 0 z1 [],eQ]).symm 2 3 fun v8=>Yr 2 2 [] [(42,Xy [Z1.mk 0 z1 [],eQ])] (Z7 5 (Yp 5 [] [] [] (XQ 6 1 [Z1.mk 0 z1 [],eQ]) (Z7 6 (YJ 6 2 [] [] b9 (YX (Z1.mk 6 1 [Z1.mk 0 z1 [],eQ])) (de (az (Z2 1 (ia ((j-1)) ((j)-(1)) (Z0 (ZL ⟨(j-1),(Z1.mk 6 1 [Z1.mk 0 z1 [],eQ]),pq+4,ob,(fun g=>SE.two om om (SE.int (q:=1) om om) (Zi g) om),ob,rfl,rfl,rfl⟩ (wk [2,0,1] fl))))))))))))))
 exact ax 0 (Zv 1 [1] (ZI 2 b1 (YX eQ) (ie (ZD (r3 [1] [Y3 eQ] [0] [(b1,b1)] ⟨eQ,pq,rfl,rfl,⟨fun g=>(⟨(Zi g).1,by have:=(Zi g).2;omega⟩:SE g 9 _),by omega⟩⟩ (lr _))))))
theorem Z5i (rd:Nat) (bs:LI) (p:Nat) (g:W8) (gb:Nat) (rs:List Func) (ZH:∀z∈bs,0<=z/\z<=255) (hp:p+1600<=1000000000:=by exact ob) (hg:GP g:=by exact ob) (Wq:g.funcs <+: rs:=by exact ob):Zl 227 [.p rd 0,.agg (Ws g gb)] [Yx rd bs p,XO gb rs] (fun r h=>∃(e:Z1) (p2:Nat),r=Y3 e/\h=[Yx rd bs p2,XO gb rs]/\GE g 0 200 e/\p<=p2/\p2<=p+1600):=by
 have hbv:=Dr
 refine ZG 27 Tryz.func227 (ar (iA (Ws g gb) fun b1=>iA [.i 0,.i 0,nl] fun b2=>ie (Y5 1 (iL (Z6 [1,1,3]) 3 1 fun v1=>ZP 0 [(8,Z4 [1,1,3])] (ic [3] (VO rd bs p [1,1,3] (ZH:=ob)) ?_)))))
 rintro _ _ ⟨z1,rfl,rfl,ZW⟩
 have hz:=B6 (a:=1) (b:=3) ZW (by decide)
 refine Z0 (Zv 3 [3] (iL (Z6 [z1]) 1 1 fun v2=>ZP 0 [(13,Z4 [z1])] (ic [1,4] (QF rd bs (p+1) g gb rs [z1] 0 16 (ZH:=ob) (hv:=(by simp))) ?_)))
 rintro _ _ ⟨e1,p21,rfl,rfl,Yh⟩
 have Xg:=Yh.1
 have QG:=Yh.2
 rw [hbv.2.2.2.1] at Xg
 refine iA [.i 0,.i 0,nl] fun b3=>ZI 0 b3 (YX e1) (ie (YL 1 (ic [1] (W2 rd bs p21 3 (ZH:=ob)) ?_)))
 rintro _ _ ⟨k1,rfl,rfl,YE⟩
 have qhp3:=YE.lt om
 refine Z0 (XP (fun fz gz F h=>∃(eQ:Z1),(GE g 1 151 eQ)/\F=sF [0,4,5,6] fz []/\h=[Zc gz 0,.obj b3 (YX eQ),Zc gz 2,Zc gz 5]) ?_ ?_)
 ·refine ac (k1==0) Zp (fun Za=>?_) (fun Za=>?_)
  ·exact az (ZM 1 [1] (UG [Y3 e1] (Ys [e1]) (XN [e1]).symm 1 3 fun v3=>ZP 0 [(19,Xy [e1])] (Zz [] (XQ 5 0 [e1]) (ZI 2 b3 (YX (Z1.mk 5 0 [e1])) (ie (ZQ ⟨(Z1.mk 5 0 [e1]),(GE.one om om Xg om),rfl,rfl⟩ (wk [2,0,1,3] fl)))))))
  exact ak (ZQ ⟨e1,(GE.le Xg om),rfl,rfl⟩ (wk [0,0,0,2] fl))
 rintro F h ⟨eQ,KL,rfl,rfl⟩
 refine aD 7 (ZJ 4 7 [0,1,3] [1] (Z7 2 (dc 2 [0] [0] [b3] (Z5f rd bs (p21+1) z1 (ZH:=ob)) ?_)))
 rintro _ _ ⟨e2,p22,rfl,rfl,YN⟩
 have hli:=YN.1
 exact Z7 4 (WC 4 [] [] [Y3 e2,Y3 eQ] (Ys [e2,eQ]) (XN [e2,eQ]).symm 2 3 fun v4=>Yr 2 2 [] [(25,Xy [e2,eQ])] (Z7 5 (Yp 5 [] [] [] (XQ 13 0 [e2,eQ]) (Z7 6 (YJ 6 4 [] [] b2 (YX (Z1.mk 13 0 [e2,eQ])) (de (ZD (r3 [2,3] [Y3 (Z1.mk 13 0 [e2,eQ])] [0] [(b2,b2)] ⟨(Z1.mk 13 0 [e2,eQ]),p22,rfl,rfl,⟨GE.letS ((hli g).ge (X5 _)) KL om,by omega⟩⟩ (lr _)))))))))
theorem Z5q (rd:Nat) (bs:LI) (p:Nat) (g:W8) (gb:Nat) (rs:List Func) (f:Func) (i:Int) (w:Int) (ZH:∀z∈bs,0<=z/\z<=255) (hp:p+1000<=1000000000:=by exact ob) (hg:GP g:=by exact ob) (Wq:g.funcs <+: rs:=by exact ob) (hi:0<=i:=by exact ob) (hf:g.funcs[i.toNat]? = some f:=by exact ob) (hw:0<=w/\w<f.params.length:=by exact ob):Zl 228 [.p rd 0,.agg (Ws g gb),.i i,.i w] [Yx rd bs p,XO gb rs] (fun r h=>∃(e:Z1) (p2:Nat),r=Y3 e/\h=[Yx rd bs p2,XO gb rs]/\GE g f.params.length 200 e/\p<=p2/\p2<=p+1000):=by
 obtain ⟨hil,_⟩:=Xp.1 hf
 have hgl:=hg.len
 have hso:=(hg.sigs f (Y2 hf)).bd
 have hbv:=Dr
 refine ZG 136 Tryz.func228 (ar (iA (Ws g gb) fun b1=>iA [.i 0,.i 0,nl] fun b2=>ie (Zv 3 [1] (Zm (Wp gb g.funcs.length 4 i.toNat 5 i) (Z2 1 (V6 (Vl 3 gb 4 4 5 (i.toNat * 5+0) (Zo (Xr rs)) [Z4 f.params] 31 (Z4 f.params) (UE Wq hf 0 rfl (V8 rfl))) (Z0 (Y5 1 (iw (Y6 f.params) (Z0 (Y5 1 (iL (Z6 [0,1]) 2 1 fun v1=>ZP 0 [(26,Z4 [0,1])] (ic [] (QV f.params [0,1]) ?_)))))))))))))
 rintro _ _ ⟨v2,rfl,rfl⟩
 refine Z0 (ar (iL (Ys []) 0 3 fun v3=>?_))
 refine Z0 (Yb (ab 0 (Y4 (fun fz gz m F h=>∃(k:Nat) (ys:List Z1) (u:Value) (pq:Nat),(k<=f.params.length)/\(ys.length=k)/\(∀e∈ys,GE g (f.params.length+2) 3 e)/\(p<=pq/\pq<=p+k)/\F=sF [0,2,3,5,8,9,10] fz [(11,Z4 (f.params++[0,1])),(12,Qm ys u),(13,.i k)]/\h=[Zc gz 3,Zc gz 4,Yx rd bs pq,Zc gz 6,.tail u 3]/\m=f.params.length-k) _ _ _ ⟨0,[],v3,p,ob,ob,(fun e he=>by cases he),ob,rfl,rfl,rfl⟩ (wk [3,3,3,3,0] (fc (x:=ZT (f.params++[0,1]) v2) (Zd.forget _ _) (fr (Yd fl)))) ?_)))
 rintro m F h ⟨k,ys,u,pq,Yg,Zi,Zw,Yq,rfl,rfl,rfl⟩
 refine X0 (Y0 ((k:Int)<(f.params.length:Int)) (fun Za=>?_) (fun Za=>?_))
 ·refine ak (aq (ab 1 (ar (YB ((k:Int)==w) Zp (fun Zg=>?_) (fun Zg=>?_)))))
  ·exact az (Z2 2 (ia (((f.params.length+1:Nat):Int)) (((f.params.length:Int))+(1)) (Zz [] (Q4 ((f.params.length+1:Nat):Int)) (UG [Y3 (Z1.mk 12 ((f.params.length+1:Nat):Int) [])] (Ys [(Z1.mk 12 ((f.params.length+1:Nat):Int) [])]) (XN [(Z1.mk 12 ((f.params.length+1:Nat):Int) [])]).symm 1 3 fun v4=>ZP 0 [(41,Xy [(Z1.mk 12 ((f.params.length+1:Nat):Int) [])])] (ip 5 (Ys (ys++[(Z1.mk 12 ((f.params.length+1:Nat):Int) [])])) (Ys ys) (Ys [(Z1.mk 12 ((f.params.length+1:Nat):Int) [])]) u none 3 (Tc _) (Tc _) (JB _) (by simp<;>omega) (by simp [JA,Ys]) fun v5=>Z0 (az (Z2 1 (ZK k (Z0 (ZL ⟨k+1,(ys++[(Z1.mk 12 ((f.params.length+1:Nat):Int) [])]),v5,pq,ob,ob,(Xz Zw (GE.var om om om)),ob,rfl,rfl,rfl⟩ (wk [2,2,2,2,0] (fw (ZO k fl)))))))))))))
  refine aq (XP (fun fz gz F h=>∃(wb:Bool) (p5:Nat),(pq<=p5/\p5<=pq+1)/\F=sF [0,2,3,5,8,9,10,11,12,13] fz [(52,.b wb)]/\h=[Zc gz 0,Zc gz 1,Yx rd bs p5,Zc gz 3,Zc gz 4]) ?_ ?_)
  ·refine az (Z2 2 ?_)
   obtain ⟨x1,Z3⟩:=Zt f.params k om
   refine Zm (Zh none (k:Int) 1 (ZY Z3)) (Z2 3 (ib (b:=(x1==0)) 48 (fun Zb=>?_) (fun Zb=>?_)))
   ·refine Z2 1 (ic [2] (W2 rd bs pq 2 (ZH:=ob)) ?_)
    rintro _ _ ⟨k1,rfl,rfl,Yh⟩
    have qhp2:=Yh.lt om
    exact Z0 (ZQ ⟨(k1==0),pq+1,om,rfl,rfl⟩ (wk [1,1,0,0,0] fl))
   exact Z0 (ZQ ⟨false,pq,ob,rfl,rfl⟩ (ZE 5 fl))
  rintro F h ⟨wb,p5,kR10_0,rfl,rfl⟩
  refine ac wb Iff.rfl (fun ZC=>?_) (fun ZC=>?_)
  ·exact az (Z2 2 (Zz [] (Q4 (k:Int)) (Z2 1 (Zz [] (Q4 (f.params.length:Int)) (UG [Y3 (Z1.mk 12 (k:Int) []),Y3 (Z1.mk 12 (f.params.length:Int) [])] (Ys [(Z1.mk 12 (k:Int) []),(Z1.mk 12 (f.params.length:Int) [])]) (XN [(Z1.mk 12 (k:Int) []),(Z1.mk 12 (f.params.length:Int) [])]).symm 2 3 fun v6=>ZP 0 [(58,Xy [(Z1.mk 12 (k:Int) []),(Z1.mk 12 (f.params.length:Int) [])])] (Zz [] (XQ 1 0 [(Z1.mk 12 (k:Int) []),(Z1.mk 12 (f.params.length:Int) [])]) (UG [Y3 (Z1.mk 1 0 [(Z1.mk 12 (k:Int) []),(Z1.mk 12 (f.params.length:Int) [])])] (Ys [(Z1.mk 1 0 [(Z1.mk 12 (k:Int) []),(Z1.mk 12 (f.params.length:Int) [])])]) (XN [(Z1.mk 1 0 [(Z1.mk 12 (k:Int) []),(Z1.mk 12 (f.params.length:Int) [])])]).symm 1 3 fun v7=>ZP 0 [(60,Xy [(Z1.mk 1 0 [(Z1.mk 12 (k:Int) []),(Z1.mk 12 (f.params.length:Int) [])])])] (ip 6 (Ys (ys++[(Z1.mk 1 0 [(Z1.mk 12 (k:Int) []),(Z1.mk 12 (f.params.length:Int) [])])])) (Ys ys) (Ys [(Z1.mk 1 0 [(Z1.mk 12 (k:Int) []),(Z1.mk 12 (f.params.length:Int) [])])]) u none 3 (Tc _) (Tc _) (JB _) (by simp<;>omega) (by simp [JA,Ys]) fun v8=>Z0 (az (Z2 1 (ZK k (Z0 (ZL ⟨k+1,(ys++[(Z1.mk 1 0 [(Z1.mk 12 (k:Int) []),(Z1.mk 12 (f.params.length:Int) [])])]),v8,p5,ob,ob,(Xz Zw (GE.two (s1:=1) (s2:=1) om om (GE.var om om om) (GE.var om om om) om)),ob,rfl,rfl,rfl⟩ (wk [3,3,3,3,0] (fw (ZO k fl))))))))))))))))
  exact az (Z2 2 (Zz [] (Q4 (k:Int)) (UG [Y3 (Z1.mk 12 (k:Int) [])] (Ys [(Z1.mk 12 (k:Int) [])]) (XN [(Z1.mk 12 (k:Int) [])]).symm 1 3 fun v9=>ZP 0 [(65,Xy [(Z1.mk 12 (k:Int) [])])] (ip 5 (Ys (ys++[(Z1.mk 12 (k:Int) [])])) (Ys ys) (Ys [(Z1.mk 12 (k:Int) [])]) u none 3 (Tc _) (Tc _) (JB _) (by simp<;>omega) (by simp [JA,Ys]) fun v10=>Z0 (az (Z2 1 (ZK k (Z0 (ZL ⟨k+1,(ys++[(Z1.mk 12 (k:Int) [])]),v10,p5,ob,ob,(Xz Zw (GE.var om om om)),ob,rfl,rfl,rfl⟩ (wk [2,2,2,2,0] (fw (ZO k fl))))))))))))
 refine ax 0 (ar (ZP 2 [(68,Xy ys)] (Zz [] (XQ 9 i ys) (iA [.i 0,.i 0,nl] fun b3=>ZI 0 b3 (YX (Z1.mk 9 i ys)) (ie (Zv 1 [0] (iA [.i 0,.i 0,nl] fun b4=>?_)))))))
 refine ZI 0 b4 (YX (Z1.mk 9 i ys)) (ie (aq (aq (XP (fun fz gz F h=>∃(wb:Bool) (p5:Nat),(pq<=p5/\p5<=pq+1)/\F=sF [0,2,3,5,8,9,10,11,14,15] fz [(82,.b wb)]/\h=[Zc gz 0,Zc gz 1,Zc gz 2,Zc gz 3,Yx rd bs p5,Zc gz 5]) ?_ ?_))))
 ·refine az (ZM 3 [3] (Zm (Wp gb g.funcs.length 4 i.toNat 5 i) (Z2 1 (V6 (Vl 5 gb 4 4 5 (i.toNat * 5+1) (Zo (Xr rs)) [.i f.result] 3 (.i f.result) (UE Wq hf 1 rfl (V8 rfl))) (Z2 2 (ib (b:=(f.result==1)) 78 (fun ZA=>?_) (fun ZA=>?_)))))))
  ·refine Z2 1 (ic [4] (W2 rd bs pq 5 (ZH:=ob)) ?_)
   rintro _ _ ⟨k2,rfl,rfl,X8⟩
   have qhp5:=X8.lt om
   exact Z0 (ZQ ⟨(decide (k2>0)),pq+1,ob,rfl,rfl⟩ (wk [1,1,1,1,0,0] fl))
  exact Z0 (ZQ ⟨false,pq,ob,rfl,rfl⟩ (ZE 6 fl))
 rintro F h ⟨wb,p5,kR15_0,rfl,rfl⟩
 refine XP (fun fz gz F h=>∃(eQ:Z1) (p6:Nat),(GE g (f.params.length+2) 41 eQ)/\(p5<=p6/\p6<=p5+302)/\F=sF [0,2,3,5,8,9,15] fz []/\h=[.obj b4 (YX eQ),Zc gz 2,Zc gz 3,Yx rd bs p6,Zc gz 5]) ?_ ?_
 ·refine ac wb Iff.rfl (fun Ye=>?_) (fun Ye=>?_)
  ·refine Zv 3 [3] (ic [4,4] (QF rd bs p5 g gb rs (f.params++[0,1]) 0 4 (ZH:=ob) (hv:=(by first|omega|(simp only [Yw,YR,Xu];omega)))) ?_)
   rintro _ _ ⟨e1,p21,rfl,rfl,Wn⟩
   have Xg:=Wn.1
   have QG:=Wn.2
   try rw [Yw] at Xg
   rw [hbv.2.1] at Xg
   refine iA [.i 0,.i 0,nl] fun b5=>?_
   refine ZI 0 b5 (YX e1) (ie (aq (aq (XP (fun fz gz F h=>∃(wc:Bool),(True)/\F=sF [0,2,3,5,8,9,10,14,15,16] fz [(94,.b wc)]/\h=gz) ?_ ?_))))
   ·refine az (Z2 3 (ib (b:=(decide ((f.params.length:Int)>1))) 89 (fun Yy=>?_) (fun Yy=>?_)))
    ·refine Z2 1 ?_
     obtain ⟨x2,Zr⟩:=Zt f.params 0 om
     exact Zm (Zh none 0 1 (ZY Zr)) (Z0 (ZQ ⟨(x2==2),ob,rfl,rfl⟩ (ZE 7 fl)))
    exact Z0 (ZQ ⟨false,ob,rfl,rfl⟩ (ZE 7 fl))
   rintro F h ⟨wc,kR17_0,rfl,rfl⟩
   refine XP (fun fz gz F h=>∃(eA:Z1),(GE g (f.params.length+2) 30 eA)/\F=sF [0,2,3,5,8,9,14,15,16] fz []/\h=[.obj b5 (YX eA),Zc gz 1,Zc gz 2,Zc gz 3,Zc gz 4,Zc gz 5,Zc gz 6]) ?_ ?_
   ·refine ac wc Iff.rfl (fun Xf=>?_) (fun Xf=>?_)
    ·exact az (Zz [] (Q4 0) (Z2 1 (Zz [] (Q4 (f.params.length:Int)) (UG [Y3 (Z1.mk 12 0 []),Y3 (Z1.mk 12 (f.params.length:Int) [])] (Ys [Z1.mk 12 0 [],(Z1.mk 12 (f.params.length:Int) [])]) (XN [Z1.mk 12 0 [],(Z1.mk 12 (f.params.length:Int) [])]).symm 2 3 fun v11=>ZP 0 [(98,Xy [Z1.mk 12 0 [],(Z1.mk 12 (f.params.length:Int) [])])] (Zz [] (XQ 11 0 [Z1.mk 12 0 [],(Z1.mk 12 (f.params.length:Int) [])]) (ZI 1 b5 (YX (Z1.mk 11 0 [Z1.mk 12 0 [],(Z1.mk 12 (f.params.length:Int) [])])) (ie (ZQ ⟨(Z1.mk 11 0 [Z1.mk 12 0 [],(Z1.mk 12 (f.params.length:Int) [])]),(GE.two (s1:=1) (s2:=1) om om (GE.var om om om) (GE.var om om om) om),rfl,rfl⟩ (wk [0,1,1,1,1,1,1] fl)))))))))
    exact ak (ZQ ⟨e1,Xg,rfl,rfl⟩ (ZE 7 fl))
   rintro F h ⟨eA,Z85,rfl,rfl⟩
   exact az (ZM 2 [0,4] (UG [Y3 eA,Y3 (Z1.mk 9 i ys)] (Ys [eA,Z1.mk 9 i ys]) (XN [eA,Z1.mk 9 i ys]).symm 2 3 fun v12=>ZP 0 [(102,Xy [eA,Z1.mk 9 i ys])] (Zz [] (XQ 6 1 [eA,Z1.mk 9 i ys]) (ZI 4 b4 (YX (Z1.mk 6 1 [eA,Z1.mk 9 i ys])) (ie (ZQ ⟨(Z1.mk 6 1 [eA,Z1.mk 9 i ys]),p21,(GE.two (s1:=30) (s2:=10) om om Z85 (GE.node (L:=f.params.length) (s:=3) (q:=10) om (fun _=>by omega) om Zw om om om) om),ob,rfl,rfl⟩ (wk [0,5,5,2,2] fl)))))))
  refine Zv 3 [3] (Zm (Wp gb g.funcs.length 4 i.toNat 5 i) (Z2 1 (V6 (Vl 5 gb 4 4 5 (i.toNat * 5+1) (Zo (Xr rs)) [.i f.result] 3 (.i f.result) (UE Wq hf 1 rfl (V8 rfl))) (YB (f.result==0) Zp (fun Xb=>?_) (fun Xb=>?_)))))
  ·refine aE 11 (ZJ 6 11 [0,3,4,5,7] [3,1] (Z7 1 (dL 1 [1,3] [b3,b1] (Z6 [1,2]) 2 1 fun v13=>Yr 5 5 [] [(112,Z4 [1,2])] (Z7 2 (dc 2 [5] [1,3] [b3,b1] (VO rd bs p5 [1,2] (ZH:=ob)) ?_)))))
   rintro _ _ ⟨z1,rfl,rfl,Ur⟩
   have hz:=B6 (a:=1) (b:=2) Ur (by decide)
   refine Z7 6 (dc 6 [0,5] [1] [b3] (QF rd bs (p5+1) g gb rs (f.params++[0,1]) 0 4 (ZH:=ob) (hv:=(by first|omega|(simp only [Yw,YR,Xu];omega)))) ?_)
   rintro _ _ ⟨e2,p22,rfl,rfl,Tg⟩
   have Xg:=Tg.1
   have QG:=Tg.2
   try rw [Yw] at Xg
   rw [hbv.2.1] at Xg
   exact Z7 8 (WC 8 [] [] [Y3 e2,Y3 (Z1.mk 9 i ys)] (Ys [e2,Z1.mk 9 i ys]) (XN [e2,Z1.mk 9 i ys]).symm 2 3 fun v14=>Yr 2 2 [] [(119,Xy [e2,Z1.mk 9 i ys])] (Z7 9 (Yp 9 [] [] [] (XQ z1 0 [e2,Z1.mk 9 i ys]) (Z7 10 (YJ 10 4 [] [] b4 (YX (Z1.mk z1 0 [e2,Z1.mk 9 i ys])) (de (ZQ ⟨(Z1.mk z1 0 [e2,Z1.mk 9 i ys]),p22,(GE.two (s1:=30) (s2:=10) om om Xg (GE.node (L:=f.params.length) (s:=3) (q:=10) om (fun _=>by omega) om Zw om om om) om),ob,rfl,rfl⟩ (wk [0,5,5,1,1] fl))))))))
  exact ak (ZQ ⟨(Z1.mk 9 i ys),p5,(GE.le (GE.node (L:=f.params.length) (s:=3) (q:=10) om (fun _=>by omega) om Zw om om om) om),ob,rfl,rfl⟩ (wk [0,1,1,1,1] fl))
 rintro F h ⟨eQ,p6,QK,Z84,rfl,rfl⟩
 refine aD 16 (ZJ 9 16 [0,2,3,4,5,6,7] [2,2] (dx 8 (Wp gb g.funcs.length 4 i.toNat 5 i) (Zj 7 8 [9] (U7 10 (Vl 4 gb 4 4 5 (i.toNat * 5+1) (Zo (Xr rs)) [.i f.result] 3 (.i f.result) (UE Wq hf 1 rfl (V8 rfl))) (ZJ 5 6 [12] [0] (Z7 1 (Yp 1 [] [0,4,2,2] [b4,gb,b1,b1] (Q4 w) (Z7 11 (dc 11 [3,3] [0] [b4] (QF rd bs p6 g gb rs f.params f.result 4 (ZH:=ob) (hv:=(by first|omega|(simp only [Yw,YR,Xu];omega)))) ?_)))))))))
 rintro _ _ ⟨e3,p23,rfl,rfl,UY⟩
 have Xg:=UY.1
 have QG:=UY.2
 try rw [Yw] at Xg
 rw [hbv.2.1] at Xg
 exact Z7 13 (WC 13 [] [] [Y3 (Z1.mk 12 w []),Y3 e3,Y3 eQ] (Ys [Z1.mk 12 w [],e3,eQ]) (XN [Z1.mk 12 w [],e3,eQ]).symm 3 3 fun v15=>Yr 2 2 [] [(134,Xy [Z1.mk 12 w [],e3,eQ])] (Z7 14 (Yp 14 [] [] [] (XQ 8 1 [Z1.mk 12 w [],e3,eQ]) (Z7 15 (YJ 15 4 [] [] b2 (YX (Z1.mk 8 1 [Z1.mk 12 w [],e3,eQ])) (de (ZD (r3 [2,2] [Y3 (Z1.mk 8 1 [Z1.mk 12 w [],e3,eQ])] [0] [(b2,b2)] ⟨(Z1.mk 8 1 [Z1.mk 12 w [],e3,eQ]),p23,rfl,rfl,⟨GE.matchL hg (s1:=1) (s2:=30) (s3:=41) (GE.var om om om) Xg QK om,by omega⟩⟩ (lr _)))))))))
theorem Z5r (rd:Nat) (bs:LI) (p:Nat) (g:W8) (gb:Nat) (rs:List Func) (f:Func) (i:Int) (ZH:∀z∈bs,0<=z/\z<=255) (hp:p+1000<=1000000000:=by exact ob) (hg:GP g:=by exact ob) (Wq:g.funcs <+: rs:=by exact ob) (hi:0<=i:=by exact ob) (hf:g.funcs[i.toNat]? = some f:=by exact ob) (h0:0<f.params.length:=by exact ob):Zl 229 [.p rd 0,.agg (Ws g gb),.i i] [Yx rd bs p,XO gb rs] (fun r h=>∃(e:Z1) (p2:Nat),r=Y3 e/\h=[Yx rd bs p2,XO gb rs]/\GE g f.params.length 200 e/\p<=p2/\p2<=p+1000):=by
 obtain ⟨hil,_⟩:=Xp.1 hf
 have hgl:=hg.len
 have hso:=(hg.sigs f (Y2 hf)).bd
 have hbv:=Dr
 refine ZG 96 Tryz.func229 (ar (iA (Ws g gb) fun b1=>iA [.i 0,.i 0,nl] fun b2=>ie (Zv 3 [1] (Zm (Wp gb g.funcs.length 4 i.toNat 5 i) (Z2 1 (V6 (Vl 3 gb 4 4 5 (i.toNat * 5+0) (Zo (Xr rs)) [Z4 f.params] 31 (Z4 f.params) (UE Wq hf 0 rfl (V8 rfl))) (Z0 (Y5 1 (iw (Y6 f.params) (Z0 (Y5 1 (Zz [] (Q4 (f.params.length:Int)) (UG [Y3 (Z1.mk 12 (f.params.length:Int) [])] (Ys [(Z1.mk 12 (f.params.length:Int) [])]) (XN [(Z1.mk 12 (f.params.length:Int) [])]).symm 1 3 fun v1=>Z0 (Y5 1 (ia (((f.params.length+2:Nat):Int)) (((f.params.length:Int))+(2)) (Zz [] (Q4 ((f.params.length+2:Nat):Int)) (UG [Y3 (Z1.mk 12 ((f.params.length+2:Nat):Int) [])] (Ys [(Z1.mk 12 ((f.params.length+2:Nat):Int) [])]) (XN [(Z1.mk 12 ((f.params.length+2:Nat):Int) [])]).symm 1 3 fun v2=>?_)))))))))))))))))
 refine Z0 (Yb (ab 0 (Y4 (fun fz gz m F h=>∃(k:Nat) (ys:List Z1) (u:Value) (zs:List Z1) (w:Value),(1<=k/\k<=f.params.length)/\(ys.length=k)/\(zs.length=k)/\(∀e∈ys,GE g (f.params.length+3) 1 e)/\(∀e∈zs,GE g (f.params.length+3) 1 e)/\F=sF [0,2,4,6,7,8] fz [(9,Qm ys u),(10,Qm zs w),(11,.i k)]/\h=[Zc gz 2,Zc gz 3,Zc gz 4,Zc gz 5,.tail u 3,.tail w 3]/\m=f.params.length-k) _ _ _ ⟨1,[(Z1.mk 12 (f.params.length:Int) [])],v1,[(Z1.mk 12 ((f.params.length+2:Nat):Int) [])],v2,ob,ob,ob,(He (GE.var om om om)),(He (GE.var om om om)),rfl,rfl,rfl⟩ (wk [2,2,2,2,1,0] (fw (fc (x:=.i 1) li fl))) ?_)))
 rintro m F h ⟨k,ys,u,zs,w,Yg,Zi,Zw,Yq,XR,rfl,rfl,rfl⟩
 refine X0 (Y0 ((k:Int)<(f.params.length:Int)) (fun Za=>?_) (fun Za=>?_))
 ·exact ak (aq (ab 1 (Y5 2 (Zz [] (Q4 (k:Int)) (UG [Y3 (Z1.mk 12 (k:Int) [])] (Ys [(Z1.mk 12 (k:Int) [])]) (XN [(Z1.mk 12 (k:Int) [])]).symm 1 3 fun v3=>ZP 0 [(38,Xy [(Z1.mk 12 (k:Int) [])])] (ip 5 (Ys (ys++[(Z1.mk 12 (k:Int) [])])) (Ys ys) (Ys [(Z1.mk 12 (k:Int) [])]) u none 3 (Tc _) (Tc _) (JB _) (by simp<;>omega) (by simp [JA,Ys]) fun v4=>Z0 (az (Z2 2 (Zz [] (Q4 (k:Int)) (UG [Y3 (Z1.mk 12 (k:Int) [])] (Ys [(Z1.mk 12 (k:Int) [])]) (XN [(Z1.mk 12 (k:Int) [])]).symm 1 3 fun v5=>ZP 0 [(43,Xy [(Z1.mk 12 (k:Int) [])])] (ip 7 (Ys (zs++[(Z1.mk 12 (k:Int) [])])) (Ys zs) (Ys [(Z1.mk 12 (k:Int) [])]) w none 3 (Tc _) (Tc _) (JB _) (by simp<;>omega) (by simp [JA,Ys]) fun v6=>Z0 (az (Z2 1 (ZK k (Z0 (ZL ⟨k+1,(ys++[(Z1.mk 12 (k:Int) [])]),v4,(zs++[(Z1.mk 12 (k:Int) [])]),v6,ob,ob,ob,(Xz Yq (GE.var om om om)),(Xz XR (GE.var om om om)),rfl,rfl,rfl⟩ (wk [4,4,4,4,2,0] (fw (ZO k fl)))))))))))))))))))
 refine ax 0 (ar (ZP 2 [(46,Xy ys)] (Zz [] (XQ 9 i ys) (iA [.i 0,.i 0,nl] fun b3=>ZI 0 b3 (YX (Z1.mk 9 i ys)) (ie (ar (ZP 2 [(49,Xy zs)] (Zz [] (XQ 9 i zs) (iA [.i 0,.i 0,nl] fun b4=>?_)))))))))
 refine ZI 0 b4 (YX (Z1.mk 9 i zs)) (ie (aD 14 (ZJ 9 14 [0,1,2,3,7] [1,3,0] (Ky (fun fz gz F h=>∃(e1:Z1) (p21:Nat) (b5:Nat),(GE g (f.params++[3,0,3]).length (bS 4) e1/\p<=p21/\p21<=p+bC 4)/\F=sF [0,2,4,6,7,8,12] fz [(14,.p b5 0)]/\h=[.obj b5 (YX (Z1.mk 1 0 [Z1.mk 9 i ys,Z1.mk 1 0 [e1,Z1.mk 9 i zs]])),Yx rd bs p21,Zc gz 5,Zc gz 0,Zc gz 1,Zc gz 2,Zc gz 3,Zc gz 6,Zc gz 7]) ?_ ?_))))
 ·refine VE 4 12 ?_ ?_
  ·refine dL 4 [0,3,1] [b4,b1,b3] (Z6 [3,0,3]) 3 1 fun v7=>Yr 8 8 [] [(55,Z4 [3,0,3])] (VE 5 12 ?_ ?_)
   ·refine dc 5 [] [0,3,1] [b4,b1,b3] (QV f.params [3,0,3]) ?_
    rintro _ _ ⟨v8,rfl,rfl⟩
    refine Yr 7 7 [] [(56,Z4 (f.params++[3,0,3]))] (VE 6 12 ?_ ?_)
    ·refine dc 6 [6,6] [0,1] [b4,b3] (QF rd bs p g gb rs (f.params++[3,0,3]) 0 4 (ZH:=ob) (hv:=(by first|omega|(simp only [Yw,YR,Xu];omega)))) ?_
     rintro _ _ ⟨e1,p21,rfl,rfl,ZW⟩
     have Xg:=ZW.1
     have QG:=ZW.2
     try rw [Yw] at Xg
     rw [hbv.2.1] at Xg
     refine VE 8 12 ?_ ?_
     ·refine WC 8 [3] [b3] [Y3 e1,Y3 (Z1.mk 9 i zs)] (Ys [e1,Z1.mk 9 i zs]) (XN [e1,Z1.mk 9 i zs]).symm 2 3 fun v9=>Yr 5 5 [] [(59,Xy [e1,Z1.mk 9 i zs])] (VE 9 12 ?_ ?_)
      ·refine Yp 9 [] [3] [b3] (XQ 1 0 [e1,Z1.mk 9 i zs]) (VE 10 12 ?_ ?_)
       ·refine WC 10 [] [] [Y3 (Z1.mk 9 i ys),Y3 (Z1.mk 1 0 [e1,Z1.mk 9 i zs])] (Ys [Z1.mk 9 i ys,Z1.mk 1 0 [e1,Z1.mk 9 i zs]]) (XN [Z1.mk 9 i ys,Z1.mk 1 0 [e1,Z1.mk 9 i zs]]).symm 2 3 fun v10=>Yr 3 3 [] [(61,Xy [Z1.mk 9 i ys,Z1.mk 1 0 [e1,Z1.mk 9 i zs]])] (VE 11 12 ?_ ?_)
        ·exact Yp 11 [] [] [] (XQ 1 0 [Z1.mk 9 i ys,Z1.mk 1 0 [e1,Z1.mk 9 i zs]]) (Z7 12 (dA 12 [] [] [.i 0,.i 0,nl] fun b5=>Z7 13 (YJ 13 0 [] [] b5 (YX (Z1.mk 1 0 [Z1.mk 9 i ys,Z1.mk 1 0 [e1,Z1.mk 9 i zs]])) (de (ZQ ⟨e1,p21,b5,(by assumption),rfl,rfl⟩ (wk [0,2,2,4,4,4,4,4,4] fl))))))
        exact dA 12 [] [] [.i 0,.i 0,nl] fun b6=>Z7 11 (Yp 11 [] [] [] (XQ 1 0 [Z1.mk 9 i ys,Z1.mk 1 0 [e1,Z1.mk 9 i zs]]) (Z7 13 (YJ 13 0 [] [] b6 (YX (Z1.mk 1 0 [Z1.mk 9 i ys,Z1.mk 1 0 [e1,Z1.mk 9 i zs]])) (de (ZQ ⟨e1,p21,b6,(by assumption),rfl,rfl⟩ (wk [0,2,2,4,4,4,4,4,4] fl))))))
       exact dA 12 [3] [b3] [.i 0,.i 0,nl] fun b7=>Z7 10 (WC 10 [] [] [Y3 (Z1.mk 9 i ys),Y3 (Z1.mk 1 0 [e1,Z1.mk 9 i zs])] (Ys [Z1.mk 9 i ys,Z1.mk 1 0 [e1,Z1.mk 9 i zs]]) (XN [Z1.mk 9 i ys,Z1.mk 1 0 [e1,Z1.mk 9 i zs]]).symm 2 3 fun v11=>Yr 2 2 [] [(61,Xy [Z1.mk 9 i ys,Z1.mk 1 0 [e1,Z1.mk 9 i zs]])] (Z7 11 (Yp 11 [] [] [] (XQ 1 0 [Z1.mk 9 i ys,Z1.mk 1 0 [e1,Z1.mk 9 i zs]]) (Z7 13 (YJ 13 1 [] [] b7 (YX (Z1.mk 1 0 [Z1.mk 9 i ys,Z1.mk 1 0 [e1,Z1.mk 9 i zs]])) (de (ZQ ⟨e1,p21,b7,(by assumption),rfl,rfl⟩ (wk [0,2,2,4,4,4,4,4,4] fl))))))))
      exact dA 12 [3] [b3] [.i 0,.i 0,nl] fun b8=>Z7 9 (Yp 9 [] [4] [b3] (XQ 1 0 [e1,Z1.mk 9 i zs]) (Z7 10 (WC 10 [] [] [Y3 (Z1.mk 9 i ys),Y3 (Z1.mk 1 0 [e1,Z1.mk 9 i zs])] (Ys [Z1.mk 9 i ys,Z1.mk 1 0 [e1,Z1.mk 9 i zs]]) (XN [Z1.mk 9 i ys,Z1.mk 1 0 [e1,Z1.mk 9 i zs]]).symm 2 3 fun v12=>Yr 2 2 [] [(61,Xy [Z1.mk 9 i ys,Z1.mk 1 0 [e1,Z1.mk 9 i zs]])] (Z7 11 (Yp 11 [] [] [] (XQ 1 0 [Z1.mk 9 i ys,Z1.mk 1 0 [e1,Z1.mk 9 i zs]]) (Z7 13 (YJ 13 1 [] [] b8 (YX (Z1.mk 1 0 [Z1.mk 9 i ys,Z1.mk 1 0 [e1,Z1.mk 9 i zs]])) (de (ZQ ⟨e1,p21,b8,(by assumption),rfl,rfl⟩ (wk [0,2,2,4,4,4,4,4,4] fl))))))))))
     exact dA 12 [2,3] [b4,b3] [.i 0,.i 0,nl] fun b9=>Z7 8 (WC 8 [4] [b3] [Y3 e1,Y3 (Z1.mk 9 i zs)] (Ys [e1,Z1.mk 9 i zs]) (XN [e1,Z1.mk 9 i zs]).symm 2 3 fun v13=>Yr 4 4 [] [(59,Xy [e1,Z1.mk 9 i zs])] (Z7 9 (Yp 9 [] [4] [b3] (XQ 1 0 [e1,Z1.mk 9 i zs]) (Z7 10 (WC 10 [] [] [Y3 (Z1.mk 9 i ys),Y3 (Z1.mk 1 0 [e1,Z1.mk 9 i zs])] (Ys [Z1.mk 9 i ys,Z1.mk 1 0 [e1,Z1.mk 9 i zs]]) (XN [Z1.mk 9 i ys,Z1.mk 1 0 [e1,Z1.mk 9 i zs]]).symm 2 3 fun v14=>Yr 2 2 [] [(61,Xy [Z1.mk 9 i ys,Z1.mk 1 0 [e1,Z1.mk 9 i zs]])] (Z7 11 (Yp 11 [] [] [] (XQ 1 0 [Z1.mk 9 i ys,Z1.mk 1 0 [e1,Z1.mk 9 i zs]]) (Z7 13 (YJ 13 2 [] [] b9 (YX (Z1.mk 1 0 [Z1.mk 9 i ys,Z1.mk 1 0 [e1,Z1.mk 9 i zs]])) (de (ZQ ⟨e1,p21,b9,(by assumption),rfl,rfl⟩ (wk [0,2,2,4,4,4,4,4,4] fl))))))))))))
    refine dA 12 [0,3,1] [b4,b1,b3] [.i 0,.i 0,nl] fun b10=>Z7 6 (dc 6 [7,7] [1,2] [b4,b3] (QF rd bs p g gb rs (f.params++[3,0,3]) 0 4 (ZH:=ob) (hv:=(by first|omega|(simp only [Yw,YR,Xu];omega)))) ?_)
    rintro _ _ ⟨e2,p22,rfl,rfl,Yh⟩
    have Xg:=Yh.1
    have QG:=Yh.2
    try rw [Yw] at Xg
    rw [hbv.2.1] at Xg
    exact Z7 8 (WC 8 [4] [b3] [Y3 e2,Y3 (Z1.mk 9 i zs)] (Ys [e2,Z1.mk 9 i zs]) (XN [e2,Z1.mk 9 i zs]).symm 2 3 fun v15=>Yr 4 4 [] [(59,Xy [e2,Z1.mk 9 i zs])] (Z7 9 (Yp 9 [] [4] [b3] (XQ 1 0 [e2,Z1.mk 9 i zs]) (Z7 10 (WC 10 [] [] [Y3 (Z1.mk 9 i ys),Y3 (Z1.mk 1 0 [e2,Z1.mk 9 i zs])] (Ys [Z1.mk 9 i ys,Z1.mk 1 0 [e2,Z1.mk 9 i zs]]) (XN [Z1.mk 9 i ys,Z1.mk 1 0 [e2,Z1.mk 9 i zs]]).symm 2 3 fun v16=>Yr 2 2 [] [(61,Xy [Z1.mk 9 i ys,Z1.mk 1 0 [e2,Z1.mk 9 i zs]])] (Z7 11 (Yp 11 [] [] [] (XQ 1 0 [Z1.mk 9 i ys,Z1.mk 1 0 [e2,Z1.mk 9 i zs]]) (Z7 13 (YJ 13 4 [] [] b10 (YX (Z1.mk 1 0 [Z1.mk 9 i ys,Z1.mk 1 0 [e2,Z1.mk 9 i zs]])) (de (ZQ ⟨e2,p22,b10,(by assumption),rfl,rfl⟩ (wk [0,2,2,4,4,4,4,4,4] fl))))))))))))
   refine dA 12 [0,3,1] [b4,b1,b3] [.i 0,.i 0,nl] fun b11=>Z7 5 (dc 5 [] [1,4,2] [b4,b1,b3] (QV f.params [3,0,3]) ?_)
   rintro _ _ ⟨v17,rfl,rfl⟩
   refine Yr 6 6 [] [(56,Z4 (f.params++[3,0,3]))] (Z7 6 (dc 6 [7,7] [1,2] [b4,b3] (QF rd bs p g gb rs (f.params++[3,0,3]) 0 4 (ZH:=ob) (hv:=(by first|omega|(simp only [Yw,YR,Xu];omega)))) ?_))
   rintro _ _ ⟨e3,p23,rfl,rfl,YE⟩
   have Xg:=YE.1
   have QG:=YE.2
   try rw [Yw] at Xg
   rw [hbv.2.1] at Xg
   exact Z7 8 (WC 8 [4] [b3] [Y3 e3,Y3 (Z1.mk 9 i zs)] (Ys [e3,Z1.mk 9 i zs]) (XN [e3,Z1.mk 9 i zs]).symm 2 3 fun v18=>Yr 4 4 [] [(59,Xy [e3,Z1.mk 9 i zs])] (Z7 9 (Yp 9 [] [4] [b3] (XQ 1 0 [e3,Z1.mk 9 i zs]) (Z7 10 (WC 10 [] [] [Y3 (Z1.mk 9 i ys),Y3 (Z1.mk 1 0 [e3,Z1.mk 9 i zs])] (Ys [Z1.mk 9 i ys,Z1.mk 1 0 [e3,Z1.mk 9 i zs]]) (XN [Z1.mk 9 i ys,Z1.mk 1 0 [e3,Z1.mk 9 i zs]]).symm 2 3 fun v19=>Yr 2 2 [] [(61,Xy [Z1.mk 9 i ys,Z1.mk 1 0 [e3,Z1.mk 9 i zs]])] (Z7 11 (Yp 11 [] [] [] (XQ 1 0 [Z1.mk 9 i ys,Z1.mk 1 0 [e3,Z1.mk 9 i zs]]) (Z7 13 (YJ 13 5 [] [] b11 (YX (Z1.mk 1 0 [Z1.mk 9 i ys,Z1.mk 1 0 [e3,Z1.mk 9 i zs]])) (de (ZQ ⟨e3,p23,b11,(by assumption),rfl,rfl⟩ (wk [0,2,2,4,4,4,4,4,4] fl))))))))))))
  refine dA 12 [0,3,1] [b4,b1,b3] [.i 0,.i 0,nl] fun b12=>Z7 4 (dL 4 [1,4,2] [b4,b1,b3] (Z6 [3,0,3]) 3 1 fun v20=>Yr 7 7 [] [(55,Z4 [3,0,3])] (Z7 5 (dc 5 [] [1,4,2] [b4,b1,b3] (QV f.params [3,0,3]) ?_)))
  rintro _ _ ⟨v21,rfl,rfl⟩
  refine Yr 6 6 [] [(56,Z4 (f.params++[3,0,3]))] (Z7 6 (dc 6 [7,7] [1,2] [b4,b3] (QF rd bs p g gb rs (f.params++[3,0,3]) 0 4 (ZH:=ob) (hv:=(by first|omega|(simp only [Yw,YR,Xu];omega)))) ?_))
  rintro _ _ ⟨e4,p24,rfl,rfl,YN⟩
  have Xg:=YN.1
  have QG:=YN.2
  try rw [Yw] at Xg
  rw [hbv.2.1] at Xg
  exact Z7 8 (WC 8 [4] [b3] [Y3 e4,Y3 (Z1.mk 9 i zs)] (Ys [e4,Z1.mk 9 i zs]) (XN [e4,Z1.mk 9 i zs]).symm 2 3 fun v22=>Yr 4 4 [] [(59,Xy [e4,Z1.mk 9 i zs])] (Z7 9 (Yp 9 [] [4] [b3] (XQ 1 0 [e4,Z1.mk 9 i zs]) (Z7 10 (WC 10 [] [] [Y3 (Z1.mk 9 i ys),Y3 (Z1.mk 1 0 [e4,Z1.mk 9 i zs])] (Ys [Z1.mk 9 i ys,Z1.mk 1 0 [e4,Z1.mk 9 i zs]]) (XN [Z1.mk 9 i ys,Z1.mk 1 0 [e4,Z1.mk 9 i zs]]).symm 2 3 fun v23=>Yr 2 2 [] [(61,Xy [Z1.mk 9 i ys,Z1.mk 1 0 [e4,Z1.mk 9 i zs]])] (Z7 11 (Yp 11 [] [] [] (XQ 1 0 [Z1.mk 9 i ys,Z1.mk 1 0 [e4,Z1.mk 9 i zs]]) (Z7 13 (YJ 13 6 [] [] b12 (YX (Z1.mk 1 0 [Z1.mk 9 i ys,Z1.mk 1 0 [e4,Z1.mk 9 i zs]])) (de (ZQ ⟨e4,p24,b12,(by assumption),rfl,rfl⟩ (wk [0,2,2,4,4,4,4,4,4] fl))))))))))))
 rintro F h ⟨e1,p21,b5,ZW,rfl,rfl⟩
 have Xg:=ZW.1
 have QG:=ZW.2
 try rw [Yw] at Xg
 rw [hbv.2.1] at Xg
 refine Yi 3 [6] (Zm (Wp gb g.funcs.length 4 i.toNat 5 i) (Z2 1 (V6 (Vl 2 gb 4 4 5 (i.toNat * 5+1) (Zo (Xr rs)) [.i f.result] 3 (.i f.result) (UE Wq hf 1 rfl (V8 rfl))) (Z0 (XP (fun fz gz F h=>∃(eQ:Z1) (p6:Nat),(GE g (f.params.length+3) 52 eQ)/\(p<=p6/\p6<=p+650)/\F=sF [0,2,4,6,7,14] fz []/\h=[.obj b5 (YX eQ),Yx rd bs p6,Zc gz 2,Zc gz 5,Zc gz 6]) ?_ ?_)))))
 ·refine ac (f.result==3) Zp (fun Zg=>?_) (fun Zg=>?_)
  ·refine aE 13 (ZJ 8 13 [0,1,2,3,7] [4,6] (da 8 (((f.params.length+2:Nat):Int)) (((f.params.length:Int))+(2)) (Z7 4 (dL 4 [6,4] [b1,b3] (Z6 [3,0,3]) 3 1 fun v24=>Yr 6 6 [] [(74,Z4 [3,0,3])] (Z7 5 (dc 5 [] [6,4] [b1,b3] (QV f.params [3,0,3]) ?_))))))
   rintro _ _ ⟨v25,rfl,rfl⟩
   refine Yr 5 5 [] [(75,Z4 (f.params++[3,0,3]))] (Z7 6 (dc 6 [3,3] [2] [b3] (QF rd bs p21 g gb rs (f.params++[3,0,3]) 0 4 (ZH:=ob) (hv:=(by first|omega|(simp only [Yw,YR,Xu];omega)))) ?_))
   rintro _ _ ⟨e5,p25,rfl,rfl,X8⟩
   have Xg:=X8.1
   have QG:=X8.2
   try rw [Yw] at Xg
   rw [hbv.2.1] at Xg
   exact Z7 9 (Yp 9 [] [4] [b3] (Q4 ((f.params.length+2:Nat):Int)) (Z7 10 (WC 10 [] [] [Y3 (Z1.mk 9 i ys),Y3 e5,Y3 (Z1.mk 12 ((f.params.length+2:Nat):Int) [])] (Ys [Z1.mk 9 i ys,e5,(Z1.mk 12 ((f.params.length+2:Nat):Int) [])]) (XN [Z1.mk 9 i ys,e5,(Z1.mk 12 ((f.params.length+2:Nat):Int) [])]).symm 3 3 fun v26=>Yr 2 2 [] [(80,Xy [Z1.mk 9 i ys,e5,(Z1.mk 12 ((f.params.length+2:Nat):Int) [])])] (Z7 11 (Yp 11 [] [] [] (XQ 6 3 [Z1.mk 9 i ys,e5,(Z1.mk 12 ((f.params.length+2:Nat):Int) [])]) (Z7 12 (YJ 12 5 [] [] b5 (YX (Z1.mk 6 3 [Z1.mk 9 i ys,e5,(Z1.mk 12 ((f.params.length+2:Nat):Int) [])])) (de (ZQ ⟨(Z1.mk 6 3 [Z1.mk 9 i ys,e5,(Z1.mk 12 ((f.params.length+2:Nat):Int) [])]),p25,(GE.three (s1:=10) (s2:=30) (s3:=1) om om (GE.node (L:=f.params.length) (s:=1) (q:=10) om (fun _=>by omega) om Yq om om om) Xg (GE.var om om om) om),ob,rfl,rfl⟩ (wk [0,1,1,5,5] fl))))))))))
  exact ak (ZQ ⟨(Z1.mk 1 0 [Z1.mk 9 i ys,Z1.mk 1 0 [e1,Z1.mk 9 i zs]]),p21,(GE.two (s1:=10) (s2:=41) om om (GE.node (L:=f.params.length) (s:=1) (q:=10) om (fun _=>by omega) om Yq om om om) (GE.two (s1:=30) (s2:=10) om om Xg (GE.node (L:=f.params.length) (s:=1) (q:=10) om (fun _=>by omega) om XR om om om) om) om),ob,rfl,rfl⟩ (wk [0,0,0,2,2] fl))
 rintro F h ⟨eQ,p6,VY,Af,rfl,rfl⟩
 refine aD 15 (ZJ 9 15 [1,2,3,4,5,6] [4,4] (dx 7 (Wp gb g.funcs.length 4 i.toNat 5 i) (Zj 7 8 [8] (U7 9 (Vl 2 gb 4 4 5 (i.toNat * 5+1) (Zo (Xr rs)) [.i f.result] 3 (.i f.result) (UE Wq hf 1 rfl (V8 rfl))) (ZJ 5 6 [11] [0] (Z7 0 (Yp 0 [] [0,2,4,4] [b5,gb,b1,b1] (Q4 0) (Z7 10 (dc 10 [1,1] [0] [b5] (QF rd bs p6 g gb rs f.params f.result 4 (ZH:=ob) (hv:=(by first|omega|(simp only [Yw,YR,Xu];omega)))) ?_)))))))))
 rintro _ _ ⟨e6,p26,rfl,rfl,XJ⟩
 have Xg:=XJ.1
 have QG:=XJ.2
 try rw [Yw] at Xg
 rw [hbv.2.1] at Xg
 exact Z7 12 (WC 12 [] [] [Y3 (Z1.mk 12 0 []),Y3 e6,Y3 eQ] (Ys [Z1.mk 12 0 [],e6,eQ]) (XN [Z1.mk 12 0 [],e6,eQ]).symm 3 3 fun v27=>Yr 2 2 [] [(94,Xy [Z1.mk 12 0 [],e6,eQ])] (Z7 13 (Yp 13 [] [] [] (XQ 8 3 [Z1.mk 12 0 [],e6,eQ]) (Z7 14 (YJ 14 4 [] [] b2 (YX (Z1.mk 8 3 [Z1.mk 12 0 [],e6,eQ])) (de (ZD (r3 [2,2] [Y3 (Z1.mk 8 3 [Z1.mk 12 0 [],e6,eQ])] [0] [(b2,b2)] ⟨(Z1.mk 8 3 [Z1.mk 12 0 [],e6,eQ]),p26,rfl,rfl,⟨GE.matchT hg (s1:=1) (s2:=30) (s3:=52) (GE.var om om om) Xg VY om,by omega⟩⟩ (lr _)))))))))
theorem Z4y (rd:Nat) (bs:LI) (p:Nat) (g:W8) (gb:Nat) (rs:List Func) (f:Func) (i:Int) (ZH:∀z∈bs,0<=z/\z<=255) (hp:p+1000<=1000000000:=by exact ob) (hg:GP g:=by exact ob) (Wq:g.funcs <+: rs:=by exact ob) (hi:0<=i:=by exact ob) (hf:g.funcs[i.toNat]? = some f:=by exact ob) (h0:0<f.params.length:=by exact ob):Zl 230 [.p rd 0,.agg (Ws g gb),.i i] [Yx rd bs p,XO gb rs] (fun r h=>∃(e:Z1) (p2:Nat),r=Y3 e/\h=[Yx rd bs p2,XO gb rs]/\GE g f.params.length 200 e/\p<=p2/\p2<=p+1000):=by
 obtain ⟨hil,_⟩:=Xp.1 hf
 have hgl:=hg.len
 have hso:=(hg.sigs f (Y2 hf)).bd
 have hbv:=Dr
 refine ZG 75 Tryz.func230 (ar (iA (Ws g gb) fun b1=>iA [.i 0,.i 0,nl] fun b2=>ie (Zv 3 [1] (Zm (Wp gb g.funcs.length 4 i.toNat 5 i) (Z2 1 (V6 (Vl 3 gb 4 4 5 (i.toNat * 5+0) (Zo (Xr rs)) [Z4 f.params] 31 (Z4 f.params) (UE Wq hf 0 rfl (V8 rfl))) (Z0 (ar (Zz [] (Q4 0) (Zz [] (A8 1) (UG [Y3 (Z1.mk 12 0 []),Y3 (Z1.mk 0 1 [])] (Ys [Z1.mk 12 0 [],Z1.mk 0 1 []]) (XN [Z1.mk 12 0 [],Z1.mk 0 1 []]).symm 2 3 fun v1=>ZP 0 [(20,Xy [Z1.mk 12 0 [],Z1.mk 0 1 []])] (Zz [] (XQ 2 0 [Z1.mk 12 0 [],Z1.mk 0 1 []]) (UG [Y3 (Z1.mk 2 0 [Z1.mk 12 0 [],Z1.mk 0 1 []])] (Ys [Z1.mk 2 0 [Z1.mk 12 0 [],Z1.mk 0 1 []]]) (XN [Z1.mk 2 0 [Z1.mk 12 0 [],Z1.mk 0 1 []]]).symm 1 3 fun v2=>?_)))))))))))))
 refine Z0 (Yb (ab 0 (Y4 (fun fz gz m F h=>∃(k:Nat) (ys:List Z1) (u:Value) (pq:Nat),(1<=k/\k<=f.params.length)/\(ys.length=k)/\(∀e∈ys,GE g f.params.length 4 e)/\(p<=pq/\pq<=p+30*k)/\F=sF [0,2,4,6,7] fz [(8,Qm ys u),(9,.i k)]/\h=[Zc gz 2,Zc gz 3,Yx rd bs pq,Zc gz 5,.tail u 3]/\m=f.params.length-k) _ _ _ ⟨1,[Z1.mk 2 0 [Z1.mk 12 0 [],Z1.mk 0 1 []]],v2,p,ob,ob,(He (GE.two (s1:=1) (s2:=1) om om (GE.var om om om) (GE.int om om) om)),ob,rfl,rfl,rfl⟩ (wk [2,2,2,2,0] (fr (fc (x:=.i 1) li fl))) ?_)))
 rintro m F h ⟨k,ys,u,pq,Yg,Zi,Zw,Yq,rfl,rfl,rfl⟩
 refine YL 2 (iw (Y6 f.params) (Y0 ((k:Int)<(f.params.length:Int)) (fun Za=>?_) (fun Za=>?_)))
 ·refine ak (aq (ab 1 (aE 12 (ZJ 6 12 [0,1,2,3,4,5] [1] ?_))))
  obtain ⟨x1,Z3⟩:=Zt f.params k om
  refine dx 6 (Zh none (k:Int) 1 (ZY Z3)) (Zj 4 5 [7] (Z7 8 (dc 8 [2,2] [] [] (CA rd bs pq g gb rs f.params x1 (ZH:=ob)) ?_)))
  rintro _ _ ⟨e1,p21,rfl,rfl,ZW⟩
  have hle:=ZW.1
  exact Z7 9 (WC 9 [] [] [Y3 e1] (Ys [e1]) (XN [e1]).symm 1 3 fun v3=>Yr 2 2 [] [(38,Xy [e1])] (Z7 10 (dp 10 5 [] [] (Ys (ys++[e1])) (Ys ys) (Ys [e1]) u none 3 (Tc _) (Tc _) (JB _) (by simp<;>omega) (by simp [JA,Ys]) fun v4=>Zj 0 1 [11] (de (az (Z2 1 (ZK k (Z0 (ZL ⟨k+1,(ys++[e1]),v4,p21,ob,ob,(Xz Zw hle),ob,rfl,rfl,rfl⟩ (wk [4,4,2,2,0] (fr (ZO k fl))))))))))))
 refine ax 0 (ar (ZP 2 [(41,Xy ys)] (Zz [] (XQ 9 i ys) (iA [.i 0,.i 0,nl] fun b3=>?_))))
 refine ZI 0 b3 (YX (Z1.mk 9 i ys)) (ie (Yi 3 [2] (Zm (Wp gb g.funcs.length 4 i.toNat 5 i) (Z2 1 (V6 (Vl 4 gb 4 4 5 (i.toNat * 5+1) (Zo (Xr rs)) [.i f.result] 3 (.i f.result) (UE Wq hf 1 rfl (V8 rfl))) (Z0 (XP (fun fz gz F h=>∃(eQ:Z1) (p6:Nat),(GE g f.params.length 34 eQ)/\(p<=p6/\p6<=p+350)/\F=sF [0,2,4,6,7,10] fz []/\h=[.obj b3 (YX eQ),Zc gz 1,Zc gz 2,Yx rd bs p6,Zc gz 4]) ?_ ?_)))))))
 ·refine ac (f.result==1) Zp (fun Zg=>?_) (fun Zg=>?_)
  ·refine aE 8 (ZJ 4 8 [0,1,2,4] [2,0] (Z7 3 (dc 3 [3,3] [0] [b3] (QF rd bs pq g gb rs f.params 0 3 (ZH:=ob)) ?_)))
   rintro _ _ ⟨e2,p22,rfl,rfl,Yh⟩
   have Xg:=Yh.1
   have QG:=Yh.2
   try rw [Yw] at Xg
   first|rw [hbv.2.1] at Xg|rw [hbv.1] at Xg
   exact Z7 5 (WC 5 [] [] [Y3 e2,Y3 (Z1.mk 9 i ys)] (Ys [e2,Z1.mk 9 i ys]) (XN [e2,Z1.mk 9 i ys]).symm 2 3 fun v5=>Yr 2 2 [] [(55,Xy [e2,Z1.mk 9 i ys])] (Z7 6 (Yp 6 [] [] [] (XQ 6 1 [e2,Z1.mk 9 i ys]) (Z7 7 (YJ 7 3 [] [] b3 (YX (Z1.mk 6 1 [e2,Z1.mk 9 i ys])) (de (ZQ ⟨(Z1.mk 6 1 [e2,Z1.mk 9 i ys]),p22,(GE.two (s1:=20) (s2:=13) om om Xg (GE.node (L:=f.params.length) (s:=4) (q:=13) om (fun _=>by omega) om Zw om om om) om),ob,rfl,rfl⟩ (wk [0,3,3,1,1] fl))))))))
  exact ak (ZQ ⟨(Z1.mk 9 i ys),pq,(GE.le (GE.node (L:=f.params.length) (s:=4) (q:=13) om (fun _=>by omega) om Zw om om om) om),ob,rfl,rfl⟩ (ZE 5 fl))
 rintro F h ⟨eQ,p6,VY,Af,rfl,rfl⟩
 refine ar (Zz [] (A8 0) (Zz [] (Q4 0) (UG [Y3 (Z1.mk 0 0 []),Y3 (Z1.mk 12 0 [])] (Ys [Z1.mk 0 0 [],Z1.mk 12 0 []]) (XN [Z1.mk 0 0 [],Z1.mk 12 0 []]).symm 2 3 fun v6=>ZP 0 [(59,Xy [Z1.mk 0 0 [],Z1.mk 12 0 []])] (Zz [] (XQ 4 0 [Z1.mk 0 0 [],Z1.mk 12 0 []]) (iA [.i 0,.i 0,nl] fun b4=>ZI 0 b4 (YX (Z1.mk 4 0 [Z1.mk 0 0 [],Z1.mk 12 0 []])) (ie (aD 15 (ZJ 7 15 [0,1,2,3,4,5,6,7] [0,2,4,4] (dx 8 (Wp gb g.funcs.length 4 i.toNat 5 i) (Zj 5 6 [9] (U7 10 (Vl 6 gb 4 4 5 (i.toNat * 5+1) (Zo (Xr rs)) [.i f.result] 3 (.i f.result) (UE Wq hf 1 rfl (V8 rfl))) (Z7 11 (dc 11 [5,5] [1,0] [b3,b4] (QF rd bs p6 g gb rs f.params f.result 4 (ZH:=ob)) ?_)))))))))))))
 rintro _ _ ⟨e3,p23,rfl,rfl,YE⟩
 have Xg:=YE.1
 have QG:=YE.2
 try rw [Yw] at Xg
 first|rw [hbv.2.1] at Xg|rw [hbv.1] at Xg
 exact Z7 12 (WC 12 [] [] [Y3 (Z1.mk 4 0 [Z1.mk 0 0 [],Z1.mk 12 0 []]),Y3 eQ,Y3 e3] (Ys [Z1.mk 4 0 [Z1.mk 0 0 [],Z1.mk 12 0 []],eQ,e3]) (XN [Z1.mk 4 0 [Z1.mk 0 0 [],Z1.mk 12 0 []],eQ,e3]).symm 3 3 fun v7=>Yr 2 2 [] [(73,Xy [Z1.mk 4 0 [Z1.mk 0 0 [],Z1.mk 12 0 []],eQ,e3])] (Z7 13 (Yp 13 [] [] [] (XQ 7 0 [Z1.mk 4 0 [Z1.mk 0 0 [],Z1.mk 12 0 []],eQ,e3]) (Z7 14 (YJ 14 6 [] [] b2 (YX (Z1.mk 7 0 [Z1.mk 4 0 [Z1.mk 0 0 [],Z1.mk 12 0 []],eQ,e3])) (de (ZD (r3 [2,2] [Y3 (Z1.mk 7 0 [Z1.mk 4 0 [Z1.mk 0 0 [],Z1.mk 12 0 []],eQ,e3])] [0] [(b2,b2)] ⟨(Z1.mk 7 0 [Z1.mk 4 0 [Z1.mk 0 0 [],Z1.mk 12 0 []],eQ,e3]),p23,rfl,rfl,⟨GE.three (s1:=3) (s2:=34) (s3:=30) om om (GE.two (s1:=1) (s2:=1) om om (GE.int om om) (GE.var om om om) om) VY Xg om,by omega⟩⟩ (lr _)))))))))
theorem Z5v (xs:LI) (t:Int) (hl:xs.length<=1000:=by exact ob):Zl 225 [Z4 xs,.i t] [] (fun r h=>∃(w:Int),r=.i w/\h=[]/\-1<=w/\w<xs.length):=by
 refine ZG 19 Tryz.func225 (ZF (Yb (ab 0 (Y4 (fun fz gz m F h=>∃(k:Nat),(k<=xs.length)/\F=sF [0,1] fz [(5,.i k)]/\h=gz/\m=xs.length-k) _ _ _ ⟨0,ob,rfl,rfl,rfl⟩ (wk [] (Yd fl)) ?_))))
 rintro m F h ⟨k,Yg,rfl,rfl,rfl⟩
 refine YL 2 (iw (Y6 xs) (Y0 ((k:Int)<(xs.length:Int)) (fun Za=>?_) (fun Za=>?_)))
 ·refine ak (aq (ab 1 (Y5 2 ?_)))
  obtain ⟨x1,Z3⟩:=Zt xs k om
  refine Zm (Zh none (k:Int) 1 (ZY Z3)) (YB (x1==t) Zp (fun Zg=>?_) (fun Zg=>?_))
  ·exact ar (Zq (r1 [] ⟨(k:Int),rfl,rfl,ob⟩))
  exact ak (az (Z2 1 (ZK k (Z0 (ZL ⟨k+1,ob,rfl,rfl,rfl⟩ (wk [] (ZO k fl)))))))
 exact ax 0 (ar (Zq (r1 [] ⟨(-1),rfl,rfl,ob⟩)))
theorem Z4g (rd:Nat) (bs:LI) (p:Nat) (g:W8) (gb:Nat) (rs:List Func) (f:Func) (i:Int) (ZH:∀z∈bs,0<=z/\z<=255) (hp:p+90000<=1000000000) (hg:GP g) (Wq:g.funcs <+: rs) (hi:0<=i) (hf:g.funcs[i.toNat]? = some f) (h0:i=0->f.params.length=0):Zl 177 [.p rd 0,.agg (Ws g gb),.i i] [Yx rd bs p,XO gb rs] (fun r h=>∃(e:Z1) (p2:Nat),r=Y3 e/\h=[Yx rd bs p2,XO gb rs]/\GE g f.params.length 30 e/\p<=p2/\p2<=p+90000):=by
 obtain ⟨hil,_⟩:=Xp.1 hf
 have hgl:=hg.len
 have hso:=(hg.sigs f (Y2 hf)).bd
 have hbv:=Dr
 refine ZG 121 Tryz.func177 (ar (iA (Ws g gb) fun b1=>iA [.i 0,.i 0,nl] fun b2=>ie (Zv 3 [1] (Zm (Wp gb g.funcs.length 4 i.toNat 5 i) (Z2 1 (V6 (Vl 3 gb 4 4 5 (i.toNat * 5+0) (Zo (Xr rs)) [Z4 f.params] 31 (Z4 f.params) (UE Wq hf 0 rfl (V8 rfl))) (Z0 (Zv 3 [1] (Zm (Wp gb g.funcs.length 4 i.toNat 5 i) (Z2 1 (V6 (Vl 3 gb 4 4 5 (i.toNat * 5+1) (Zo (Xr rs)) [.i f.result] 3 (.i f.result) (UE Wq hf 1 rfl (V8 rfl))) (Z0 (Y5 1 (ic [] (Z5v f.params 1) ?_))))))))))))))
 rintro _ _ ⟨w1,rfl,rfl,ZW⟩
 have hpl:=ZW
 refine Z0 (ar (Zz [] (A8 0) (iA [.i 0,.i 0,nl] fun b3=>ZI 0 b3 (YX (Z1.mk 0 0 [])) (ie (Y5 1 (ic [3] (W2 rd bs p 4 (ZH:=ob)) ?_))))))
 rintro _ _ ⟨k1,rfl,rfl,Yh⟩
 have qhp2:=Yh.lt om
 refine Z0 (aq (aq (XP (fun fz gz F h=>∃(wb:Bool),(wb=true->i=0)/\F=sF [0,2,4,6,7,8,9,10,11] fz [(34,.b wb)]/\h=gz) ?_ ?_)))
 ·refine az (Z2 3 (ib (b:=(decide (k1<3))) 31 (fun Zb=>?_) (fun Zb=>?_)))
  ·have YE:k1<3:=(dq).1 Zb
   exact Z0 (ZQ ⟨(i==0),(by first|exact (fun h=>Bool.noConfusion h)|(intro h;omega)|(intro h;simp at h;omega)),rfl,rfl⟩ (ZE 5 fl))
  have YN:¬(k1<3):=Ya dq Zb
  exact Z0 (ZQ ⟨false,(by first|exact (fun h=>Bool.noConfusion h)|(intro h;omega)|(intro h;simp at h;omega)),rfl,rfl⟩ (ZE 5 fl))
 rintro F h ⟨wb,kR6_0,rfl,rfl⟩
 refine XP (fun fz gz F h=>∃(eQ:Z1) (p6:Nat),(GE g f.params.length 200 eQ)/\(p<=p6/\p6<=p+42000)/\F=sF [0,4,6,7,8,10] fz []/\h=[Yx rd bs p6,.obj b3 (YX eQ),Zc gz 2,Zc gz 3,Zc gz 4]) ?_ ?_
 ·refine ac wb Iff.rfl (fun Za=>?_) (fun Za=>?_)
  ·refine az (ZM 2 [3] (ic [0,3] (Z5i rd bs (p+1) g gb rs (ZH:=ob)) ?_))
   rintro _ _ ⟨e1,p21,rfl,rfl,X8⟩
   have hbd:=X8.1
   have hbp:=X8.2
   exact ZI 2 b3 (YX e1) (ie (ZQ ⟨e1,p21,(by rw [h0 (kR6_0 (by assumption))];exact hbd),ob,rfl,rfl⟩ (wk [1,0,1,1,0] fl)))
  refine aq (XP (fun fz gz F h=>∃(wb:Bool),(wb=true->0<=w1)/\F=sF [0,2,4,6,7,8,9,10,11] fz [(51,.b wb)]/\h=gz) ?_ ?_)
  ·refine az (Z2 3 (ib (b:=(decide (k1<3))) 40 (fun ZA=>?_) (fun ZA=>?_)))
   ·have XJ:k1<3:=(dq).1 ZA
    refine Z2 4 (ib (b:=(decide (w1>=0))) 44 (fun Yy=>?_) (fun Yy=>?_))
    ·have Wn:w1>=0:=(dq).1 Yy
     refine Z2 3 (ib (b:=(f.result==0)) 47 (fun Xe=>?_) (fun Xe=>?_))
     ·have WL:f.result=0:=(Zp).1 Xe
      exact Z0 (ZQ ⟨true,(by first|exact (fun h=>Bool.noConfusion h)|(intro h;omega)|(intro h;simp at h;omega)),rfl,rfl⟩ (ZE 5 fl))
     have V5:¬(f.result=0):=Ya Zp Xe
     exact Z0 (ZQ ⟨(f.result==1),(by first|exact (fun h=>Bool.noConfusion h)|(intro h;omega)|(intro h;simp at h;omega)),rfl,rfl⟩ (ZE 5 fl))
    have Ur:¬(w1>=0):=Ya dq Yy
    exact Z0 (ZQ ⟨false,(by first|exact (fun h=>Bool.noConfusion h)|(intro h;omega)|(intro h;simp at h;omega)),rfl,rfl⟩ (ZE 5 fl))
   have Tg:¬(k1<3):=Ya dq ZA
   exact Z0 (ZQ ⟨false,(by first|exact (fun h=>Bool.noConfusion h)|(intro h;omega)|(intro h;simp at h;omega)),rfl,rfl⟩ (ZE 5 fl))
  rintro F h ⟨wb,kR8_0,rfl,rfl⟩
  refine ac wb Iff.rfl (fun Zg=>?_) (fun Zg=>?_)
  ·refine az (ZM 4 [3] (ic [0,3] (Z5q rd bs (p+1) g gb rs _ i w1 (ZH:=ob) (hw:=(by have:=kR8_0 (by assumption);omega))) ?_))
   rintro _ _ ⟨e2,p22,rfl,rfl,UY⟩
   have hbd:=UY.1
   have hbp:=UY.2
   exact ZI 2 b3 (YX e2) (ie (ZQ ⟨e2,p22,(GE.le hbd om),ob,rfl,rfl⟩ (wk [1,0,1,1,0] fl)))
  refine aq (XP (fun fz gz F h=>∃(wb:Bool),(wb=true->0<f.params.length)/\F=sF [0,2,4,6,7,8,10,11] fz [(77,.b wb)]/\h=gz) ?_ ?_)
  ·refine az (Z2 3 (ib (b:=(decide (k1<3))) 59 (fun Wy=>?_) (fun Wy=>?_)))
   ·have Qj:k1<3:=(dq).1 Wy
    refine Z2 1 (iw (Y6 f.params) (Z2 3 (ib (b:=(decide ((f.params.length:Int)>0))) 64 (fun V4=>?_) (fun V4=>?_))))
    ·have Q6:(f.params.length:Int)>0:=(dq).1 V4
     refine Z2 1 ?_
     obtain ⟨x1,Z3⟩:=Zt f.params 0 om
     refine Zm (Zh none 0 1 (ZY Z3)) (Z2 4 (ib (b:=(x1==3)) 70 (fun Vi=>?_) (fun Vi=>?_)))
     ·have KI:x1=3:=(Zp).1 Vi
      refine Z2 3 (ib (b:=(f.result==0)) 73 (fun Va=>?_) (fun Va=>?_))
      ·have KJ:f.result=0:=(Zp).1 Va
       exact Z0 (ZQ ⟨true,(by first|exact (fun h=>Bool.noConfusion h)|(intro h;omega)|(intro h;simp at h;omega)),rfl,rfl⟩ (ZE 5 fl))
      have AT:¬(f.result=0):=Ya Zp Va
      exact Z0 (ZQ ⟨(f.result==3),(by first|exact (fun h=>Bool.noConfusion h)|(intro h;omega)|(intro h;simp at h;omega)),rfl,rfl⟩ (ZE 5 fl))
     have Ji:¬(x1=3):=Ya Zp Vi
     exact Z0 (ZQ ⟨false,(by first|exact (fun h=>Bool.noConfusion h)|(intro h;omega)|(intro h;simp at h;omega)),rfl,rfl⟩ (ZE 5 fl))
    have NW:¬((f.params.length:Int)>0):=Ya dq V4
    exact Z0 (ZQ ⟨false,(by first|exact (fun h=>Bool.noConfusion h)|(intro h;omega)|(intro h;simp at h;omega)),rfl,rfl⟩ (ZE 5 fl))
   have NX:¬(k1<3):=Ya dq Wy
   exact Z0 (ZQ ⟨false,(by first|exact (fun h=>Bool.noConfusion h)|(intro h;omega)|(intro h;simp at h;omega)),rfl,rfl⟩ (ZE 5 fl))
  rintro F h ⟨wb,kR10_0,rfl,rfl⟩
  refine ac wb Iff.rfl (fun ZC=>?_) (fun ZC=>?_)
  ·refine az (ZM 3 [3] (ic [0,3] (Z5r rd bs (p+1) g gb rs _ i (ZH:=ob) (h0:=(kR10_0 (by assumption)))) ?_))
   rintro _ _ ⟨e3,p23,rfl,rfl,Ij⟩
   have hbd:=Ij.1
   have hbp:=Ij.2
   exact ZI 2 b3 (YX e3) (ie (ZQ ⟨e3,p23,(GE.le hbd om),ob,rfl,rfl⟩ (wk [1,0,1,1,0] fl)))
  refine aq (XP (fun fz gz F h=>∃(wb:Bool),(wb=true->0<f.params.length)/\F=sF [0,2,4,6,7,8,10] fz [(102,.b wb)]/\h=gz) ?_ ?_)
  ·refine az (Z2 3 (ib (b:=(decide (k1<3))) 84 (fun Vb=>?_) (fun Vb=>?_)))
   ·have Z6j:k1<3:=(dq).1 Vb
    refine Z2 1 (iw (Y6 f.params) (Z2 3 (ib (b:=(decide ((f.params.length:Int)>0))) 89 (fun Qi=>?_) (fun Qi=>?_))))
    ·have Z6k:(f.params.length:Int)>0:=(dq).1 Qi
     refine Z2 1 ?_
     obtain ⟨x2,Zr⟩:=Zt f.params 0 om
     refine Zm (Zh none 0 1 (ZY Zr)) (Z2 4 (ib (b:=(x2==0)) 95 (fun Ab=>?_) (fun Ab=>?_)))
     ·have Z6l:x2=0:=(Zp).1 Ab
      refine Z2 3 (ib (b:=(f.result==0)) 98 (fun Ac=>?_) (fun Ac=>?_))
      ·have Z6m:f.result=0:=(Zp).1 Ac
       exact Z0 (ZQ ⟨true,(by first|exact (fun h=>Bool.noConfusion h)|(intro h;omega)|(intro h;simp at h;omega)),rfl,rfl⟩ (ZE 5 fl))
      have Z6n:¬(f.result=0):=Ya Zp Ac
      exact Z0 (ZQ ⟨(f.result==1),(by first|exact (fun h=>Bool.noConfusion h)|(intro h;omega)|(intro h;simp at h;omega)),rfl,rfl⟩ (ZE 5 fl))
     have Z6o:¬(x2=0):=Ya Zp Ab
     exact Z0 (ZQ ⟨false,(by first|exact (fun h=>Bool.noConfusion h)|(intro h;omega)|(intro h;simp at h;omega)),rfl,rfl⟩ (ZE 5 fl))
    have Z6p:¬((f.params.length:Int)>0):=Ya dq Qi
    exact Z0 (ZQ ⟨false,(by first|exact (fun h=>Bool.noConfusion h)|(intro h;omega)|(intro h;simp at h;omega)),rfl,rfl⟩ (ZE 5 fl))
   have Z6q:¬(k1<3):=Ya dq Vb
   exact Z0 (ZQ ⟨false,(by first|exact (fun h=>Bool.noConfusion h)|(intro h;omega)|(intro h;simp at h;omega)),rfl,rfl⟩ (ZE 5 fl))
  rintro F h ⟨wb,kR12_0,rfl,rfl⟩
  refine ac wb Iff.rfl (fun Ye=>?_) (fun Ye=>?_)
  ·refine az (ZM 3 [3] (ic [0,3] (Z4y rd bs (p+1) g gb rs _ i (ZH:=ob) (h0:=(kR12_0 (by assumption)))) ?_))
   rintro _ _ ⟨e4,p24,rfl,rfl,Ik⟩
   have hbd:=Ik.1
   have hbp:=Ik.2
   exact ZI 2 b3 (YX e4) (ie (ZQ ⟨e4,p24,(GE.le hbd om),ob,rfl,rfl⟩ (wk [1,0,1,1,0] fl)))
  refine az (ZM 4 [3] (ic [0,3] (NC rd bs (p+1) g gb rs f.params f.result 18 (ZH:=ob)) ?_))
  rintro _ _ ⟨e5,p25,rfl,rfl,Il⟩
  have hbd:=Il.1
  have hbp:=Il.2
  exact ZI 2 b3 (YX e5) (ie (ZQ ⟨e5,p25,(GE.le hbd om),ob,rfl,rfl⟩ (wk [1,0,1,1,0] fl)))
 rintro F h ⟨eQ,p6,KL,Is,rfl,rfl⟩
 refine Yi 1 [1] (ic [] (NJ eQ (hz:=(by have:=KL.2;omega))) ?_)
 rintro _ _ ⟨w2,rfl,rfl,NY⟩
 have DO:=NY
 have Xm:=KL.2
 refine Y0 (w2<0) (fun Xf=>?_) (fun Xf=>?_)
 ·refine Zv 4 [3] (ic [0,3] (NC rd bs p6 g gb rs f.params f.result 12 (ZH:=ob)) ?_)
  rintro _ _ ⟨e6,p26,rfl,rfl,Fx⟩
  have hbd:=Fx.1
  have hbp:=Fx.2
  exact ZI 3 b2 (YX e6) (ie (ZD (r3 [1,1] [Y3 e6] [0] [(b2,b2)] ⟨e6,p26,rfl,rfl,⟨hbd,by omega⟩⟩ (lr _))))
 exact ak (Zv 1 [1] (ZI 2 b2 (YX eQ) (ie (ZD (r3 [1,3] [Y3 eQ] [0] [(b2,b2)] ⟨eQ,p6,rfl,rfl,⟨⟨KL.1,by omega⟩,by omega⟩⟩ (lr _))))))
theorem TN (ps:LI) (rt:Int) :Zl 176 [Z4 ps,.i rt] [] (Yv (Dn (Func.mk ps rt (Z1.mk 0 0 [])))):=by
 exact ZG 8 Tryz.func176 (ar (iA [nl,.i 0,.i 0,.i 0,nl] fun b1=>ie (Y5 3 (ZI 0 b1 [Z4 ps,.i rt,.i 0,.i 0,nl] (ie (ZD (r3 [] [.agg [Z4 ps,.i rt,.i 0,.i 0,nl]] [0] [(b1,b1)] ⟨rfl,rfl⟩ (Zd.agg (.cons (Zd.sl _ (Ym Z6 ob)) (.cons li (.cons li (.cons li (.cons (Zd.sl _ rfl) .nil)))))))))))))
theorem Z5p (rd:Nat) (bs:LI) (p:Nat) (xs:LI) (ZH:∀z∈bs,0<=z/\z<=255) (hp:p+1<=1000000000:=by exact ob) (hx:0<xs.length/\xs.length<=1000000:=by exact ob) (hy:xs.all (fun x=>decide (0<=x))=true:=by exact ob):Zl 62 [.p rd 0,Z4 xs] [Yx rd bs p] (fun r h=>∃(nn:Nat),r=.i nn/\h=[.obj rd [U9 bs,.i (p+1:Nat)]]/\(nn:Int)∈xs):=(VO rd bs p xs ZH hp hx).mono fun r h ⟨z,hr,hh,hz⟩=>by
  have h0:0<=z:=of_decide_eq_true (Jm.1 hy z hz)
  exact ⟨z.toNat,by rw [hr,Int.toNat_of_nonneg h0],hh,by rw [Int.toNat_of_nonneg h0];exact hz⟩
theorem Z4h (rd:Nat) (bs:LI) (p:Nat) (g:W8) (gb:Nat) (rs:List Func) (f:Func) (i:Int) (nl:Nat) (ZH:∀z∈bs,0<=z/\z<=255) (hp:p+90000<=1000000000:=by exact ob) (hg:GP g:=by exact ob) (Wq:g.funcs <+: rs:=by exact ob) (hi:0<=i:=by exact ob) (hf:g.funcs[i.toNat]? = some f:=by exact ob) (h0:i=0->f.params.length=0:=by exact ob) (hn:g.funcs.length=nl:=by exact ob):Zl 177 [.p rd 0,.agg [ZU g.decls,.ms gb 0 nl 4],.i i] [Yx rd bs p,XO gb rs] (fun r h=>∃(e:Z1) (p2:Nat),r=Y3 e/\h=[Yx rd bs p2,XO gb rs]/\GE g f.params.length 30 e/\p<=p2/\p2<=p+90000):=(by subst hn;exact Z4g rd bs p g gb rs f i ZH hp hg Wq hi hf h0)
theorem Z54 (rd:Nat) (bs:LI) (p:Nat) (ZH:∀z∈bs,0<=z/\z<=255) (hp:p+400000<=1000000000):Zl 134 [.p rd 0] [Yx rd bs p] (fun r h=>∃(rs:List Func) (ds:List Zf) (m:Nat) (gb:Nat) (p2:Nat),r=.agg [ZU ds,.ms gb 0 m 4]/\h=[XO gb rs,Yx rd bs p2]/\(GL ds m 0 rs/\GD ds/\1<=m/\m<=4)/\p<=p2/\p2<=p+400000):=by
 refine ZG 110 Tryz.func134 (ar (iA [nl,nl] fun b1=>ie (Y5 1 (ic [1] (Z52 rd bs p (ZH:=ob)) ?_))))
 rintro _ _ ⟨ds1,v1,rfl,rfl,ZW⟩
 have hgd:=ZW
 refine Z2 1 (iA [nl,nl] fun b2=>ZI 0 b2 [JG ds1 v1,nl] (ie (ar (iL (Z6 [1]) 1 1 fun v2=>ZP 0 [(13,Z4 [1])] (Zz [] (TN [1] 0) (iL (Z6 [1,1]) 2 1 fun v3=>ZP 0 [(15,Z4 [1,1])] (Zz [] (TN [1,1] 1) (iL (Z6 [1]) 1 1 fun v4=>ZP 0 [(17,Z4 [1])] (Zz [] (TN [1] 1) (iL (Z6 [1,0]) 2 1 fun v5=>ZP 0 [(19,Z4 [1,0])] (Zz [] (TN [1,0] 1) (iL (Z6 [2,1]) 2 1 fun v6=>ZP 0 [(21,Z4 [2,1])] (Zz [] (TN [2,1] 1) (iL (Z6 [1,1]) 2 1 fun v7=>ZP 0 [(23,Z4 [1,1])] (Zz [] (TN [1,1] 0) (iL (Xr [Func.mk [1] 0 (Z1.mk 0 0 []),Func.mk [1,1] 1 (Z1.mk 0 0 []),Func.mk [1] 1 (Z1.mk 0 0 []),Func.mk [1,0] 1 (Z1.mk 0 0 []),Func.mk [2,1] 1 (Z1.mk 0 0 []),Func.mk [1,1] 0 (Z1.mk 0 0 [])]) 6 5 fun v8=>Z0 (ar (iL (Z6 [3]) 1 1 fun v9=>ZP 0 [(26,Z4 [3])] (Zz [] (TN [3] 0) (iL (Z6 [0]) 1 1 fun v10=>ZP 0 [(28,Z4 [0])] (Zz [] (TN [0] 1) (iL (Z6 [0,1]) 2 1 fun v11=>ZP 0 [(30,Z4 [0,1])] (Zz [] (TN [0,1] 1) (iL (Z6 [3,0]) 2 1 fun v12=>ZP 0 [(32,Z4 [3,0])] (Zz [] (TN [3,0] 3) (iL (Z6 [3]) 1 1 fun v13=>ZP 0 [(34,Z4 [3])] (Zz [] (TN [3] 1) (iL (Z6 [1,3,0]) 3 1 fun v14=>ZP 0 [(36,Z4 [1,3,0])] (Zz [] (TN [1,3,0] 0) (iL (Xr [Func.mk [3] 0 (Z1.mk 0 0 []),Func.mk [0] 1 (Z1.mk 0 0 []),Func.mk [0,1] 1 (Z1.mk 0 0 []),Func.mk [3,0] 3 (Z1.mk 0 0 []),Func.mk [3] 1 (Z1.mk 0 0 []),Func.mk [1,3,0] 0 (Z1.mk 0 0 [])]) 6 5 fun v15=>Z0 (ar (iL (Z6 [0]) 1 1 fun v16=>ZP 0 [(39,Z4 [0])] (Zz [] (TN [0] 0) (iL (Z6 [0,0]) 2 1 fun v17=>ZP 0 [(41,Z4 [0,0])] (Zz [] (TN [0,0] 0) (iL (Z6 [1,0]) 2 1 fun v18=>ZP 0 [(43,Z4 [1,0])] (Zz [] (TN [1,0] 0) (iL (Z6 [0]) 1 1 fun v19=>ZP 0 [(45,Z4 [0])] (Zz [] (TN [0] 1) (iL (Xr [Func.mk [0] 0 (Z1.mk 0 0 []),Func.mk [0,0] 0 (Z1.mk 0 0 []),Func.mk [1,0] 0 (Z1.mk 0 0 []),Func.mk [0] 1 (Z1.mk 0 0 [])]) 4 5 fun v20=>Z0 (aD 26 (Zj 23 26 [2,3,4] (dn 5 (.i (([Func.mk [1] 0 (Z1.mk 0 0 []),Func.mk [1,1] 1 (Z1.mk 0 0 []),Func.mk [1] 1 (Z1.mk 0 0 []),Func.mk [1,0] 1 (Z1.mk 0 0 []),Func.mk [2,1] 1 (Z1.mk 0 0 []),Func.mk [1,1] 0 (Z1.mk 0 0 [])].length:Nat):Int)) (.i (((Xr [Func.mk [1] 0 (Z1.mk 0 0 []),Func.mk [1,1] 1 (Z1.mk 0 0 []),Func.mk [1] 1 (Z1.mk 0 0 []),Func.mk [1,0] 1 (Z1.mk 0 0 []),Func.mk [2,1] 1 (Z1.mk 0 0 []),Func.mk [1,1] 0 (Z1.mk 0 0 [])]).length:Nat):Int)) (li (by rw [Cv])) (Zj 19 22 [9,10,11] (dn 12 (.i (([Func.mk [3] 0 (Z1.mk 0 0 []),Func.mk [0] 1 (Z1.mk 0 0 []),Func.mk [0,1] 1 (Z1.mk 0 0 []),Func.mk [3,0] 3 (Z1.mk 0 0 []),Func.mk [3] 1 (Z1.mk 0 0 []),Func.mk [1,3,0] 0 (Z1.mk 0 0 [])].length:Nat):Int)) (.i (((Xr [Func.mk [3] 0 (Z1.mk 0 0 []),Func.mk [0] 1 (Z1.mk 0 0 []),Func.mk [0,1] 1 (Z1.mk 0 0 []),Func.mk [3,0] 3 (Z1.mk 0 0 []),Func.mk [3] 1 (Z1.mk 0 0 []),Func.mk [1,3,0] 0 (Z1.mk 0 0 [])]).length:Nat):Int)) (li (by rw [Cv])) (Zj 15 18 [16,17,18] (dn 19 (.i (([Func.mk [0] 0 (Z1.mk 0 0 []),Func.mk [0,0] 0 (Z1.mk 0 0 []),Func.mk [1,0] 0 (Z1.mk 0 0 []),Func.mk [0] 1 (Z1.mk 0 0 [])].length:Nat):Int)) (.i (((Xr [Func.mk [0] 0 (Z1.mk 0 0 []),Func.mk [0,0] 0 (Z1.mk 0 0 []),Func.mk [1,0] 0 (Z1.mk 0 0 []),Func.mk [0] 1 (Z1.mk 0 0 [])]).length:Nat):Int)) (li (by rw [Cv])) (Z7 0 (dL 0 [] [] (Z6 []) 0 1 fun v21=>Yr 13 13 [] [(48,Z4 [])] (Z7 1 (Yp 1 [] [] [] (TN [] 0) (Z7 6 (dc 6 [22] [] [] (W2 rd bs (p+1) (([Func.mk [1] 0 (Z1.mk 0 0 []),Func.mk [1,1] 1 (Z1.mk 0 0 []),Func.mk [1] 1 (Z1.mk 0 0 []),Func.mk [1,0] 1 (Z1.mk 0 0 []),Func.mk [2,1] 1 (Z1.mk 0 0 []),Func.mk [1,1] 0 (Z1.mk 0 0 [])].length:Nat):Int) (ZH:=ob)) ?_)))))))))))))))))))))))))))))))))))))))))))))))))))))
 rintro _ _ ⟨k1,rfl,rfl,Yh⟩
 have qhp2:=Yh.lt (by simp)
 simp only [YR,Xu] at qhp2
 obtain ⟨x1,Z3⟩:=Zt [Func.mk [1] 0 (Z1.mk 0 0 []),Func.mk [1,1] 1 (Z1.mk 0 0 []),Func.mk [1] 1 (Z1.mk 0 0 []),Func.mk [1,0] 1 (Z1.mk 0 0 []),Func.mk [2,1] 1 (Z1.mk 0 0 []),Func.mk [1,1] 0 (Z1.mk 0 0 [])] k1.toNat (by simp only [YR,Xu];omega)
 refine dx 7 (Zh (some v8) k1 5 (F5 Z3)) (Zj 9 10 [8] (Z7 13 (dc 13 [0] [] [] (W2 rd bs ((p+1)+1) (([Func.mk [3] 0 (Z1.mk 0 0 []),Func.mk [0] 1 (Z1.mk 0 0 []),Func.mk [0,1] 1 (Z1.mk 0 0 []),Func.mk [3,0] 3 (Z1.mk 0 0 []),Func.mk [3] 1 (Z1.mk 0 0 []),Func.mk [1,3,0] 0 (Z1.mk 0 0 [])].length:Nat):Int) (ZH:=ob)) ?_)))
 rintro _ _ ⟨k2,rfl,rfl,YE⟩
 have qhp3:=YE.lt (by simp)
 simp only [YR,Xu] at qhp3
 obtain ⟨x2,Zr⟩:=Zt [Func.mk [3] 0 (Z1.mk 0 0 []),Func.mk [0] 1 (Z1.mk 0 0 []),Func.mk [0,1] 1 (Z1.mk 0 0 []),Func.mk [3,0] 3 (Z1.mk 0 0 []),Func.mk [3] 1 (Z1.mk 0 0 []),Func.mk [1,3,0] 0 (Z1.mk 0 0 [])] k2.toNat (by simp only [YR,Xu];omega)
 refine dx 14 (Zh (some v15) k2 5 (F5 Zr)) (Zj 6 7 [15] (Z7 20 (dc 20 [0] [] [] (W2 rd bs (((p+1)+1)+1) (([Func.mk [0] 0 (Z1.mk 0 0 []),Func.mk [0,0] 0 (Z1.mk 0 0 []),Func.mk [1,0] 0 (Z1.mk 0 0 []),Func.mk [0] 1 (Z1.mk 0 0 [])].length:Nat):Int) (ZH:=ob)) ?_)))
 rintro _ _ ⟨k3,rfl,rfl,YN⟩
 have qhp4:=YN.lt (by simp)
 simp only [YR,Xu] at qhp4
 obtain ⟨x3,YI⟩:=Zt [Func.mk [0] 0 (Z1.mk 0 0 []),Func.mk [0,0] 0 (Z1.mk 0 0 []),Func.mk [1,0] 0 (Z1.mk 0 0 []),Func.mk [0] 1 (Z1.mk 0 0 [])] k3.toNat (by simp only [YR,Xu];omega)
 refine dx 21 (Zh (some v20) k3 5 (F5 YI)) (Zj 3 4 [22] (Z7 23 (dKN 23 [] [] (Zo (Xr [Func.mk [] 0 (Z1.mk 0 0 []),x1,x2,x3])) 4 5 fun g1=>Zj 1 2 [24] (Z7 25 (YJ 25 22 [] [] b2 [JG ds1 v1,.ms g1 0 4 4] (de (Y5 1 (iL (Z6 [4,4,3,2,4]) 5 1 fun v22=>ZP 0 [(74,Z4 [4,4,3,2,4])] (ic [3] (Z5p rd bs ((((p+1)+1)+1)+1) [4,4,3,2,4] (ZH:=ob) (hy:=(by decide))) ?_)))))))))
 rintro _ _ ⟨nn1,rfl,rfl,X8⟩
 have hnn:=Z9p (a:=2) (b:=4) X8 (by decide)
 refine Z0 (Zv 3 [2] (Zm (Iu 3 g1 4 4 nn1 5 (Zo (Xr [Func.mk [] 0 (Z1.mk 0 0 []),x1,x2,x3]))) (Z2 1 (ZI 2 b2 [JG ds1 v1,.ms g1 0 nn1 4] (ie (YL 1 (ia (((nn1:Int)-1)) (((nn1:Int))-(1)) (Z0 (ab 0 (Y4 (fun fz gz m F h=>∃(j:Nat) (rq:List Func) (pq:Nat),(j<=nn1)/\(GL ds1 nn1 j rq)/\(p<=pq/\pq+90000*j<=p+10+90000*nn1)/\F=sF [0,2,3] fz [(8,.i ((j:Int)-1))]/\h=[Zc gz 0,Yx rd bs pq,Zc gz 25,Zc gz 24,XO g1 rq]/\m=j+1) _ _ _ ⟨nn1,[Func.mk [] 0 (Z1.mk 0 0 []),x1,x2,x3],((((p+1)+1)+1)+1)+1,ob,(GL.start (Lo Z3 (by decide)) (Lo Zr (by decide)) (Lo YI (by decide))),ob,rfl,rfl,rfl⟩ (wk [0,0,23,22,1] fl) ?_))))))))))
 rintro m F h ⟨j,rq,pq,Yg,Zi,Zw,rfl,rfl,rfl⟩
 refine X0 (Y0 (((j:Int)-1)>=0) (fun Za=>?_) (fun Za=>?_))
 ·obtain ⟨f1,hf1⟩:=Zt (rq.take nn1) (((j:Int)-1).toNat) (by rw [Zi.len_take om];omega)
  have hfq:rq[j-1]? = some f1:=by have h:=hf1;rw [show ((j:Int)-1).toNat=j-1 by omega,List.getElem?_take_of_lt om] at h;exact h
  refine ak (aq (ab 1 (ar (Qo 3 [(88,.agg [ZU ds1,.ms g1 0 nn1 4])] [0] (ic [1,3] (Z4h rd bs pq (W8.mk ds1 (rq.take nn1)) g1 rq f1 ((j:Int)-1) nn1 (ZH:=ob) (hg:=(Zi.gp hgd om)) (Wq:=(List.take_prefix nn1 rq)) (hf:=hf1) (h0:=(fun h=>Zi.zero f1 (by rw [<-hfq,show j-1=0 by omega]))) (hn:=(Zi.len_take om))) ?_)))))
  rintro _ _ ⟨e1,p21,rfl,rfl,XJ⟩
  have hbw:eW ds1 nn1 f1.params.length e1/\(e1).sz<=30:=by have h:=XJ.1;unfold GE at h;rw [show (W8.mk ds1 (rq.take nn1)).funcs.length=nn1 from Zi.len_take om] at h;exact h
  exact iA [.i 0,.i 0,nl] fun b3=>ZI 0 b3 (YX e1) (ie (aE 19 (ZJ 13 19 [0,1,2,3,4,5] [3,3] (dx 6 (Wp g1 nn1 4 (((j:Int)-1).toNat) 5 ((j:Int)-1)) (Zj 11 12 [7] (U7 8 (Vl 2 g1 4 4 5 ((((j:Int)-1).toNat)*5+0) (Zo (Xr rq)) [Z4 f1.params] 31 (Z4 f1.params) (UE (List.take_prefix nn1 rq) hf1 0 rfl (V8 rfl))) (ZJ 7 10 [9,10,11] [3] (dx 12 (Wp g1 nn1 4 (((j:Int)-1).toNat) 5 ((j:Int)-1)) (Zj 5 6 [13] (U7 14 (Vl 2 g1 4 4 5 ((((j:Int)-1).toNat)*5+1) (Zo (Xr rq)) [.i f1.result] 3 (.i f1.result) (UE (List.take_prefix nn1 rq) hf1 1 rfl (V8 rfl))) (ZJ 2 4 [15,16] [0] (dx 17 (Wp g1 nn1 4 (((j:Int)-1).toNat) 5 ((j:Int)-1)) (Z7 18 (BG 18 2 [] [] g1 4 4 5 ((((j:Int)-1).toNat)*5) [Z4 f1.params,.i f1.result,.i e1.op,.i e1.num,Xy e1.kids] (Zo (Xr rq)) (Zo (Xr (rq.set ((j:Int)-1).toNat ⟨f1.params,f1.result,e1⟩))) (by rw [HW,Zi.len];simp only [YR,Xu];omega) (Z41 ⟨f1.params,f1.result,e1⟩ (by rw [Zi.len];omega)) (de (az (Z2 1 (ia ((((j:Int)-1)-1)) (((j:Int)-1)-(1)) (Z0 (ZL ⟨(j-1),(rq.set ((j:Int)-1).toNat ⟨f1.params,f1.result,e1⟩),p21,ob,(by rw [show ((j:Int)-1).toNat=j-1 by omega];exact Zi.set om hfq hbw),ob,rfl,rfl,rfl⟩ (wk [3,2,2,2,0] (fc (x:=.i (((j:Int)-1)-1)) li fl))))))))))))))))))))))
 exact ax 0 (Zv 1 [0] (ZI 2 b1 [JG ds1 v1,.ms g1 0 nn1 4] (ie (ZD (r3 [4,2] [.agg [JG ds1 v1,.ms g1 0 nn1 4]] [0] [(b1,b1)] ⟨rq,ds1,nn1,g1,pq,rfl,rfl,⟨⟨by rw [show j=0 by omega] at Zi;exact Zi,hgd,by omega,by omega⟩,by omega⟩⟩ (Zd.agg (.cons (Zd.forget _ _) (.cons (lr _) .nil))))))))
theorem Z53 (rd:Nat) (bs:LI) (p:Nat) (ZH:∀z∈bs,0<=z/\z<=255) (hp:p+400000<=1000000000:=by exact ob):Zl 134 [.p rd 0] [Yx rd bs p] (fun r h=>∃(g:W8) (p2:Nat),r=JU g/\h=[Yx rd bs p2]/\H2 g/\p<=p2/\p2<=p+400000):=(Ww.frzP (E:=List Func × List Zf × Nat × Nat) (ds:=fun e=>e.2.1) (rs:=fun e=>e.1) (m:=fun e=>e.2.2.1) (hs:=fun e=>[.obj rd [U9 bs,.i (e.2.2.2:Nat)]]) (Q:=fun e=>(GL e.2.1 e.2.2.1 0 e.1/\GD e.2.1/\1<=e.2.2.1/\e.2.2.1<=4)/\p<=e.2.2.2/\e.2.2.2<=p+400000)
  ((Z54 rd bs p ZH hp).mono fun r h ⟨rs,ds,m,gb,p2,hr,hh,hq⟩=>⟨(rs,ds,m,p2),gb,hr,hh,hq⟩) fun e hq=>⟨hq.1.2.2.2,hq.1.1.len⟩).mono
  fun r h ⟨e,hr,hh,hq⟩=>⟨⟨e.2.1,e.1.take e.2.2.1⟩,e.2.2.2,hr,hh,hq.1.1.done hq.1.2.1 hq.1.2.2,hq.2⟩
theorem Ia (a:Nat) (n:Nat) (ha:a<=1000000:=by exact ob) (hn:n<=1000000:=by exact ob):Zl 175 [.i a,.i n] [] (fun r h=>∃(xs:LI),r=Z4 xs/\h=[]/\xs.length=n/\∀i∈xs,(a:Int)<=i/\i<(a:Int)+n):=by
 refine ZG 20 Tryz.func175 (ZF (ar (iL (Z6 []) 0 1 fun v1=>?_)))
 refine Z0 (Yb (ab 0 (Y4 (fun fz gz m F h=>∃(k:Nat) (ys:LI) (u:Value),(k<=n)/\(ys.length=k)/\(∀i∈ys,(a:Int)<=i/\i<(a:Int)+n)/\F=sF [0,1] fz [(5,ZT ys u),(6,.i k)]/\h=[.tail u 1]/\m=n-k) _ _ _ ⟨0,[],v1,ob,ob,(fun i hi=>by cases hi),rfl,rfl,rfl⟩ (wk [0] (fr (Yd fl))) ?_)))
 rintro m F h ⟨k,ys,u,Yg,Zi,Zw,rfl,rfl,rfl⟩
 refine X0 (Y0 ((k:Int)<(n:Int)) (fun Za=>?_) (fun Za=>?_))
 ·exact ak (aq (ab 1 (az (Z2 3 (ia (((a+k:Nat):Int)) (((a:Int))+((k:Int))) (iL (Z6 [((a+k:Nat):Int)]) 1 1 fun v2=>ZP 0 [(17,Z4 [((a+k:Nat):Int)])] (ip 1 (Z6 (ys++[((a+k:Nat):Int)])) (Z6 ys) (Z6 [((a+k:Nat):Int)]) u none 1 (YA _) (YA _) (W6 _) (by simp<;>omega) (by simp [W5,Z6]) fun v3=>Z0 (az (Z2 1 (ZK k (Z0 (ZL ⟨k+1,(ys++[((a+k:Nat):Int)]),v3,ob,ob,(Xz Zw om),rfl,rfl,rfl⟩ (wk [0] (fr (ZO k fl)))))))))))))))
 exact ax 0 (ar (Zq (r2 [] [ZT ys u] ⟨ys,rfl,rfl,⟨by omega,Zw⟩⟩ (Zd.forget _ _))))
theorem Ny (l:Nat) (xs:List Z5) (w:Value) (q:Nat) (s:Z5) (hl:xs.length<=4000000000:=by exact ob) (hq:q<=1000000:=by exact ob):Zl 269 [.p l 0,YG s] [.obj l [YY xs w,.i q],.tail w 5] (fun r h=>∃(w2:Value),r=.i q/\h=[.obj l [YY (xs++[s]) w2,.i (((q+1):Nat):Int)],.tail w2 5]):=by
 exact ZG 28 Tryz.func269 (ar (iA (Xv s) fun b1=>Z0 (aD 11 (ZJ 5 11 [0,1,2,3,4,5] [1,0] (Z7 6 (WC 6 [1] [l] [YG s] (Zy [s]) (VG [s]).symm 1 5 fun v1=>Yr 4 4 [] [(11,Wz [s])] (Z7 7 (dp 7 3 [] [] (Zy (xs++[s])) (Zy xs) (Zy [s]) w none 5 (Xj _) (Xj _) (VW _) (by simp<;>omega) (by simp [WW,Zy]) fun v2=>Zj 1 3 [8,9] (Z7 10 (YJ 10 3 [] [] l [YY (xs++[s]) v2,.i q] (de (Zv 5 [0] (ZK q (Z2 2 (ZI 0 l [YY (xs++[s]) v2,.i (q+1:Nat)] (ie (Zv 4 [0] (ia ((((q+1:Nat):Int)-1)) ((((q+1:Nat):Int))-(1)) (Zq (r2 [0,0] [.i (((q+1:Nat):Int)-1)] ⟨v2,rfl,rfl⟩ li))))))))))))))))))))
theorem NI (g:W8) (e:Z1) (us:LI) (q:Nat) (bb:Nat) (he:eW g.decls g.funcs.length us.length e:=by exact ob) (hu:∀a∈us,0<=a/\a<(q:Int)) (hul:us.length+4*e.sz<=100000:=by exact ob) (hql:q+6*e.sz<=100000:=by exact ob) (hb:e.sz<bb:=by exact ob) (ih:∀(l:Nat) (e2:Z1) (us2:LI) (xs2:List Z5) (w2:Value) (q2:Nat),(eW g.decls g.funcs.length us2.length e2)->(∀a∈us2,0<=a/\a<(q2:Int))->(us2.length+4*e2.sz<=100000)->(xs2.length+6*e2.sz<=100000)->(q2+6*e2.sz<=100000)->(e2.sz<bb)->Zl 224 [.p l 0,JU g,Y3 e2,Z4 us2] [.obj l [YY xs2 w2,.i q2],.tail w2 5] (fun r h=>∃(ys:List Z5) (v:Int) (w2:Value),r=.i v/\h=[.obj l [YY (xs2++ys) w2,.i (((q2+YZ ys):Nat):Int)],.tail w2 5]/\LW g.decls g.funcs.length q2 e2 ys v)):Zl 174 [JU g,Y3 e,Z4 us,.i q] [] (fun r h=>∃(b:Z9),r=ZZ b/\h=[]/\LB g.decls g.funcs.length q e b):=by
 refine ZG 26 Tryz.func174 (ar (iA (IA g) fun b1=>iA (YX e) fun b2=>iA [nl,.i 0] fun b3=>ie (ar (iL (Zy []) 0 5 fun v1=>Z2 2 (iA [YY [] v1,.i q] fun b4=>Z0 (Zv 4 [4,3] (ic [0,0] (ih b4 e us [] v1 q he hu ob ob ob ob) ?_)))))))
 rintro _ _ ⟨ys1,v2,w21,rfl,rfl,ZW⟩
 have hlw:=ZW
 exact Z0 (Zv 6 [0] (ZI 2 b3 [YY ([]++ys1) w21,.i v2] (ie (ZD (r3 [] [.agg [YY ([]++ys1) w21,.i v2]] [0] [(b3,b3)] ⟨(Z9.mk ([]++ys1) v2),rfl,rfl,(by rw [Cc];exact hlw.block)⟩ (Zd.agg (.cons (Zd.forget _ _) (.cons (lr _) .nil))))))))
theorem Z5h (l:Nat) (g:W8) (e:Z1) (us:LI) (xs:List Z5) (w:Value) (q:Nat) (hd:GD g.decls) (he:eW g.decls g.funcs.length us.length e) (hu:∀a∈us,0<=a/\a<(q:Int)) (hul:us.length+4*e.sz<=100000) (hxl:xs.length+6*e.sz<=100000) (hql:q+6*e.sz<=100000) (ih:∀(l:Nat) (e2:Z1) (us2:LI) (xs2:List Z5) (w2:Value) (q2:Nat),(eW g.decls g.funcs.length us2.length e2)->(∀a∈us2,0<=a/\a<(q2:Int))->(us2.length+4*e2.sz<=100000)->(xs2.length+6*e2.sz<=100000)->(q2+6*e2.sz<=100000)->(e2.sz<e.sz)->Zl 224 [.p l 0,JU g,Y3 e2,Z4 us2] [.obj l [YY xs2 w2,.i q2],.tail w2 5] (fun r h=>∃(ys:List Z5) (v:Int) (w2:Value),r=.i v/\h=[.obj l [YY (xs2++ys) w2,.i (((q2+YZ ys):Nat):Int)],.tail w2 5]/\LW g.decls g.funcs.length q2 e2 ys v)):Zl 224 [.p l 0,JU g,Y3 e,Z4 us] [.obj l [YY xs w,.i q],.tail w 5] (fun r h=>∃(ys:List Z5) (v:Int) (w2:Value),r=.i v/\h=[.obj l [YY (xs++ys) w2,.i (((q+YZ ys):Nat):Int)],.tail w2 5]/\LW g.decls g.funcs.length q e ys v):=by
 have Xt:=hd.ok
 obtain ⟨ho,h12,h13,h7,h8,h9,hnum,hkl,hks⟩:=(Z3i e).1 he
 have hez:=e.sz_eq
 refine ZG 148 Tryz.func224 (ar (iA (IA g) fun b1=>iA (YX e) fun b2=>Z0 (X0 (Vo [0] (ab 0 (ar (YB (e.op==12) Zp (fun Za=>?_) (fun Za=>?_))))))))
 ·refine Zv 3 [0] ?_
  obtain ⟨x1,Z3⟩:=Zt us e.num.toNat (by have:=h12 om;omega)
  have huv:=hu _ (Y2 Z3)
  exact Zm (Zh none e.num 1 (ZY Z3)) (Zq (r1 [2,2] ⟨[],x1,w,rfl,rfl,(LW.var huv)⟩ (eq:=(ro (ls:=[YY xs w,.i q]) (by simp [YZ]) (rc rz)))))
 refine ar (YB (e.op==13) Zp (fun Zg=>?_) (fun Zg=>?_))
 ·refine aD 9 (ZJ 5 9 [0,1,2,3] [1,0] ?_)
  obtain ⟨x2,Zr⟩:=Zt e.kids 0 (by have:=h13 om;omega)
  have hekx2:=Cw hks Zr
  have hszx2:=BN Zr
  have htzx2:=AO Zr
  rw [Vc] at hekx2
  rw [R4 om] at hekx2
  refine dx 4 (Zh none 0 3 (Cu Zr)) (Zj 2 4 [5,6] (Z7 7 (dc 7 [2,2] [] [] (ih l x2 us xs w q (by first|assumption|(rw [Yw];assumption)) (by first|assumption|exact Eo hu hlwhp1.v|exact GK hu) (by first|omega|(simp only [Yw,YR,Xu];omega)) (by first|omega|(simp only [Yw,YR,Xu];omega)) ob ob) ?_)))
  rintro _ _ ⟨ys1,v1,w21,rfl,rfl,ZW⟩
  have hlwhp1:=ZW
  have hldhp1:=ZW.dn
  refine Zj 0 1 [8] (de (aD 12 (ZJ 8 12 [0,1,2,3] [3,2] ?_)))
  obtain ⟨x3,YI⟩:=Zt e.kids 1 (by have:=h13 om;omega)
  have hz2:=Ng Zr YI
  have hz3:=x2.sz_eq
  have hekx3:=Cw hks YI
  have hszx3:=BN YI
  have htzx3:=AO YI
  rw [Vc] at hekx3
  rw [R4 om] at hekx3
  refine dx 4 (Zh none 1 3 (Cu YI)) (Zj 4 7 [5,6,7] (Z7 8 (dL 8 [1,2] [b2,b1] (Z6 [v1]) 1 1 fun v2=>Yr 3 3 [] [(45,Z4 [v1])] (Z7 9 (dc 9 [] [1,2] [b2,b1] (QV us [v1]) ?_)))))
  rintro _ _ ⟨v3,rfl,rfl⟩
  refine Yr 2 2 [] [(46,Z4 (us++[v1]))] (Z7 10 (dc 10 [2,2] [] [] (ih l x3 (us++[v1]) (xs++ys1) w21 (q+YZ ys1) (by first|assumption|(rw [Yw];assumption)) (by first|assumption|exact Eo hu hlwhp1.v|exact GK hu) (by first|omega|(simp only [Yw,YR,Xu];omega)) (by first|omega|(simp only [Yw,YR,Xu];omega)) ob ob) ?_))
  rintro _ _ ⟨ys2,v4,w22,rfl,rfl,Yh⟩
  have hlwhp2:=Yh
  have hldhp2:=Yh.dn
  exact Zj 0 1 [11] (de (ZD (r1 [0,0] ⟨(ys1++ys2),v4,w22,rfl,rfl,(LW.let_ hlwhp1 hlwhp2 (by have:=Ng Zr YI;omega))⟩ (eq:=(ro (ls:=[YY ((xs++ys1)++ys2) w22,.i ((((q+YZ ys1)+YZ ys2):Nat):Int)]) (by rw [Jb,<-Au,TH]) (rc rz))))))
 refine Yb (XP (fun fz gz F h=>F=sF [0,3,5,6] fz [(48,.b ((e.op==7)||(e.op==8)))]/\h=gz) ?_ ?_)
 ·refine ac (e.op==7) Zp (fun ZC=>?_) (fun ZC=>?_)
  ·exact ak (ZQ ⟨rfl,rfl⟩ (ZE 4 (fc (x:=.b (e.op==7)) (lb (by first|rfl|(rw [Ze ZC])|(rw [Z8 ZC])|(simp [ZC];done)|(rw [Xs];simp [ZC];done)|omega)) fl)))
  exact UW (ZQ ⟨rfl,rfl⟩ (ZE 4 (fc (x:=.b (e.op==8)) (lb (by first|rfl|(rw [Ze ZC])|(rw [Z8 ZC])|(simp [ZC];done)|(rw [Xs];simp [ZC];done)|omega)) fl)))
 rintro F h ⟨rfl,rfl⟩
 refine ac ((e.op==7)||(e.op==8)) (p:=(e.op=7)∨(e.op=8)) (Yj Zp Zp) (fun Ye=>?_) (fun Ye=>?_)
 ·refine aD 9 (ZJ 5 9 [0,1,2,3] [1,0] ?_)
  obtain ⟨x4,WE⟩:=Zt e.kids 0 om
  have hekx4:=Cw hks WE
  have hszx4:=BN WE
  have htzx4:=AO WE
  rw [Vc] at hekx4
  rw [Zbq om] at hekx4
  refine dx 4 (Zh none 0 3 (Cu WE)) (Zj 2 4 [5,6] (Z7 7 (dc 7 [2,2] [] [] (ih l x4 us xs w q (by first|assumption|(rw [Yw];assumption)) (by first|assumption|exact Eo hu hlwhp1.v|exact GK hu) (by first|omega|(simp only [Yw,YR,Xu];omega)) (by first|omega|(simp only [Yw,YR,Xu];omega)) ob ob) ?_)))
  rintro _ _ ⟨ys3,v5,w23,rfl,rfl,YE⟩
  have hlwhp3:=YE
  have hldhp3:=YE.dn
  refine Zj 0 1 [8] (de (ar (iL (YK []) 0 2 fun v6=>Z0 (Zv 4 [4,3] (ic [] (JI g.decls e.num) ?_)))))
  rintro _ _ ⟨v7,rfl,rfl⟩
  refine Z0 (Yb (ab 1 (Y4 (fun fz gz m F h=>∃(k:Nat) (cs:List Z9) (u:Value),(1<=k/\k<=e.kids.length)/\(cs.length+1=k)/\(TM g.decls g.funcs.length (Tj g.decls e.op e.num (q+YZ ys3)) 0 cs)/\(X9 cs+6*x4.sz<=cs.length+6*Xx (e.kids.take k))/\(QO WR cs)/\F=sF [0,3,5,6,10] fz [(11,Ti cs u),(12,Z4 (ZX g.decls e.num)),(13,.i k)]/\h=[Zc gz 2,Zc gz 4,Zc gz 5,.tail u 2,Zc gz 3]/\m=e.kids.length-k) _ _ _ ⟨1,[],v6,ob,ob,True.intro,(by have h:Xx (e.kids.take 1)=Xx (e.kids.take 0)+x4.sz:=AO WE;simp only [X9,Xu];omega),True.intro,rfl,rfl,rfl⟩ (wk [2,3,3,1,1] (fr (fc (x:=ZT (ZX g.decls e.num) v7) (Zd.forget _ _) (fc (x:=.i 1) li fl)))) ?_)))
  rintro m F h ⟨k,cs,u,Yg,Zi,Zw,Yq,XR,rfl,rfl,rfl⟩
  refine Yi 3 [1] (iw (HL e.kids) (Y0 ((k:Int)<(e.kids.length:Int)) (fun Xf=>?_) (fun Xf=>?_)))
  ·refine ak (aq (ab 2 (ZF (X0 (Vo [1] (XP (fun fz gz F h=>∃(mf:Nat),(Tj g.decls e.op e.num (q+YZ ys3) cs.length=(q+YZ ys3)+mf)/\(mf<=3)/\(TT g.decls e.op e.num us.length k=us.length+mf)/\F=sF [0,3,5,6,10,11,12,13] fz [(14,.i mf)]/\h=gz) ?_ ?_))))))
   ·refine ac (e.op==8) Zp (fun Xb=>?_) (fun Xb=>?_)
    ·refine aE 10 (ZJ 6 10 [0,1,2,3] [2] (da 4 (((k-1:Nat):Int)) (((k:Int))-(1)) ?_))
     obtain ⟨x5,Ug⟩:=Zt (ZX g.decls e.num) (k-1) (by have:=h8 om;omega)
     exact dx 5 (Zh none ((k-1:Nat):Int) 1 (ZY Ug)) (Zj 3 4 [6] (Z7 7 (Yp 7 [] [] [] (Kj g.decls x5) (dn 8 (.i (((ZV g.decls x5).length:Nat):Int)) (.i (((Z6 (ZV g.decls x5)).length:Nat):Int)) (li (by rw [Y6])) (Zj 0 1 [9] (de (ZQ ⟨(ZV g.decls x5).length,(Lj om (by rw [show cs.length=k-1 by omega];exact Ug)),(by have:=U6 Xt x5;omega),(Zbr om (show k=(k-1)+1 by omega) Ug),rfl,rfl⟩ (ZE 5 (fc (x:=.i (((ZV g.decls x5).length:Nat):Int)) (li (by first|rfl|(rw [Ze Xb])|(rw [Z8 Xb])|(simp [Xb];done)|(rw [Xs];simp [Xb];done)|omega)) fl)))))))))
    exact ak (ZQ ⟨0,(Lk om),om,(R5 om),rfl,rfl⟩ (ZE 5 (fc (x:=.i 0) (li (by first|rfl|(rw [Ze Xb])|(rw [Z8 Xb])|(simp [Xb];done)|(rw [Xs];simp [Xb];done)|omega)) fl)))
   rintro F h ⟨mf,Z86,Zfs,Z87,rfl,rfl⟩
   refine aE 25 (ZJ 20 25 [0,1,2,3,4] [2,1] ?_)
   obtain ⟨x6,BT⟩:=Zt e.kids k om
   have hekx6:=Cw hks BT
   have hszx6:=BN BT
   have htzx6:=AO BT
   rw [Vc] at hekx6
   rw [Z87] at hekx6
   have htk:=A5 (xs:=e.kids) (k+1)
   have hbl:=EL cs
   refine dx 5 (Zh none (k:Int) 3 (Cu BT)) (ZJ 7 19 [6,7,8,9,10,11,12,15,16,17,18,19] [0,0] (da 20 ((((q+YZ ys3)+mf:Nat):Int)) (((((q+YZ ys3):Nat):Int))+((mf:Int))) (Z7 13 (dc 13 [] [0,1,2] [l,b2,b1] (Ia (q+YZ ys3) mf) ?_))))
   rintro _ _ ⟨xs1,rfl,rfl,YN⟩
   have hnx:=YN
   refine Z7 14 (dc 14 [] [0,1,2] [l,b2,b1] (QV us xs1) ?_)
   rintro _ _ ⟨v8,rfl,rfl⟩
   refine Yr 4 4 [] [(98,Z4 (us++xs1))] (Z7 21 (dc 21 [] [] [] (NI g x6 (us++xs1) ((q+YZ ys3)+mf) e.sz (he:=(by rw [Yw,hnx.1];exact hekx6)) (hu:=(Zet hu hnx.2)) (hul:=(by rw [Yw,hnx.1];omega)) (hql:=om) (ih:=ih)) ?_))
   rintro _ _ ⟨b3,rfl,rfl,X8⟩
   have hlb:=X8
   exact Z7 22 (WC 22 [] [] [ZZ b3] (YK [b3]) (Tb [b3]).symm 1 2 fun v9=>Yr 2 2 [] [(106,XZ [b3])] (Z7 23 (dp 23 5 [] [] (YK (cs++[b3])) (YK cs) (YK [b3]) u none 2 (TK _) (TK _) (F3 _) (by simp<;>omega) (by simp [A1,YK]) fun v10=>Zj 0 1 [24] (de (az (Z2 1 (ZK k (Z0 (ZL ⟨k+1,(cs++[b3]),v10,ob,ob,(Ni Zw (by rw [Z86];exact hlb.1)),(by have:=hlb.2;rw [Dt,Yw];simp only [X9,YR,Xu];omega),(Pj XR hlb.op),rfl,rfl,rfl⟩ (wk [3,3,3,0,2] (fw (ZO k fl))))))))))))
  refine ax 1 (Zv 6 [1,1] (iL (Z6 [v5]) 1 1 fun v11=>ZP 2 [(116,.agg [.i e.op,.i e.num,.i 0,Z4 [v5],XZ cs])] (ic [1,4] (Ny l (xs++ys3) w23 (q+YZ ys3) (Z5.mk e.op e.num 0 [v5] cs) (hl:=(by first|(have h1:=KV zs;have h2:=A5 (xs:=e.kids) k;have h3:=BJ zs;(try simp only [Yw]);omega)|((try simp only [Yw]);omega))) (hq:=(by first|(have h1:=KV zs;have h2:=A5 (xs:=e.kids) k;have h3:=BJ zs;(try simp only [Yw]);omega)|((try simp only [Yw]);omega)))) ?_)))
  rintro _ _ ⟨w24,rfl,rfl⟩
  refine Z0 ?_
  have hcb:YC e.op=false:=by simp [YC];omega
  exact ZD (r1 [0,0] ⟨(ys3++[Z5.mk e.op e.num 0 [v5] cs]),(((q+YZ ys3):Nat):Int),w24,rfl,rfl,(LW.branch (s0:=x4.sz) (sr:=Xx (e.kids.take k)-x4.sz) om (fun h=>by have:=h7 h;omega) (fun h=>by have:=h8 h;omega) hnum hlwhp3.fs hlwhp3.v Zw om hlwhp3.sz (by have:=EL cs;omega) (by have:=A5 (xs:=e.kids) k;omega) hlwhp3.op XR)⟩ (eq:=(ro (ls:=[YY ((xs++ys3)++[(Z5.mk e.op e.num 0 [v5] cs)]) w24,.i ((((q+YZ ys3)+1):Nat):Int)]) (by rw [Dy (s:=Z5.mk e.op e.num 0 [v5] cs) hcb,<-Au,TH]) (rc rz))))
 refine ak (ar (iL (Z6 []) 0 1 fun v12=>?_))
 refine Z0 (Yb (ab 3 (Y4 (fun fz gz m F h=>∃(k:Nat) (asl:LI) (u:Value) (zs:List Z5) (w3:Value),(k<=e.kids.length)/\(asl.length=k)/\(Tp g.decls g.funcs.length q zs)/\(∀a∈asl,0<=a/\a<((q+YZ zs:Nat):Int))/\(Y8 zs<=6*Xx (e.kids.take k))/\(TQ WR zs)/\F=sF [0,3,5,6] fz [(15,ZT asl u),(16,.i k)]/\h=[Zc gz 1,Zc gz 2,.obj l [YY (xs++zs) w3,.i (((q+YZ zs):Nat):Int)],.tail u 1,.tail w3 5]/\m=e.kids.length-k) _ _ _ ⟨0,[],v12,[],w,ob,ob,True.intro,(fun a ha=>by cases ha),(by simp [Y8]),True.intro,rfl,rfl,rfl⟩ (wk [1,1,1,0,0] (fr (Yd fl)) (e:=(rc (rc (ro (ls:=[YY xs w,.i q]) (by simp [YZ]) (rc (rc rz))))))) ?_)))
 rintro m F h ⟨k,asl,u,zs,w3,Uo,XY,XS,J7,Zfg,MG,rfl,rfl,rfl⟩
 refine Yi 3 [0] (iw (HL e.kids) (Y0 ((k:Int)<(e.kids.length:Int)) (fun Vu=>?_) (fun Vu=>?_)))
 ·refine ak (aq (ab 4 (aD 10 (ZJ 5 10 [0,1,2,3,4] [1,0] ?_))))
  obtain ⟨x7,Fy⟩:=Zt e.kids k om
  have hzl:=KV zs
  have hzd:=BJ zs
  have htk:=A5 (xs:=e.kids) (k+1)
  have hekx7:=Cw hks Fy
  have hszx7:=BN Fy
  have htzx7:=AO Fy
  rw [Vc] at hekx7
  rw [R5 om] at hekx7
  refine dx 5 (Zh none (k:Int) 3 (Cu Fy)) (Zj 2 4 [6,7] (Z7 8 (dc 8 [2,3] [] [] (ih l x7 us (xs++zs) w3 (q+YZ zs) (by first|assumption|(rw [Yw];assumption)) (by first|assumption|exact Eo hu hlwhp1.v|exact GK hu) (by first|omega|(simp only [Yw,YR,Xu];omega)) (by first|omega|(simp only [Yw,YR,Xu];omega)) ob ob) ?_)))
  rintro _ _ ⟨ys4,v13,w25,rfl,rfl,XJ⟩
  have hlwhp6:=XJ
  have hldhp6:=XJ.dn
  exact Zj 0 1 [9] (de (az (Z2 2 (iL (Z6 [v13]) 1 1 fun v14=>ZP 0 [(137,Z4 [v13])] (ip 5 (Z6 (asl++[v13])) (Z6 asl) (Z6 [v13]) u none 1 (YA _) (YA _) (W6 _) (by simp<;>omega) (by simp [W5,Z6]) fun v15=>Z0 (az (Z2 1 (ZK k (Z0 (ZL ⟨k+1,(asl++[v13]),v15,(zs++ys4),w25,ob,ob,(Cy.2 ⟨XS,hlwhp6.fs⟩),(by rw [Jb,<-Au];exact Eo J7 hlwhp6.v),(by have:=hlwhp6.sz;rw [Ty];omega),(G5.2 ⟨MG,hlwhp6.op⟩),rfl,rfl,rfl⟩ (wk [4,4,2,0,1] (fr (ZO k fl)) (e:=(rc (rc (ro (ls:=[YY ((xs++zs)++ys4) w25,.i ((((q+YZ zs)+YZ ys4):Nat):Int)]) (by rw [Jb,<-Au,TH]) (rc (rc rz)))))))))))))))))
 refine ax 3 (Zv 6 [0,0] (iL (YK []) 0 2 fun v16=>ZP 1 [(146,.agg [.i e.op,.i e.num,.i 0,Z4 asl,XZ []])] (ic [3,4] (Ny l (xs++zs) w3 (q+YZ zs) (Z5.mk e.op e.num 0 asl []) (hl:=(by first|(have h1:=KV zs;have h2:=A5 (xs:=e.kids) k;have h3:=BJ zs;(try simp only [Yw]);omega)|((try simp only [Yw]);omega))) (hq:=(by first|(have h1:=KV zs;have h2:=A5 (xs:=e.kids) k;have h3:=BJ zs;(try simp only [Yw]);omega)|((try simp only [Yw]);omega)))) ?_)))
 rintro _ _ ⟨w26,rfl,rfl⟩
 refine Z0 ?_
 have hcb:YC e.op=false:=by simp [YC];omega
 exact ZD (r1 [0,0] ⟨(zs++[Z5.mk e.op e.num 0 asl []]),(((q+YZ zs):Nat):Int),w26,rfl,rfl,(LW.node om h9 hnum XS J7 om (by have:=A5 (xs:=e.kids) k;omega) MG)⟩ (eq:=(ro (ls:=[YY ((xs++zs)++[(Z5.mk e.op e.num 0 asl [])]) w26,.i ((((q+YZ zs)+1):Nat):Int)]) (by rw [Dy (s:=Z5.mk e.op e.num 0 asl []) hcb,<-Au,<-TH]) (rc rz))))
theorem Z5g (l:Nat) (g:W8) (e:Z1) (us:LI) (xs:List Z5) (w:Value) (q:Nat) (hd:GD g.decls) (he:eW g.decls g.funcs.length us.length e) (hu:∀a∈us,0<=a/\a<(q:Int)) (hul:us.length+4*e.sz<=100000) (hxl:xs.length+6*e.sz<=100000) (hql:q+6*e.sz<=100000):Zl 224 [.p l 0,JU g,Y3 e,Z4 us] [.obj l [YY xs w,.i q],.tail w 5] (fun r h=>∃(ys:List Z5) (v:Int) (w2:Value),r=.i v/\h=[.obj l [YY (xs++ys) w2,.i (((q+YZ ys):Nat):Int)],.tail w2 5]/\LW g.decls g.funcs.length q e ys v):=by
 have key:∀k:Nat,∀(l:Nat) (e2:Z1) (us2:LI) (xs2:List Z5) (w2:Value) (q2:Nat),(eW g.decls g.funcs.length us2.length e2)->(∀a∈us2,0<=a/\a<(q2:Int))->(us2.length+4*e2.sz<=100000)->(xs2.length+6*e2.sz<=100000)->(q2+6*e2.sz<=100000)->(e2.sz<k)->Zl 224 [.p l 0,JU g,Y3 e2,Z4 us2] [.obj l [YY xs2 w2,.i q2],.tail w2 5] (fun r h=>∃(ys:List Z5) (v:Int) (w2:Value),r=.i v/\h=[.obj l [YY (xs2++ys) w2,.i (((q2+YZ ys):Nat):Int)],.tail w2 5]/\LW g.decls g.funcs.length q2 e2 ys v):=by
  intro k
  induction k with
  | zero=>intro l e2 us2 xs2 w2 q2 h1 h2 h3 h4 h5 h6;omega
  | succ k ih=>intro l e2 us2 xs2 w2 q2 h1 h2 h3 h4 h5 h6;exact Z5h l g e2 us2 xs2 w2 q2 hd h1 h2 h3 h4 h5 fun l e3 us3 xs3 w3 q3 a1 a2 a3 a4 a5 a6=>ih l e3 us3 xs3 w3 q3 a1 a2 a3 a4 a5 om
 exact key (e.sz+1) l e us xs w q he hu hul hxl hql om
theorem I9 (g:W8) (e:Z1) (us:LI) (q:Nat) (hd:GD g.decls:=by exact ob) (he:eW g.decls g.funcs.length us.length e:=by exact ob) (hu:∀a∈us,0<=a/\a<(q:Int)) (hul:us.length+4*e.sz<=100000:=by exact ob) (hql:q+6*e.sz<=100000:=by exact ob):Zl 174 [JU g,Y3 e,Z4 us,.i q] [] (fun r h=>∃(b:Z9),r=ZZ b/\h=[]/\LB g.decls g.funcs.length q e b):=(NI g e us q (e.sz+1) he hu hul hql om (fun l e2 us2 xs2 w2 q2 h1 h2 h3 h4 h5 _=>Z5g l g e2 us2 xs2 w2 q2 hd h1 h2 h3 h4 h5))
theorem C7 (ds:List Zf) (hd:WI ds:=by exact ob):Zl 96 [ZU ds] [] (Yv (ZU ds)):=by
 have hdl:=hd.len
 refine ZG 55 Tryz.func96 (ZF (ar (iL (X2 []) 0 3 fun v1=>?_)))
 refine Z0 (Yb (ab 0 (Y4 (fun fz gz m F h=>∃(k:Nat) (v:Value),(k<=ds.length)/\F=sF [0] fz [(3,JG (ds.take k) v),(4,.i k)]/\h=[.tail v 3]/\m=ds.length-k) _ _ _ ⟨0,v1,ob,rfl,rfl,rfl⟩ (wk [0] (fc (x:=JG [] v1) (Zd.slh _ (Ym X2 rfl)) (Yd fl))) ?_)))
 rintro m F h ⟨k,v,Yg,rfl,rfl,rfl⟩
 refine YL 2 (iw (Up ds) (Y0 ((k:Int)<(ds.length:Int)) (fun Za=>?_) (fun Za=>?_)))
 ·obtain ⟨xd,hxd⟩:=Zt ds k om
  have hcl:=hd.cons_at hxd
  refine ak (aq (ab 1 (ar (iL (WV []) 0 1 fun v2=>?_))))
  refine Z0 (Yb (ab 2 (Y4 (fun fz gz m F h=>∃(j:Nat) (u:Value),(j<=xd.cons.length)/\F=sF [0,3,4] fz [(5,G0 (xd.cons.take j) u),(6,.i j)]/\h=[.tail u 1,Zc gz 1]/\m=xd.cons.length-j) _ _ _ ⟨0,v2,ob,rfl,rfl,rfl⟩ (wk [0,0] (fc (x:=G0 [] v2) (Zd.slh _ (Ym WV rfl)) (Yd fl))) ?_)))
  rintro m F h ⟨j,u,Uo,rfl,rfl,rfl⟩
  refine YL 3 (Zm (Zh none (k:Int) 3 (VN hxd)) (Z2 2 (iw (US xd.cons) (Y0 ((j:Int)<(xd.cons.length:Int)) (fun Zg=>?_) (fun Zg=>?_)))))
  ·refine ak (aq (ab 3 (az (Z2 3 (Zm (Zh none (k:Int) 3 (VN hxd)) (Z2 3 ?_))))))
   obtain ⟨x1,Z3⟩:=Zt xd.cons j om
   have hfl:=hd.fields_at hxd Z3
   refine Zm (Zh none (j:Int) 1 (Cr Z3)) (Z2 2 (ic [] (Ub x1.fields) ?_))
   rintro _ _ ⟨v3,rfl,rfl⟩
   exact ZP 1 [(36,Dm x1)] (iL (WV [x1]) 1 1 fun v4=>ZP 0 [(37,KQ [x1])] (ip 2 (WV (xd.cons.take (j+1))) (WV (xd.cons.take j)) (WV [x1]) u none 1 (HI _) (HI _) (Z38 _) (by simp<;>omega) (by rw [V7 Z3];simp [WV]) fun v5=>Z0 (az (Z2 1 (ZK j (Z0 (ZL ⟨j+1,v5,ob,rfl,rfl,rfl⟩ (wk [0,2] (fr (ZO j fl))))))))))
  exact ax 2 (aE 16 (Zj 13 16 [0,1,2] (dx 3 (Zh none (k:Int) 3 (VN hxd)) (Zj 8 12 [4,5,6,7] (dx 8 (Zh none (k:Int) 3 (VN hxd)) (Yr 3 7 [9,10,11,12] [(51,.agg [.i xd.frm,.i xd.to_,KQ (xd.cons.take j)])] (Z7 13 (dL 13 [] [] (X2 [Zf.mk xd.frm xd.to_ (xd.cons.take j)]) 1 3 fun v6=>Yr 2 2 [] [(52,ZU [Zf.mk xd.frm xd.to_ (xd.cons.take j)])] (Z7 14 (dp 14 2 [] [] (X2 (ds.take (k+1))) (X2 (ds.take k)) (X2 [Zf.mk xd.frm xd.to_ (xd.cons.take j)]) v none 3 (Jc _) (Jc _) (F4 _) (by simp<;>omega) (by rw [V7 hxd];simp [X2,Vq (show xd.cons.length<=j by omega)]) fun v7=>Zj 0 1 [15] (de (az (Z2 1 (ZK k (Z0 (ZL ⟨k+1,v7,ob,rfl,rfl,rfl⟩ (wk [0] (fr (ZO k fl)))))))))))))))))))
 exact ax 0 (ar (Zq (Y1 (JG (ds.take k) v) (Zd.sl _ (Ym X2 (by rw [Vq om]))))))
theorem Z5o (g:W8) (hg:H2 g:=by exact ob):Zl 133 [JU g] [] (fun r h=>∃(n:Zk),r=Yn n/\h=[]/\FO n 181 WR):=by
 have hgl:=hg.gp.len
 have Xt:=hg.gp.decls.ok
 refine ZG 49 Tryz.func133 (ar (iA (IA g) fun b1=>iA [nl,nl] fun b2=>ie (Zv 2 [1] (Zz [] (C7 g.decls) (iL (YP []) 0 5 fun v1=>Z2 1 (iA [nl,nl] fun b3=>?_))))))
 refine ZI 0 b3 [ZU g.decls,WF [] v1] (ie (Yb (ab 0 (Y4 (fun fz gz m F h=>∃(k:Nat) (rs:List Yf) (u:Value),(k<=g.funcs.length)/\(rs.length=k)/\(∀r∈rs,RN g.decls g.funcs.length r)/\F=sF [1,2,3] fz [(4,.i k)]/\h=[.obj b3 [ZU g.decls,WF rs u],Zc gz 2,Zc gz 3,.tail u 5]/\m=g.funcs.length-k) _ _ _ ⟨0,[],v1,ob,ob,(fun r hr=>by cases hr),rfl,rfl,rfl⟩ (wk [0,1,1,0] (Yd fl)) ?_))))
 rintro m F h ⟨k,rs,u,Yg,Zi,Zw,rfl,rfl,rfl⟩
 refine Yi 3 [2] (iw (Cv g.funcs) (Y0 ((k:Int)<(g.funcs.length:Int)) (fun Za=>?_) (fun Za=>?_)))
 ·refine ak (aq (ab 1 (Zv 3 [2] ?_)))
  obtain ⟨x1,Z3⟩:=Zt g.funcs k om
  have hso:=(hg.gp.sigs _ (Y2 Z3)).bd
  have hsi:=hg.gp.sigs _ (Y2 Z3)
  have hbo:=hg.body _ (Y2 Z3)
  refine Zm (Zh none (k:Int) 5 (F5 Z3)) (Z2 1 (iA [nl,.i 0,.i 0,.i 0,nl] fun b4=>?_))
  refine ZI 0 b4 (FM x1) (ie (Zv 2 [0] (iw (Y6 x1.params) (Z0 (aD 9 (ZJ 4 9 [0,1,2,3,5] [3,0] (Ky (fun fz gz F h=>∃(b5:Z9) (b6:Nat) (xs1:LI),(xs1.length=x1.params.length/\∀i∈xs1,(0:Int)<=i/\i<(0:Int)+x1.params.length)/\(LB g.decls g.funcs.length x1.params.length x1.body b5)/\F=sF [1,2,3,4,5] fz [(7,.p b6 0)]/\h=[.obj b6 (Xk b5),Zc gz 0,Zc gz 1,Zc gz 2,Zc gz 3,Zc gz 4]) ?_ ?_)))))))
  ·refine VE 4 7 ?_ ?_
   ·refine dc 4 [] [0,3] [b4,b1] (Ia 0 x1.params.length) ?_
    rintro _ _ ⟨xs1,rfl,rfl,ZW⟩
    have hnx:=ZW
    refine VE 6 7 ?_ ?_
    ·refine dc 6 [] [] [] (I9 g x1.body xs1 x1.params.length (hd:=hg.gp.decls) (he:=(by rw [hnx.1];exact hbo.1)) (hu:=(fun a ha=>by have:=hnx.2 a ha;omega))) ?_
     rintro _ _ ⟨b5,rfl,rfl,Yh⟩
     have hlb:=Yh
     exact Z7 7 (dA 7 [] [] [nl,.i 0] fun b6=>Z7 8 (YJ 8 0 [] [] b6 (Xk b5) (de (ZQ ⟨_,b6,_,(by assumption),(by assumption),rfl,rfl⟩ (ZE 6 fl)))))
    refine dA 7 [0,3] [b4,b1] [nl,.i 0] fun b7=>Z7 6 (dc 6 [] [] [] (I9 g x1.body xs1 x1.params.length (hd:=hg.gp.decls) (he:=(by rw [hnx.1];exact hbo.1)) (hu:=(fun a ha=>by have:=hnx.2 a ha;omega))) ?_)
    rintro _ _ ⟨b8,rfl,rfl,YE⟩
    have hlb:=YE
    exact Z7 8 (YJ 8 0 [] [] b7 (Xk b8) (de (ZQ ⟨_,b7,_,(by assumption),(by assumption),rfl,rfl⟩ (ZE 6 fl))))
   refine dA 7 [0,3] [b4,b1] [nl,.i 0] fun b9=>Z7 4 (dc 4 [] [1,4] [b4,b1] (Ia 0 x1.params.length) ?_)
   rintro _ _ ⟨xs2,rfl,rfl,YN⟩
   have hnx:=YN
   refine Z7 6 (dc 6 [] [] [] (I9 g x1.body xs2 x1.params.length (hd:=hg.gp.decls) (he:=(by rw [hnx.1];exact hbo.1)) (hu:=(fun a ha=>by have:=hnx.2 a ha;omega))) ?_)
   rintro _ _ ⟨b10,rfl,rfl,X8⟩
   have hlb:=X8
   exact Z7 8 (YJ 8 0 [] [] b9 (Xk b10) (de (ZQ ⟨_,b9,_,(by assumption),(by assumption),rfl,rfl⟩ (ZE 6 fl))))
  rintro F h ⟨b5,b6,xs1,ZW,Yh,rfl,rfl⟩
  have hnx:=ZW
  have hlb:=Yh
  refine aE 14 (ZJ 7 14 [0,1,2,3,6,7,8] [2,1,1,0] (VE 4 5 ?_ ?_))
  ·refine dc 4 [] [0,1,2] [b6,b4,b3] (Ub x1.params) ?_
   rintro _ _ ⟨v2,rfl,rfl⟩
   exact Z7 5 (dL 5 [0,1,2] [b6,b4,b3] (Z6 []) 0 1 fun v3=>Yr 4 5 [9] [(44,.agg [Z4 x1.params,Z4 [],.i x1.result,Wz b5.steps,.i b5.result])] (Z7 10 (dL 10 [2] [b3] (YP [Yf.mk x1.params [] x1.result (Z9.mk b5.steps b5.result)]) 1 5 fun v4=>Yr 3 3 [] [(45,Kg [Yf.mk x1.params [] x1.result (Z9.mk b5.steps b5.result)])] (Z7 11 (dp 11 8 [] [] (YP (rs++[Yf.mk x1.params [] x1.result (Z9.mk b5.steps b5.result)])) (YP rs) (YP [Yf.mk x1.params [] x1.result (Z9.mk b5.steps b5.result)]) u none 5 (UT _) (UT _) (AN _) (by simp<;>omega) (by simp [BK,YP]) fun v5=>Zj 1 2 [12] (Z7 13 (YJ 13 6 [] [] b3 [ZU g.decls,WF (rs++[Yf.mk x1.params [] x1.result (Z9.mk b5.steps b5.result)]) v5] (de (az (Z2 1 (ZK k (Z0 (ZL ⟨k+1,(rs++[Yf.mk x1.params [] x1.result (Z9.mk b5.steps b5.result)]),v5,ob,ob,(Xz Zw (RN.of hsi hlb hbo.2)),rfl,rfl,rfl⟩ (wk [0,6,6,0] (ZO k fl)))))))))))))))
  refine dL 5 [0,1,1,2] [b6,b4,b4,b3] (Z6 []) 0 1 fun v6=>Z7 4 (dc 4 [] [0,1,2] [b6,b4,b3] (Ub x1.params) ?_)
  rintro _ _ ⟨v7,rfl,rfl⟩
  exact Yr 4 5 [9] [(44,.agg [Z4 x1.params,Z4 [],.i x1.result,Wz b5.steps,.i b5.result])] (Z7 10 (dL 10 [2] [b3] (YP [Yf.mk x1.params [] x1.result (Z9.mk b5.steps b5.result)]) 1 5 fun v8=>Yr 3 3 [] [(45,Kg [Yf.mk x1.params [] x1.result (Z9.mk b5.steps b5.result)])] (Z7 11 (dp 11 8 [] [] (YP (rs++[Yf.mk x1.params [] x1.result (Z9.mk b5.steps b5.result)])) (YP rs) (YP [Yf.mk x1.params [] x1.result (Z9.mk b5.steps b5.result)]) u none 5 (UT _) (UT _) (AN _) (by simp<;>omega) (by simp [BK,YP]) fun v9=>Zj 1 2 [12] (Z7 13 (YJ 13 6 [] [] b3 [ZU g.decls,WF (rs++[Yf.mk x1.params [] x1.result (Z9.mk b5.steps b5.result)]) v9] (de (az (Z2 1 (ZK k (Z0 (ZL ⟨k+1,(rs++[Yf.mk x1.params [] x1.result (Z9.mk b5.steps b5.result)]),v9,ob,ob,(Xz Zw (RN.of hsi hlb hbo.2)),rfl,rfl,rfl⟩ (wk [0,6,6,0] (ZO k fl))))))))))))))
 exact ax 0 (Zv 1 [0] (ZI 1 b2 [ZU g.decls,WF rs u] (ie (ZD (r3 [] [.agg [ZU g.decls,WF rs u]] [0] [(b2,b2)] ⟨(Zk.mk g.decls rs),rfl,rfl,(RN.all hg.gp.decls (by show 1<=rs.length/\rs.length<=4;omega) (by show ∀r∈rs,RN g.decls rs.length r;rw [show rs.length=g.funcs.length by omega];exact Zw) om)⟩ (Zd.agg (.cons (lr _) (.cons (Zd.forget _ _) .nil))))))))
theorem RB (n:Zk) (hz:Uc n:=by exact ob):Zl 83 [Yn n] [] (Yv (.b (XL n))):=by
 have hzl:=hz.len
 refine ZG 35 Tryz.func83 (ar (iA (YT n) fun b1=>Z0 (Yi 1 [0] (Zz [] (Zda n (hz:=hz.decls) (hr:=(fun r hr=>⟨hz.params r hr,hz.lent r hr⟩))) (YB (!U1 n) (p:=¬(U1 n=true)) (Yo Iff.rfl) (fun Za=>?_) (fun Za=>?_))))))
 ·exact ar (Zq (Y1 (.b false) (lb (by first|rfl|omega|grind [XL]))))
 have hok:=IN hz (by simpa using Za)
 refine ak (Yb (ab 0 (Y4 (fun fz gz m F h=>∃(k:Nat),(k<=n.routines.length)/\(QS n (n.routines.drop k)=QS n n.routines)/\F=sF [1] fz [(3,.i k)]/\h=gz/\m=n.routines.length-k) _ _ _ ⟨0,ob,ob,rfl,rfl,rfl⟩ (wk [0] (Yd fl)) ?_)))
 rintro m F h ⟨k,Yg,Zi,rfl,rfl,rfl⟩
 refine Yi 3 [0] (iw (Uq n.routines) (Y0 ((k:Int)<(n.routines.length:Int)) (fun Zg=>?_) (fun Zg=>?_)))
 ·refine ak (aq (ab 1 (Zv 3 [0] ?_)))
  obtain ⟨x1,Z3⟩:=Zt n.routines k om
  have ZH:=hz.body _ (Y2 Z3)
  have hps:=hok.params_at Z3
  refine Zm (Zh none (k:Int) 5 (Wv Z3)) (Z2 1 (iA [nl,nl,.i 0,nl,.i 0] fun b2=>ZI 0 b2 (KM x1) (ie (aD 15 (ZJ 13 15 [0,1] [0] (Z7 2 (Yp 2 [] [] [] (Zd5 x1.body) (JY [1,3] [(34,.b ((decide ((TG x1.body)<0))||((Xq n x1.params x1.body) != x1.result)))] (fun gz=>gz) ?_ ?_))))))))
  ·refine Zj 10 12 [3,4] (db (b:=(decide ((TG x1.body)<0))) 24 (fun Zb=>?_) (fun Zb=>?_))
   ·exact Zj 0 10 [5,6,7,8,9,10,11,12,13,14] (de (wk [0,0] (Zu true Zb fl)))
   exact ZJ 3 10 [5,6,7,8,9,11,12] [1,0,0,0] (Z7 10 (Yp 10 [] [0] [b2] (Rp n x1.params x1.body ob ob) (Zj 0 2 [13,14] (de (wk [0,0] (Zu ((Xq n x1.params x1.body) != x1.result) Zb fl))))))
  refine ac ((decide ((TG x1.body)<0))||((Xq n x1.params x1.body) != x1.result)) (p:=((TG x1.body)<0)∨((Xq n x1.params x1.body)≠x1.result)) (Yj dq Yl) (fun ZC=>?_) (fun ZC=>?_)
  ·refine ZF ?_
   rw [Y7 Z3] at Zi
   exact ZD (Y1 (.b false) (lb (by clear Z3;first|rfl|omega|grind [QS,XL])))
  refine ak (az (Z2 1 (ZK k (Z0 ?_))))
  have hdr:=Y7 Z3
  exact ZL ⟨k+1,ob,(by rw [hdr] at Zi;clear hdr Z3;grind [QS]),rfl,rfl,rfl⟩ (wk [1] (ZO k fl))
 refine ax 0 (ZF ?_)
 try rw [Xi (xs:=n.routines) (k:=k) om] at Zi
 exact ZD (Y1 (.b true) (lb (by first|rfl|omega|grind [QS,XL])))
theorem Rt (op:Int) :Zl 110 [.i op] [] (Yv (.b (YC op))):=by
 exact ZG 5 Tryz.func110 (ZF (Y5 1 (Zz [] (UI op 14 17) (Zq (Y1 (.b (decide (14<=op/\op<=17))) (lb (by first|rfl|omega|grind [YC])))))))
theorem Rq (op:Int) :Zl 267 [.i op] [] (Yv (.b (T9 op))):=by
 refine ZG 17 Tryz.func267 (ZF (ar (XK 6 [0] [(8,.b ((op==6)||(op==9)))] (fun gz=>gz) ?_ (fun hj1=>?_))))
 ·refine XK 10 [0] [(12,.b (((op==6)||(op==9))||(op==10)))] (fun gz=>gz) ?_ (fun hj2=>?_)
  ·refine XK 14 [] [(16,.b ((((op==6)||(op==9))||(op==10))||(op==11)))] (fun gz=>gz) ?_ (fun hj3=>?_)
   ·exact Zq (Y1 (.b ((((op==6)||(op==9))||(op==10))||(op==11))) (lb (by first|rfl|omega|grind [T9])))
   refine Z2 1 (ib (b:=(((op==6)||(op==9))||(op==10))) 13 (fun Zb=>?_) (fun Zb=>?_))
   ·exact Z2 3 (Yu (wk [] (Zu true Zb fl)) hj3)
   exact Z2 3 (Yu (wk [] (Zu (op==11) Zb fl)) hj3)
  refine Z2 1 (ib (b:=((op==6)||(op==9))) 9 (fun ZA=>?_) (fun ZA=>?_))
  ·exact Z2 3 (Yu (wk [] (Zu true ZA fl)) hj2)
  exact Z2 3 (Yu (wk [] (Zu (op==10) ZA fl)) hj2)
 refine Z2 3 (ib (b:=(op==6)) 5 (fun Yy=>?_) (fun Yy=>?_))
 ·exact Z2 3 (Yu (wk [] (Zu true Yy fl)) hj1)
 exact Z2 3 (Yu (wk [] (Zu (op==9) Yy fl)) hj1)
theorem Eh (n:Zk) (s:Z5) (i:Nat) (hn:X4 n:=by exact ob) (hnum:s.op=9->0<=s.num/\s.num<n.routines.length:=by exact ob):Zl 221 [Yn n,YG s,.i i] [] (Yv (.b (WO n s.op s.num i))):=by
 refine ZG 21 Tryz.func221 (ar (iA (YT n) fun b1=>iA (Xv s) fun b2=>Z0 (Zv 4 [0] (ib (b:=(s.op==9)) 10 (fun Zb=>?_) (fun Zb=>?_)))))
 ·have ZW:s.op=9:=(Zp).1 Zb
  refine ZM 4 [1,0] ?_
  obtain ⟨x1,Z3⟩:=Zt n.routines s.num.toNat om
  have hlt:=hn.lent_at Z3
  have hlr:=Z94 (n:=n) ZW Z3
  exact Zm (Zh none s.num 5 (Wv Z3)) (Z2 3 (Zz [] (UJ x1.lent (i:Int)) (Zq (Y1 (.b (decide ((i:Int)∈x1.lent))) (lb (by rw [WO,hlr]))))))
 have Yh:¬(s.op=9):=Ya Zp Zb
 exact Zq (Y1 (.b false) (lb (by rw [WO,Ag,Z8 Yh];simp)))
theorem Gy (n:Zk) (us:LI) (s:Z5) (i:Nat) (a:Int) (hn:X4 n:=by exact ob) (hnum:s.op=9->0<=s.num/\s.num<n.routines.length:=by exact ob) (ha:s.args[i]? = some a:=by exact ob) (hi:0<=a/\a<us.length:=by exact ob):Zl 220 [Yn n,Z4 us,YG s,.i i] [] (Yv (.b (TB n us s.op s.num a i))):=by
 have hal:=(Xp.1 ha).1
 refine ZG 30 Tryz.func220 (ar (iA (YT n) fun b1=>iA (Xv s) fun b2=>Z0 (Zv 2 [0] (Zz [] (Rq s.op) (Z2 1 (ib (b:=T9 s.op) 12 (fun Zb=>?_) (fun Zb=>?_)))))))
 ·refine ZM 4 [0] ?_
  obtain ⟨x1,Z3⟩:=Zt s.args i om
  have hxa:x1=a:=by rw [ha] at Z3;exact (Tz Z3).symm
  subst hxa
  refine Zm (Zh none (i:Int) 1 (ZY Z3)) (Z2 1 ?_)
  obtain ⟨x2,Zr⟩:=Zt us x1.toNat om
  have hga:=Vh Zr
  refine Zm (Zh none x1 1 (ZY Zr)) (Z2 4 (ib (b:=(x2 != 0)) 23 (fun ZA=>?_) (fun ZA=>?_)))
  ·exact ZM 3 [1,0] (Zz [] (Eh n s i) (Zq (Y1 (.b (!WO n s.op s.num i)) (lb (by clear Z3 Zr;first|rfl|(rw [TB];grind))))))
  exact Zq (Y1 (.b false) (lb (by clear Z3 Zr;first|rfl|(rw [TB];grind))))
 exact Zq (Y1 (.b false) (lb (by  first|rfl|(rw [TB];grind))))
theorem Rx (xs:LI) (ys:LI) (hl_xs:xs.length<=4294967296:=by exact ob) (hl_ys:ys.length<=4294967296:=by exact ob):Zl 219 [Z4 xs,Z4 ys] [] (Yv (.b (decide (xs=ys)))):=by
 refine ZG 26 Tryz.func219 (ZF (YL 1 (iw (Y6 xs) (Z2 1 (iw (Y6 ys) (YB ((xs.length:Int) != (ys.length:Int)) Yl (fun Za=>?_) (fun Za=>?_)))))))
 ·exact ar (Zq (Y1 (.b false) (lb (eq_comm.1 (decide_eq_false (fun q=>by rw [q] at Za;exact Za rfl))))))
 refine ak (Yb (ab 0 (Y4 (fun fz gz m F h=>∃(k:Nat),(k<=xs.length)/\(xs.take k=ys.take k)/\F=sF [0,1] fz [(5,.i k)]/\h=gz/\m=xs.length-k) _ _ _ ⟨0,ob,ob,rfl,rfl,rfl⟩ (wk [] (Yd fl)) ?_)))
 rintro m F h ⟨k,Yg,Zi,rfl,rfl,rfl⟩
 refine YL 2 (iw (Y6 xs) (Y0 ((k:Int)<(xs.length:Int)) (fun Zg=>?_) (fun Zg=>?_)))
 ·refine ak (aq (ab 1 (aD 9 (Zj 7 9 [0,1] ?_))))
  obtain ⟨x1,Z3⟩:=Zt xs k om
  refine dx 2 (Zh none (k:Int) 1 (ZY Z3)) (Zj 3 6 [3,4,5] ?_)
  obtain ⟨x2,Zr⟩:=Zt ys k om
  refine dx 6 (Zh none (k:Int) 1 (ZY Zr)) (Zj 0 2 [7,8] (de (ac (x1 != x2) Yl (fun ZC=>?_) (fun ZC=>?_))))
  ·exact ar (Zq (Y1 (.b false) (lb (eq_comm.1 (decide_eq_false (fun q=>by subst q;rw [Z3] at Zr;cases Zr;exact ZC rfl))))))
  refine ak (az (Z2 1 (ZK k (Z0 ?_))))
  have hdr:=Y7 Z3
  exact ZL ⟨k+1,ob,(by rw [V7 Z3,V7 Zr,Zi];have hxx:x1=x2:=om;rw [hxx]),rfl,rfl,rfl⟩ (wk [] (ZO k fl))
 exact ax 0 (ar (Zq (Y1 (.b true) (lb (eq_comm.1 (decide_eq_true (by rw [Vq om,Vq om] at Zi;exact Zi)))))))
theorem Bf (xs:LI) (hlen:xs.length<=4294967296:=by exact ob):Zl 82 [Z4 xs] [] (fun r h=>∃(v:Hd),r=.h v/\h=[rV v xs]):=by
 exact ZG 6 Tryz.func82 (ZF (ar (O0 [] 0 fun v1=>Z2 1 (QI 0 v1 [] xs none fun v2=>Zq (r1 [0] ⟨v2,rfl,rfl⟩ (eq:=(rv (xs:=([]++xs)) ob rz)))))))
theorem Kf (b:Nat) (ga:Hd) (gb:Hd) (gc:Hd) (gd:Hd) (ge:Hd) (gf:Hd) (L:Zs) (ln:LI) (t:Int) (o:Int) (p:Int) (hlb:L.vars.length<=1000000000:=by exact ob) (hlk:Wt L:=by exact ob):Zl 163 [.p b 0,.i t,.i o,.i p] [.obj b [.h ga,.h gb,.h gc,.h gd,.h ge,.h gf,Z4 ln],rV ga L.vars,rV gb L.own,rV gc L.par,rV gd L.con,rV ge L.fst,rV gf L.tok] (fun r h=>∃(wa:Hd) (wb:Hd) (wc:Hd) (wd:Hd) (we:Hd) (wf:Hd),h=[.obj b [.h wa,.h wb,.h wc,.h wd,.h we,.h wf,Z4 ln],rV wa ((L.grow t o p).vars),rV wb ((L.grow t o p).own),rV wc ((L.grow t o p).par),rV wd ((L.grow t o p).con),rV we ((L.grow t o p).fst),rV wf ((L.grow t o p).tok)]):=by
 obtain ⟨e1,e2,e3,e4,e5⟩:=hlk
 exact ZG 65 Tryz.func163 (Zv 6 [0] (iL (Z6 [t]) 1 1 fun v1=>ZP 0 [(14,Z4 [t])] (QI 2 ga L.vars [t] none fun v2=>Z2 2 (ZI 2 b [.h v2,.h gb,.h gc,.h gd,.h ge,.h gf,Z4 ln] (ie (Zv 6 [0] (iL (Z6 [o]) 1 1 fun v3=>ZP 0 [(24,Z4 [o])] (QI 4 gb L.own [o] none fun v4=>Z2 2 (ZI 2 b [.h v2,.h v4,.h gc,.h gd,.h ge,.h gf,Z4 ln] (ie (Zv 6 [0] (iL (Z6 [p]) 1 1 fun v5=>ZP 0 [(34,Z4 [p])] (QI 6 gc L.par [p] none fun v6=>Z2 2 (ZI 2 b [.h v2,.h v4,.h v6,.h gd,.h ge,.h gf,Z4 ln] (ie (Zv 5 [0] (iL (Z6 [-1]) 1 1 fun v7=>ZP 0 [(43,Z4 [-1])] (QI 8 gd L.con [-1] none fun v8=>Z2 2 (ZI 2 b [.h v2,.h v4,.h v6,.h v8,.h ge,.h gf,Z4 ln] (ie (Zv 5 [0] (iL (Z6 [-1]) 1 1 fun v9=>ZP 0 [(52,Z4 [-1])] (QI 10 ge L.fst [-1] none fun v10=>Z2 2 (ZI 2 b [.h v2,.h v4,.h v6,.h v8,.h v10,.h gf,Z4 ln] (ie (az (ZM 5 [0] (iL (Z6 [-1]) 1 1 fun v11=>ZP 0 [(61,Z4 [-1])] (QI 12 gf L.tok [-1] none fun v12=>Z2 2 (ZI 2 b [.h v2,.h v4,.h v6,.h v8,.h v10,.h v12,Z4 ln] (ie (r2 [0,10,8,6,4,2,0] [] ⟨v2,v4,v6,v8,v10,v12,rfl⟩ (lr _) (eq:=(rc (rv (xs:=(L.vars++[t])) ob (rv (xs:=(L.own++[o])) ob (rv (xs:=(L.par++[p])) ob (rv (xs:=(L.con++[-1])) ob (rv (xs:=(L.fst++[-1])) ob (rv (xs:=(L.tok++[-1])) ob rz))))))))))))))))))))))))))))))))))))))))
theorem Z8t (b:Nat) (ga:Hd) (gb:Hd) (gc:Hd) (gd:Hd) (ge:Hd) (gf:Hd) (L:Zs) (ln:LI) (hlb:L.vars.length<=1000000000:=by exact ob) (hlk:Wt L:=by exact ob) (hln:ln.length<=4294967296:=by exact ob):Zl 266 [.p b 0] [.obj b [.h ga,.h gb,.h gc,.h gd,.h ge,.h gf,Z4 ln],rV ga L.vars,rV gb L.own,rV gc L.par,rV gd L.con,rV ge L.fst,rV gf L.tok] (fun r h=>∃(c:Nat) (wa:Hd) (wb:Hd) (wc:Hd) (wd:Hd) (we:Hd) (wf:Hd),r=.p c 0/\h=[.obj c [.h wa,.h wb,.h wc,.h wd,.h we,.h wf,Z4 ln],rV wa L.vars,rV wb L.own,rV wc L.par,rV wd L.con,rV we L.fst,rV wf L.tok,.obj b [.h ga,.h gb,.h gc,.h gd,.h ge,.h gf,Z4 ln],rV ga L.vars,rV gb L.own,rV gc L.par,rV gd L.con,rV ge L.fst,rV gf L.tok]):=by
 obtain ⟨e1,e2,e3,e4,e5⟩:=hlk
 refine ZG 40 Tryz.func266 (ZF (aD 38 (ZJ 10 38 [0,1,2,3,5,6,7,8,10,11,12,13,15,16,17,18,20,21,22,23,25,26,27,28,30,31,32,33] [0,0,0,0,0,0,0] (Z7 4 (UP 4 [1] [0,0,0,0,0,0] [b,b,b,b,b,b] [rV ga L.vars] (Bf L.vars) J9 (gL (v:=ga) 0 gN) (VZ UH) ?_)))))
 rintro _ _ ⟨v1,rfl,rfl⟩
 refine Z7 9 (UP 9 [3] [0,0,0,0,0] [b,b,b,b,b] [rV gb L.own] (Bf L.own) J9 (gL (v:=gb) 0 gN) (VZ UH) ?_)
 rintro _ _ ⟨v2,rfl,rfl⟩
 refine Z7 14 (UP 14 [5] [0,0,0,0] [b,b,b,b] [rV gc L.par] (Bf L.par) J9 (gL (v:=gc) 0 gN) (VZ UH) ?_)
 rintro _ _ ⟨v3,rfl,rfl⟩
 refine Z7 19 (UP 19 [7] [0,0,0] [b,b,b] [rV gd L.con] (Bf L.con) J9 (gL (v:=gd) 0 gN) (VZ UH) ?_)
 rintro _ _ ⟨v4,rfl,rfl⟩
 refine Z7 24 (UP 24 [9] [0,0] [b,b] [rV ge L.fst] (Bf L.fst) J9 (gL (v:=ge) 0 gN) (VZ UH) ?_)
 rintro _ _ ⟨v5,rfl,rfl⟩
 refine Z7 29 (UP 29 [11] [0] [b] [rV gf L.tok] (Bf L.tok) J9 (gL (v:=gf) 0 gN) (VZ UH) ?_)
 rintro _ _ ⟨v6,rfl,rfl⟩
 refine Z7 34 (dc 34 [] [] [] (Ub ln) ?_)
 rintro _ _ ⟨v7,rfl,rfl⟩
 exact Yr 2 3 [35] [(38,.agg [.h v1,.h v2,.h v3,.h v4,.h v5,.h v6,Z4 ln])] (Z7 36 (dA 36 [] [] [.h v1,.h v2,.h v3,.h v4,.h v5,.h v6,Z4 ln] fun b1=>Zj 0 1 [37] (de (ZD (r1 [0,11,9,7,5,3,1,7,6,5,4,3,2,1] ⟨b1,v1,v2,v3,v4,v5,v6,rfl,rfl⟩)))))
theorem FQ (b:Nat) (ga:Hd) (gb:Hd) (gc:Hd) (gd:Hd) (ge:Hd) (gf:Hd) (L:Zs) (ln:LI) (i:Int) (hlk:Wt L:=by exact ob) (hi:0<=i/\i<L.vars.length:=by exact ob) (hq:∀x∈L.own,0<=x/\x<=1000000000):Zl 165 [.p b 0,.i i] [.obj b [.h ga,.h gb,.h gc,.h gd,.h ge,.h gf,Z4 ln],rV ga L.vars,rV gb L.own,rV gc L.par,rV gd L.con,rV ge L.fst,rV gf L.tok] (fun r h=>(∃(wa:Hd) (wb:Hd) (wc:Hd) (wd:Hd) (we:Hd) (wf:Hd) (L':Zs),r=.b true/\h=[.obj b [.h wa,.h wb,.h wc,.h wd,.h we,.h wf,Z4 ln],rV wa L'.vars,rV wb L'.own,rV wc L'.par,rV wd L'.con,rV we L'.fst,rV wf L'.tok]/\UK L i=some L')∨(r=.b false/\h=[]/\UK L i=none)):=by
 obtain ⟨e1,e2,e3,e4,e5⟩:=hlk
 refine ZG 27 Tryz.func165 (ZF (Yi 5 [0] (Zm (Wo 2 gb L.own i i.toNat (hq:=rfl)) ?_)))
 obtain ⟨x1,Z3⟩:=Zt L.own i.toNat om
 have hxq:=hq _ (Y2 Z3)
 have hgi:=Vh Z3
 refine V6 (VQ 2 gb L.own i.toNat x1 Z3) (Y0 (x1<1) (fun Za=>?_) (fun Za=>?_))
 ·exact ar (Zq (r1 [] (.inr ⟨rfl,rfl,(by rw [UK,hgi,Ze Za])⟩)))
 exact ak (aD 15 (ZJ 5 15 [0,1,2,3,4,5,6,7,8,9] [0,0] (dx 10 (Wo 2 gb L.own i i.toNat (hq:=rfl)) (U7 11 (VQ 2 gb L.own i.toNat x1 Z3) (da 12 ((x1-1)) ((x1)-(1)) (dx 13 (Wo 2 gb L.own i i.toNat (hq:=rfl)) (Z7 14 (Jy 14 2 [] [] gb L.own i.toNat (x1-1) (de (ar (Zq (r1 [1,1,0,0,0,0,0] (.inl ⟨ga,gb,gc,gd,ge,gf,(Zs.mk L.vars (L.own.set i.toNat (x1-1)) L.par L.con L.fst L.tok),rfl,rfl,(by rw [UK,hgi,Z8 Za])⟩) (eq:=(rc (rv (xs:=L.vars) ob (rv (xs:=(L.own.set i.toNat (x1-1))) ob (rv (xs:=L.par) ob (rv (xs:=L.con) ob (rv (xs:=L.fst) ob (rv (xs:=L.tok) ob rz))))))))))))))))))))
theorem FP (b:Nat) (ga:Hd) (gb:Hd) (gc:Hd) (gd:Hd) (ge:Hd) (gf:Hd) (L:Zs) (ln:LI) (i:Int) (hlk:Wt L:=by exact ob) (hln:ln.length<=4294967296:=by exact ob) (hi:0<=i/\i<L.vars.length:=by exact ob) (hd:∀j:Int,0<=j->j<L.vars.length->gI L.par j<j):Zl 88 [.p b 0,.i i] [.obj b [.h ga,.h gb,.h gc,.h gd,.h ge,.h gf,Z4 ln],rV ga L.vars,rV gb L.own,rV gc L.par,rV gd L.con,rV ge L.fst,rV gf L.tok] (fun r h=>r=.b (Wh L ln i)/\h=[.obj b [.h ga,.h gb,.h gc,.h gd,.h ge,.h gf,Z4 ln],rV ga L.vars,rV gb L.own,rV gc L.par,rV gd L.con,rV ge L.fst,rV gf L.tok]):=by
 obtain ⟨e1,e2,e3,e4,e5⟩:=hlk
 refine ZG 31 Tryz.func88 (ZF (aq (ab 0 (Y4 (fun fz gz m F h=>∃(j:Int),(0<=j/\j<L.vars.length)/\(Qw L.own L.par ln (j.toNat+1) j=Wh L ln i)/\F=sF [0] fz [(1,.i j)]/\h=gz/\m=j.toNat) _ _ _ ⟨i,ob,ob,rfl,rfl,rfl⟩ (ZE 7 fl) ?_))))
 rintro m F h ⟨j,Yg,Zi,rfl,rfl,rfl⟩
 refine Yi 5 [0] (Zm (Wo 2 gb L.own j j.toNat (hq:=rfl)) ?_)
 obtain ⟨x1,Z3⟩:=Zt L.own j.toNat om
 have hg1:=Vh Z3
 refine V6 (VQ 2 gb L.own j.toNat x1 Z3) (Xo [0,1] [(21,.b ((decide (x1<1))&&(!(decide (j∈ln)))))] (fun gz=>gz) ?_ ?_)
 ·refine Z2 2 (ib (b:=(decide (x1<1))) 13 (fun Zb=>?_) (fun Zb=>?_))
  ·exact ZM 5 [0] (Zz [] (UJ ln j) (Z0 (ZE 7 (Zu (!(decide (j∈ln))) Zb fl))))
  exact Z0 (ZE 7 (Zu false Zb fl))
 refine ac ((decide (x1<1))&&(!(decide (j∈ln)))) (p:=(x1<1)/\(¬(j∈ln))) (YH dq (Yo dq)) (fun Za=>?_) (fun Za=>?_)
 ·refine ak (ab 1 (Zv 5 [0] (Zm (Wo 3 gc L.par j j.toNat (hq:=rfl)) ?_)))
  obtain ⟨x2,Zr⟩:=Zt L.par j.toNat om
  have hg2:=Vh Zr
  have hdj:=hd j om om
  rw [hg2] at hdj
  refine V6 (VQ 3 gc L.par j.toNat x2 Zr) (Z0 (ar (Y0 (x2<0) (fun Zg=>?_) (fun Zg=>?_))))
  ·exact ar (Zq (r2 [0,0,0,0,0,0,0] [.b false] ⟨rfl,rfl⟩ (lb (Mb hg1 hg2 Za Zg Zi))))
  exact ak (ZL ⟨x2,om,(Mc hg1 hg2 Yg Za Zg hd Zi),rfl,rfl,rfl⟩ (ZE 7 fl))
 exact ax 0 (ar (Zq (r2 [0,0,0,0,0,0,0] [.b true] ⟨rfl,rfl⟩ (lb (Md hg1 Za Zi)))))
theorem OK (b:Nat) (ga:Hd) (gb:Hd) (gc:Hd) (gd:Hd) (ge:Hd) (gf:Hd) (L:Zs) (ln:LI) (mm:Nat) (hlk:Wt L:=by exact ob) (hlb:L.vars.length<=1000000000:=by exact ob) (hm:mm<=L.vars.length:=by exact ob):Zl 130 [.p b 0,.i mm] [.obj b [.h ga,.h gb,.h gc,.h gd,.h ge,.h gf,Z4 ln],rV ga L.vars,rV gb L.own,rV gc L.par,rV gd L.con,rV ge L.fst,rV gf L.tok] (fun r h=>(∃(wa:Hd) (wb:Hd) (wc:Hd) (wd:Hd) (we:Hd) (wf:Hd) (L':Zs),r=.b true/\h=[.obj b [.h wa,.h wb,.h wc,.h wd,.h we,.h wf,Z4 ln],rV wa L'.vars,rV wb L'.own,rV wc L'.par,rV wd L'.con,rV we L'.fst,rV wf L'.tok]/\Jw L mm=some L')∨(r=.b false/\h=[]/\Jw L mm=none)):=by
 obtain ⟨e1,e2,e3,e4,e5⟩:=hlk
 refine ZG 88 Tryz.func130 (ZF (Yb (ab 0 (Y4 (fun fz gz m F h=>∃(k:Nat),(mm<=k/\k<=L.vars.length)/\(T5 (L.own.drop k) (L.tok.drop k)=T5 (L.own.drop mm) (L.tok.drop mm))/\F=sF [0,1] fz [(5,.i k)]/\h=gz/\m=L.vars.length-k) _ _ _ ⟨mm,ob,ob,rfl,rfl,rfl⟩ (ZE 7 fl) ?_))))
 rintro m F h ⟨k,Yg,Zi,rfl,rfl,rfl⟩
 refine Yi 5 [0] (Zm (J0 1 ga L.vars) (Y0 ((k:Int)<(L.vars.length:Int)) (fun Za=>?_) (fun Za=>?_)))
 ·refine ak (aq (ab 1 (Zv 5 [0] (Zm (Wo 2 gb L.own (k:Int) k) ?_))))
  obtain ⟨x1,Z3⟩:=Zt L.own k om
  refine V6 (VQ 2 gb L.own k x1 Z3) (Z2 2 (ib (b:=(x1 != 0)) 24 (fun Zb=>?_) (fun Zb=>?_)))
  ·have ZW:x1≠0:=(Yl).1 Zb
   refine Z0 (XV (ZF ?_))
   obtain ⟨y2,hy2⟩:=Zt L.tok k om
   exact ZD (r1 [] (.inr ⟨rfl,rfl,(by rw [Jw,<-Zi,Y7 Z3,Y7 hy2,T5,Ze (show x1≠0∨0<=y2 by omega)];rfl)⟩))
  have Yh:¬(x1≠0):=Ya Yl Zb
  refine ZM 5 [0] (Zm (Wo 6 gf L.tok (k:Int) k) ?_)
  obtain ⟨x2,Zr⟩:=Zt L.tok k om
  refine V6 (VQ 6 gf L.tok k x2 Zr) (Y0 (x2>=0) (fun Zg=>?_) (fun Zg=>?_))
  ·exact ar (Zq (r1 [] (.inr ⟨rfl,rfl,(by rw [Jw,<-Zi,Y7 Z3,Y7 Zr,T5,Ze (show x1≠0∨0<=x2 by omega)];rfl)⟩)))
  exact ak (az (Z2 1 (ZK k (Z0 (ZL ⟨k+1,ob,(by rw [Y7 Z3,Y7 Zr,T5,Z8 om] at Zi;exact Zi),rfl,rfl,rfl⟩ (ZE 7 (ZO k fl)))))))
 exact ax 0 (Zv 6 [0] (Zm (QY 1 ga L.vars mm) (Z2 2 (XW (C9 1 mm ga L.vars) (ZI 1 b [.h (ga.cut mm),.h gb,.h gc,.h gd,.h ge,.h gf,Z4 ln] (ie (Zv 6 [0] (Zm (QY 2 gb L.own mm) (Z2 2 (XW (C9 2 mm gb L.own) (ZI 1 b [.h (ga.cut mm),.h (gb.cut mm),.h gc,.h gd,.h ge,.h gf,Z4 ln] (ie (Zv 6 [0] (Zm (QY 3 gc L.par mm) (Z2 2 (XW (C9 3 mm gc L.par) (ZI 1 b [.h (ga.cut mm),.h (gb.cut mm),.h (gc.cut mm),.h gd,.h ge,.h gf,Z4 ln] (ie (Zv 6 [0] (Zm (QY 4 gd L.con mm) (Z2 2 (XW (C9 4 mm gd L.con) (ZI 1 b [.h (ga.cut mm),.h (gb.cut mm),.h (gc.cut mm),.h (gd.cut mm),.h ge,.h gf,Z4 ln] (ie (Zv 6 [0] (Zm (QY 5 ge L.fst mm) (Z2 2 (XW (C9 5 mm ge L.fst) (ZI 1 b [.h (ga.cut mm),.h (gb.cut mm),.h (gc.cut mm),.h (gd.cut mm),.h (ge.cut mm),.h gf,Z4 ln] (ie (Zv 6 [0] (Zm (QY 6 gf L.tok mm) (Z2 2 (XW (C9 6 mm gf L.tok) (ZI 1 b [.h (ga.cut mm),.h (gb.cut mm),.h (gc.cut mm),.h (gd.cut mm),.h (ge.cut mm),.h (gf.cut mm),Z4 ln] (ie (ar (Zq (r1 [0,5,4,3,2,1,0] (.inl ⟨(ga.cut mm),(gb.cut mm),(gc.cut mm),(gd.cut mm),(ge.cut mm),(gf.cut mm),(Zs.mk (L.vars.take mm) (L.own.take mm) (L.par.take mm) (L.con.take mm) (L.fst.take mm) (L.tok.take mm)),rfl,rfl,(by rw [Jw,Ze (by rw [<-Zi,Xi om];rfl)];rfl)⟩) (eq:=(rc (rv (xs:=(L.vars.take mm)) ob (rv (xs:=(L.own.take mm)) ob (rv (xs:=(L.par.take mm)) ob (rv (xs:=(L.con.take mm)) ob (rv (xs:=(L.fst.take mm)) ob (rv (xs:=(L.tok.take mm)) ob rz)))))))))))))))))))))))))))))))))))))))))))))))
theorem Z8v (b:Nat) (ga:Hd) (gb:Hd) (gc:Hd) (gd:Hd) (ge:Hd) (gf:Hd) (n:Zk) (s:Z5) (L:Zs) (ln:LI) (q:Int) (x:Int) (hn:X4 n:=by exact ob) (hk:X7 n.decls L q:=by exact ob) (hlb:L.vars.length<=1000000000:=by exact ob) (ha:s.args[0]? = some x:=by exact ob) (hx:0<=x/\x<L.vars.length:=by exact ob) (hq:0<=q/\q<=999999990:=by exact ob):Zl 166 [.p b 0,Yn n,YG s] [.obj b [.h ga,.h gb,.h gc,.h gd,.h ge,.h gf,Z4 ln],rV ga L.vars,rV gb L.own,rV gc L.par,rV gd L.con,rV ge L.fst,rV gf L.tok] (fun r h=>(∃(wa:Hd) (wb:Hd) (wc:Hd) (wd:Hd) (we:Hd) (wf:Hd) (L':Zs),r=.b true/\h=[.obj b [.h wa,.h wb,.h wc,.h wd,.h we,.h wf,Z4 ln],rV wa L'.vars,rV wb L'.own,rV wc L'.par,rV wd L'.con,rV we L'.fst,rV wf L'.tok]/\Qb n.decls L s.op x=some L')∨(r=.b false/\h=[]/\Qb n.decls L s.op x=none)):=by
 obtain ⟨e1,e2,e3,e4,e5⟩:=hk.len
 have Xt:=hn.decls
 have hal:=(Xp.1 ha).1
 obtain ⟨xcon,hxcon⟩:=Zt L.con ((x).toNat) om
 have hgcon:=Vh hxcon
 obtain ⟨xtok,hxtok⟩:=Zt L.tok ((x).toNat) om
 have hgtok:=Vh hxtok
 obtain ⟨xfst,hxfst⟩:=Zt L.fst ((x).toNat) om
 have hgfst:=Vh hxfst
 have hfl:=U6 Xt xcon
 have har:=hk.arm x om om
 rw [hgcon,hgfst] at har
 refine ZG 105 Tryz.func166 (ar (iA (YT n) fun b1=>iA (Xv s) fun b2=>Z0 (Zv 2 [0] (Zm (Zh none 0 1 (ZY ha)) (Z0 (Yi 5 [2] (Zm (Wo 6 gd L.con x x.toNat (hq:=rfl)) (V6 (VQ 6 gd L.con x.toNat xcon hxcon) (XK 23 [0,4,5,7] [(36,.b ((decide (xcon<0))||((s.op==17)&&(decide (xtok>=0)))))] (fun gz=>gz) ?_ (fun hj1=>?_))))))))))
 ·refine Z2 1 (ib (b:=((decide (xcon<0))||((s.op==17)&&(decide (xtok>=0))))) 37 (fun Zb=>?_) (fun Zb=>?_))
  ·have ZW:(xcon<0)∨((s.op=17)/\(xtok>=0)):=((Yj dq (YH Zp dq))).1 Zb
   exact Z0 (XV (ar (Zq (r1 [] (.inr ⟨rfl,rfl,(by rw [Qb,hgcon,hgtok,Ze om])⟩)))))
  have Yh:¬((xcon<0)∨((s.op=17)/\(xtok>=0))):=Ya (Yj dq (YH Zp dq)) Zb
  refine Z2 2 (ic [2,2,2,2,2,2,2] (FQ b ga gb gc gd ge gf L ln x (hlk:=hk.len) (hq:=(fun y hy=>⟨hk.nn y hy,by have:=hk.bd y hy;omega⟩))) ?_)
  rintro _ _ (⟨wa1,wb1,wc1,wd1,we1,wf1,L'1,rfl,rfl,YE⟩|⟨rfl,rfl,YN⟩)
  ·obtain ⟨t1,t2,t3,t4,t5,t6,t7⟩:=QW YE
   have hk1:=hk.take YE
   obtain ⟨f1,f2,f3,f4,f5⟩:=hk1.len
   have hxcon1:L'1.con[x.toNat]? = some xcon:=by rw [t4];exact hxcon
   have hvl:L'1.vars.length=L.vars.length:=by rw [t2]
   have har2:=har om
   have hxfst1:L'1.fst[x.toNat]? = some xfst:=by rw [t5];exact hxfst
   refine Z0 (We (ak (aD 11 (ZJ 4 11 [0,1,2,3,4,5,6] [8,0] (dx 7 (Wo 4 wd1 L'1.con x x.toNat (hq:=rfl)) (U7 8 (VQ 4 wd1 L'1.con x.toNat xcon hxcon1) (Z7 9 (Yp 9 [] [] [] (Kj n.decls xcon) (Zj 0 1 [10] (de (Yb (ab 0 (Y4 (fun fz gz m F h=>∃(k:Nat) (o:LI),(k<=(ZV n.decls xcon).length)/\(o.length=L.vars.length)/\(∀y∈o,0<=y/\y<=q+k)/\(T7 o (xfst+k) ((ZV n.decls xcon).drop k)=T7 L'1.own xfst (ZV n.decls xcon))/\F=sF [0,5,7,8] fz [(9,.i k)]/\h=[Zc gz 0,Zc gz 1,rV wb1 o,Zc gz 3,Zc gz 4,Zc gz 5,Zc gz 6,Zc gz 7]/\m=(ZV n.decls xcon).length-k) _ _ _ ⟨0,L'1.own,ob,om,(by intro y hy;have h1:=hk1.nn y hy;have h2:=hk1.bd y hy;omega),(by rw [show xfst+((0:Nat):Int)=xfst by omega,K1]),rfl,rfl,rfl⟩ (ZE 8 (Yd fl)) ?_)))))))))))))
   rintro m F h ⟨k,o,Yg,Zi,Zw,Yq,rfl,rfl,rfl⟩
   refine YL 2 (io (.i (((ZV n.decls xcon).length:Nat):Int)) (.i (((Z6 (ZV n.decls xcon)).length:Nat):Int)) (li (by rw [Y6])) (Y0 ((k:Int)<(((ZV n.decls xcon).length:Nat):Int)) (fun Za=>?_) (fun Za=>?_)))
   ·refine ak (aq (ab 1 (Y5 2 ?_)))
    obtain ⟨x1,Z3⟩:=Zt (ZV n.decls xcon) k om
    refine Zm (Zh none (k:Int) 1 (ZY Z3)) (YB (x1 != 0) Yl (fun Zg=>?_) (fun Zg=>?_))
    ·refine aE 31 (ZJ 22 31 [0,1,2,3,4,5,6,7,8] [0,0] (dx 9 (Wo 5 we1 L'1.fst x x.toNat (hq:=rfl)) (U7 10 (VQ 5 we1 L'1.fst x.toNat xfst hxfst1) (Zj 19 20 [11] (da 12 ((xfst+(k:Int))) ((xfst)+((k:Int))) (ZJ 9 18 [13,14,15,16,17,18,19,20,21] [0,0] (dx 22 (Wo 5 we1 L'1.fst x x.toNat (hq:=rfl)) (U7 23 (VQ 5 we1 L'1.fst x.toNat xfst hxfst1) (Zj 6 7 [24] (da 25 ((xfst+(k:Int))) ((xfst)+((k:Int))) (dx 26 (Wo 2 wb1 o (xfst+(k:Int)) ((xfst+(k:Int)).toNat) (hq:=rfl)) ?_)))))))))))
     obtain ⟨x2,Zr⟩:=Zt o ((xfst+(k:Int)).toNat) om
     have hy2:=Zw _ (Y2 Zr)
     exact U7 27 (VQ 2 wb1 o ((xfst+(k:Int)).toNat) x2 Zr) (da 28 ((x2+1)) ((x2)+(1)) (dx 29 (Wo 2 wb1 o (xfst+(k:Int)) ((xfst+(k:Int)).toNat) (hq:=rfl)) (Z7 30 (Jy 30 2 [] [] wb1 o ((xfst+(k:Int)).toNat) (x2+1) (de (az (Z2 1 (ZK k (Z0 (ZL ⟨k+1,(o.set (xfst+(k:Nat)).toNat (x2+1)),ob,ob,(by intro y hy;first|(rcases KP hy with hy|rfl<;>first|(have:=Zw y hy;omega)|omega)|(have:=Zw y hy;omega)),(by rw [Y7 Z3,T7] at Yq;first|(rw [Ze Zg,Vh Zr] at Yq;rw [show xfst+((k+1:Nat):Int)=xfst+k+1 by omega];exact Yq)|(rw [Z8 Zg] at Yq;rw [show xfst+((k+1:Nat):Int)=xfst+k+1 by omega];exact Yq)),rfl,rfl,rfl⟩ (wk [1,1,0,0,0,0,0,0] (ZO k fl) (e:=(rc (rc (rv (xs:=(o.set ((xfst+(k:Int)).toNat) (x2+1))) ob (rc (rc (rc (rc (rc rz))))))))))))))))))))
    exact ak (az (Z2 1 (ZK k (Z0 (ZL ⟨k+1,o,ob,ob,(by intro y hy;first|(rcases KP hy with hy|rfl<;>first|(have:=Zw y hy;omega)|omega)|(have:=Zw y hy;omega)),(by rw [Y7 Z3,T7] at Yq;first|(rw [Ze Zg,Vh Zr] at Yq;rw [show xfst+((k+1:Nat):Int)=xfst+k+1 by omega];exact Yq)|(rw [Z8 Zg] at Yq;rw [show xfst+((k+1:Nat):Int)=xfst+k+1 by omega];exact Yq)),rfl,rfl,rfl⟩ (ZE 8 (ZO k fl)))))))
   refine ax 0 (X0 (Vo [7] (ac (s.op==17) Zp (fun ZC=>?_) (fun ZC=>?_))))
   ·refine az (ZM 6 [0] (io (.i (((ZV n.decls xcon).length:Nat):Int)) (.i (((Z6 (ZV n.decls xcon)).length:Nat):Int)) (li (by rw [Y6])) (Zm (Wo 6 wf1 L'1.tok x x.toNat (hq:=rfl)) (CH 6 wf1 L'1.tok x.toNat (((ZV n.decls xcon).length:Nat):Int) (ie (ZF ?_))))))
    have hof:o=T7 L'1.own xfst (ZV n.decls xcon):=by rw [<-Yq,Xi om];rfl
    exact ZD (r1 [1,1,1,1,1,1,0] (.inl ⟨wa1,wb1,wc1,wd1,we1,wf1,(Zs.mk L'1.vars o L'1.par L'1.con L'1.fst (L'1.tok.set x.toNat (((ZV n.decls xcon).length:Nat):Int))),rfl,rfl,(by rw [Qb,hgcon,hgfst,hgtok,Z8 om,YE,hof,t6];simp [ZC,t2,t3,t4,t5])⟩) (eq:=(rc (rv (xs:=L'1.vars) ob (rv (xs:=o) ob (rv (xs:=L'1.par) ob (rv (xs:=L'1.con) ob (rv (xs:=L'1.fst) ob (rv (xs:=(L'1.tok.set x.toNat (((ZV n.decls xcon).length:Nat):Int))) ob rz)))))))))
   refine ak (ZF ?_)
   have hof:o=T7 L'1.own xfst (ZV n.decls xcon):=by rw [<-Yq,Xi om];rfl
   exact ZD (r1 [0,0,0,0,0,0,0] (.inl ⟨wa1,wb1,wc1,wd1,we1,wf1,(Zs.mk L'1.vars o L'1.par L'1.con L'1.fst L'1.tok),rfl,rfl,(by rw [Qb,hgcon,hgfst,hgtok,Z8 om,YE,hof,t6];simp [ZC,t2,t3,t4,t5])⟩) (eq:=(rc (rv (xs:=L'1.vars) ob (rv (xs:=o) ob (rv (xs:=L'1.par) ob (rv (xs:=L'1.con) ob (rv (xs:=L'1.fst) ob (rv (xs:=L'1.tok) ob rz)))))))))
  exact Z0 (XV (ar (Zq (r1 [] (.inr ⟨rfl,rfl,(by rw [Qb,hgcon,hgtok,Z8 om,YN])⟩)))))
 refine Z2 2 (ib (b:=(decide (xcon<0))) 22 (fun ZA=>?_) (fun ZA=>?_))
 ·have X8:xcon<0:=(dq).1 ZA
  exact Z2 14 (Yu (ZE 9 (Zu true ZA fl)) hj1)
 have XJ:¬(xcon<0):=Ya dq ZA
 refine ZM 4 [0] (ib (b:=(s.op==17)) 26 (fun Yy=>?_) (fun Yy=>?_))
 ·have Wn:s.op=17:=(Zp).1 Yy
  exact ZM 5 [2] (Zm (Wo 8 gf L.tok x x.toNat (hq:=rfl)) (V6 (VQ 8 gf L.tok x.toNat xtok hxtok) (Z2 3 (Yu (ZE 9 (Zu (decide (xtok>=0)) (And.intro ZA Yy) fl)) hj1))))
 have WL:¬(s.op=17):=Ya Zp Yy
 exact Z2 10 (Yu (ZE 9 (Zu false (And.intro ZA Yy) fl)) hj1)
theorem Z8u (b:Nat) (ga:Hd) (gb:Hd) (gc:Hd) (gd:Hd) (ge:Hd) (gf:Hd) (n:Zk) (s:Z5) (L:Zs) (ln:LI) (q:Int) (hn:X4 n:=by exact ob) (hnum:s.op=9->0<=s.num/\s.num<n.routines.length:=by exact ob) (hk:X7 n.decls L q:=by exact ob) (hlb:L.vars.length<=1000000000:=by exact ob) (hargs:∀a∈s.args,0<=a/\a<L.vars.length) (hinto:0<s.into->s.into<=L.vars.length:=by exact ob) (hal:s.args.length<=1000000000:=by exact ob) (hln:ln.length<=4294967296:=by exact ob) (hq:0<=q/\q<=999999990:=by exact ob):Zl 168 [.p b 0,Yn n,YG s] [.obj b [.h ga,.h gb,.h gc,.h gd,.h ge,.h gf,Z4 ln],rV ga L.vars,rV gb L.own,rV gc L.par,rV gd L.con,rV ge L.fst,rV gf L.tok] (fun r h=>(∃(wa:Hd) (wb:Hd) (wc:Hd) (wd:Hd) (we:Hd) (wf:Hd) (L':Zs),r=.b true/\h=[.obj b [.h wa,.h wb,.h wc,.h wd,.h we,.h wf,Z4 ln],rV wa L'.vars,rV wb L'.own,rV wc L'.par,rV wd L'.con,rV we L'.fst,rV wf L'.tok]/\UF n ln L s.op s.num s.into s.args=some L')∨(r=.b false/\h=[]/\UF n ln L s.op s.num s.into s.args=none)):=by
 obtain ⟨e1,e2,e3,e4,e5⟩:=hk.len
 refine ZG 79 Tryz.func168 (ar (iA (YT n) fun b1=>iA (Xv s) fun b2=>?_))
 refine Z0 (Yb (ab 0 (Y4 (fun fz gz m F h=>∃(k:Nat) (L2:Zs) (ka:Hd) (kb:Hd) (kc:Hd) (kd:Hd) (ke:Hd) (kf:Hd),(k<=s.args.length)/\(X7 n.decls L2 q)/\(L2.vars=L.vars)/\(Q5 n s.op s.num (s.args.drop k) k L2=Q5 n s.op s.num s.args 0 L)/\F=sF [0,4,5] fz [(7,.i k)]/\h=[Zc gz 0,Zc gz 1,.obj b [.h ka,.h kb,.h kc,.h kd,.h ke,.h kf,Z4 ln],rV ka L2.vars,rV kb L2.own,rV kc L2.par,rV kd L2.con,rV ke L2.fst,rV kf L2.tok]/\m=s.args.length-k) _ _ _ ⟨0,L,ga,gb,gc,gd,ge,gf,ob,hk,ob,ob,rfl,rfl,rfl⟩ (ZE 9 (Yd fl)) ?_)))
 rintro m F h ⟨k,L2,ka,kb,kc,kd,ke,kf,Yg,Zi,Zw,Yq,rfl,rfl,rfl⟩
 refine Yi 3 [0] (iw (Y6 s.args) (Y0 ((k:Int)<(s.args.length:Int)) (fun Za=>?_) (fun Za=>?_)))
 ·obtain ⟨a1,ha1⟩:=Zt s.args k om
  obtain ⟨e6,e7,e8,e9,e10⟩:=Zi.len
  have hav:=hargs a1 (Y2 ha1)
  have hvl:L2.vars.length=L.vars.length:=by rw [Zw]
  refine ak (aq (ab 1 (aD 18 (ZJ 11 18 [0,1,2,3,4,5,6] [1,2,0] (Z7 7 (UP 7 [3] [] [] [rV ka L2.vars] (Gy n L2.vars s k a1 (ha:=ha1)) Cj (gS (gL (v:=ka) 0 (gS (gS gN)))) (VZ UH) ?_))))))
  rintro _ _ ⟨rfl,rfl⟩
  refine Zj 9 10 [8] (db (b:=TB n L2.vars s.op s.num a1 k) 24 (fun Zb=>?_) (fun Zb=>?_))
  ·have ZW:TB n L2.vars s.op s.num a1 k=true:=(Iff.rfl).1 Zb
   refine ZJ 5 9 [9,10,11,12] [1] (dx 13 (Zh none (k:Int) 1 (ZY ha1)) (Zj 3 4 [14] (Z7 15 (dc 15 [3,0,2,2,2,2,2] [] [] (FQ b ka kb kc kd ke kf L2 ln a1 (hlk:=Zi.len) (hq:=(fun y hy=>⟨Zi.nn y hy,by have:=Zi.bd y hy;omega⟩))) ?_))))
   rintro _ _ (⟨wa1,wb1,wc1,wd1,we1,wf1,L'1,rfl,rfl,Yh⟩|⟨rfl,rfl,YE⟩)
   ·obtain ⟨t1,t2,t3,t4,t5,t6,t7⟩:=QW Yh
    have hk2:=Zi.take Yh
    exact Zj 0 2 [16,17] (de (We (ak (az (Z2 1 (ZK k (Z0 (ZL ⟨k+1,L'1,wa1,wb1,wc1,wd1,we1,wf1,ob,hk2,(t2.trans Zw),(by rw [Y7 ha1,Q5,Ze ZW] at Yq;simp only [Yh] at Yq;exact Yq),rfl,rfl,rfl⟩ (wk [7,7,0,0,0,0,0,0,0] (ZO k fl))))))))))
   exact Zj 0 2 [16,17] (de (XV (ar (Zq (r1 [] (.inr ⟨rfl,rfl,(by rw [UF,<-Yq,Y7 ha1,Q5,Ze ZW,YE])⟩))))))
  have YN:¬(TB n L2.vars s.op s.num a1 k=true):=Ya Iff.rfl Zb
  exact Zj 0 9 [9,10,11,12,13,14,15,16,17] (de (We (ak (az (Z2 1 (ZK k (Z0 (ZL ⟨k+1,L2,ka,kb,kc,kd,ke,kf,ob,Zi,Zw,(by rw [Y7 ha1,Q5,Z8 YN] at Yq;exact Yq),rfl,rfl,rfl⟩ (wk [1,1,1,0,0,0,0,0,0] (ZO k fl))))))))))
 have hT:Q5 n s.op s.num s.args 0 L=some L2:=by rw [<-Yq,Xi om];rfl
 obtain ⟨e6,e7,e8,e9,e10⟩:=Zi.len
 have hvl:L2.vars.length=L.vars.length:=by rw [Zw]
 refine ax 0 (Yb (ab 2 (Y4 (fun fz gz m F h=>∃(j:Nat),(j<=s.args.length)/\(KF n s.op s.num ln L2 (s.args.drop j) j=KF n s.op s.num ln L2 s.args 0)/\F=sF [0,4,5] fz [(8,.i j)]/\h=gz/\m=s.args.length-j) _ _ _ ⟨0,ob,ob,rfl,rfl,rfl⟩ (ZE 9 (Yd fl)) ?_)))
 rintro m F h ⟨j,Uo,XY,rfl,rfl,rfl⟩
 refine Yi 3 [0] (iw (Y6 s.args) (Y0 ((j:Int)<(s.args.length:Int)) (fun Zg=>?_) (fun Zg=>?_)))
 ·obtain ⟨a2,ha2⟩:=Zt s.args j om
  have hav:=hargs a2 (Y2 ha2)
  refine ak (aq (ab 3 (Zv 3 [1,0] (Zz [] (Eh n s j) (Xo [0,4,5,8] [(54,.b (WO n s.op s.num j&&(!Wh L2 ln a2)))] (fun gz=>[Zc gz 2,Zc gz 3,Zc gz 4,Zc gz 5,Zc gz 6,Zc gz 7,Zc gz 8,Zc gz 0,Zc gz 1]) ?_ ?_)))))
  ·refine Z2 1 (ib (b:=WO n s.op s.num j) 45 (fun ZA=>?_) (fun ZA=>?_))
   ·exact ZM 4 [0] (Zm (Zh none (j:Int) 1 (ZY ha2)) (Z2 1 (Zz [2,2,2,2,2,2,2] (FP b ka kb kc kd ke kf L2 ln a2 (hlk:=Zi.len) (hd:=Zi.down)) (Z0 (ZE 9 (Zu (!Wh L2 ln a2) ZA fl))))))
   exact Z0 (wk [2,2,2,2,2,2,2,0,0] (Zu false ZA fl))
  refine ac (WO n s.op s.num j&&(!Wh L2 ln a2)) (p:=(WO n s.op s.num j=true)/\(¬(Wh L2 ln a2=true))) (YH Iff.rfl (Yo Iff.rfl)) (fun ZC=>?_) (fun ZC=>?_)
  ·refine ZF ?_
   have hA:KF n s.op s.num ln L2 s.args 0=false:=by rw [<-XY,Y7 ha2,KF,Ze ZC]
   exact ZD (r1 [] (.inr ⟨rfl,rfl,(by rw [UF,hT];simp only [hA];rfl)⟩))
  exact ak (az (Z2 1 (ZK j (Z0 (ZL ⟨j+1,ob,(by rw [Y7 ha2,KF,Z8 ZC] at XY;exact XY),rfl,rfl,rfl⟩ (wk [7,7,0,0,0,0,0,0,0] (ZO j fl)))))))
 have hA:KF n s.op s.num ln L2 s.args 0=true:=by rw [<-XY,Xi om];rfl
 refine ax 2 (X0 (Vo [0] (W4 (s.into>0) (fun Ye=>?_) (fun Ye=>?_))))
 ·obtain ⟨xt,hxt⟩:=Zt L2.tok ((s.into-1).toNat) (by have:=hinto Ye;omega)
  have hgt:=Vh hxt
  refine aq (aD 13 (ZJ 7 13 [0,1,2,3,4,5] [2,0] (da 6 ((s.into-1)) ((s.into)-(1)) (dx 7 (Wo 8 kf L2.tok (s.into-1) ((s.into-1).toNat) (hq:=rfl)) (U7 8 (VQ 8 kf L2.tok ((s.into-1).toNat) xt hxt) (ZJ 2 4 [9,10] [0] (dw 11 (Y6 s.args) (Zj 0 1 [12] (de (ac (xt != (s.args.length:Int)) Yl (fun Xf=>?_) (fun Xf=>?_)))))))))))
  ·exact ar (Zq (r1 [] (.inr ⟨rfl,rfl,(by rw [UF,hT];simp only [hA,↓reduceIte];rw [KG,Ze Ye,hgt,Ze Xf])⟩)))
  exact ak (aE 9 (ZJ 3 9 [0,1,2,3,4,5] [2,0] (da 6 ((s.into-1)) ((s.into)-(1)) (dx 7 (Wo 8 kf L2.tok (s.into-1) ((s.into-1).toNat) (hq:=rfl)) (Z7 8 (Jy 8 8 [] [] kf L2.tok ((s.into-1).toNat) (-1) (de (ar (Zq (r1 [3,3,3,3,3,3,0] (.inl ⟨ka,kb,kc,kd,ke,kf,(Zs.mk L2.vars L2.own L2.par L2.con L2.fst (L2.tok.set ((s.into-1).toNat) (-1))),rfl,rfl,(by rw [UF,hT];simp only [hA,↓reduceIte];rw [KG,Ze Ye,hgt,Z8 Xf])⟩) (eq:=(rc (rv (xs:=L2.vars) ob (rv (xs:=L2.own) ob (rv (xs:=L2.par) ob (rv (xs:=L2.con) ob (rv (xs:=L2.fst) ob (rv (xs:=(L2.tok.set ((s.into-1).toNat) (-1))) ob rz))))))))))))))))))
 exact ak (ar (Zq (r1 [2,2,2,2,2,2,2] (.inl ⟨ka,kb,kc,kd,ke,kf,L2,rfl,rfl,(by rw [UF,hT];simp only [hA,↓reduceIte];rw [KG,Z8 Ye])⟩))))
end Go.Abs
