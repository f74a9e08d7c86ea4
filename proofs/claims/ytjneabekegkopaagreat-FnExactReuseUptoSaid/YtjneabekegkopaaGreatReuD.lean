/-
  A part of the proof of FnExactReuseUptoSaid (see the last file): no condition.
-/
import Derived.Test.YtjneabekegkopaaGreatReuC
import Derived.Test.YtjneabekegkopaaGreatProg
import Derived.WalkKit
import Derived.Shelf.RegionOpenPlain
import Derived.Lib.Walk
import Derived.Lib.SliceRun
import Derived.Lib.JoinLaws
import Derived.Lib.AppendZeros
import Derived.Lib.AppendZerosOnto
import Derived.Lib.Overlaps
import Derived.Laws.Externs
import Derived.Laws.IdiomCopy
import Derived.Laws.NewBlocks
set_option linter.all false
set_option linter.unusedVariables false
set_option linter.unusedSimpArgs false
set_option linter.unusedSectionVars false
set_option maxRecDepth 10000
set_option maxHeartbeats 4000000
namespace Go.Abs
open Go.Proofs
theorem Zox (b:Nat) (ga:Hd) (gb:Hd) (gc:Hd) (n:Normal) (L:LedB) (ln:List Int) (am:List Arm) (x:Block) (mm:Nat) (hlk:LLen L:=by exact ob) (hlb:L.vars.length≤1000000000:=by exact ob) (hm:mm≤L.vars.length:=by exact ob) (hr:0≤x.result∧x.result<L.vars.length:=by exact ob) (hq:∀y∈L.own,-999999999≤y∧y≤1000000000):Z3 Tryz.prog 116 [.p b 0,Za x,.i mm] [.obj b [Z2 n.decls,sq1 n,nInt ln,nArm am,.h ga,.h gb,.h gc],rV ga L.vars,rV gb L.own,rV gc L.tok] (fun r h=>(r=.b true∧h=[.obj b [Z2 n.decls,sq1 n,nInt ln,nArm am,.h ga,.h gb,.h gc],rV ga ((endM L x.result).vars),rV gb ((endM L x.result).own),rV gc ((endM L x.result).tok)]∧endL mm x.result L=some ((endM L x.result).take mm))∨(r=.b false∧h=[]∧endL mm x.result L=none)):=by
 have hlk0:=hlk
 obtain ⟨e1,e2,e3,e4,e5⟩:=hlk0
 have d1:(decL L x.result).own.length=L.own.length:=List.length_set
 have d2:(decL L x.result).tok.length=L.tok.length:=rfl
 have d3:(decL L x.result).vars.length=L.vars.length:=rfl
 refine enter Tryz.func116 kr (n:=52) kr kr (ar (iA (Z03 x) ?_))
 intro b1
 refine ir 1 [(0,.p b 0),(2,.i mm),(4,.p b1 0)] (ie (aq (aD 16 (dtK (fuel:=10) 16 [0,1,2,3,4,5] (.n 11 (.h ga) (.n 13 (.i x.result) .r)) [1,0] [b,b1] (dx 6 (vIdx 2 ga L.vars x.result x.result.toNat (hq:=rfl)) ?_)))))
 obtain ⟨x1,hx1⟩:=Z6 (xs:=L.vars) (j:=x.result.toNat) om
 have hgv:=Z5a hx1
 refine dx_ 7 (vGet 2 ga L.vars x.result.toNat x1 hx1) (dtk (fuel:=6) 8 [8,9] (.n 17 (.b (x1 != 0)) .r) (db (b:=(x1 != 0)) 17 (fun hb1=>?_) (fun hb1=>?_)))
 ·have hp1:x1≠0:=(bne_iff_ne).1 hb1
  refine dtK (fuel:=3) 6 [10,11,12] (.n 18 (.p b 0) (.n 20 (.i x.result) (.k (.d .r)))) [0] [b1] (do_ 13 (dc 13 [1,1,1,1] [] [] (Zfr b ga gb gc n L ln am x.result (hq:=(fun y hy=>by have:=hq y hy;omega))) ?_))
  rintro _ _ ⟨rfl,rfl⟩
  refine dtk (fuel:=0) 2 [14,15] (.n 23 (.b (!decide (1≤gI L.own x.result))) .r) (de (ac (!decide (1≤gI L.own x.result)) (p:=¬(decide (1≤gI L.own x.result)=true)) (Zc Iff.rfl) (fun hc1=>?_) (fun hc1=>?_)))
  ·refine ar (ir 1 [(6,.b false)] (ie ?_))
   exact at_ (r1 [] (.inr ⟨rfl,rfl,(Zzw (by rw [hgv];exact hp1) (fun q=>hc1 (decide_eq_true q)))⟩))
  refine ak (aq (ar (irk 2 (.n 7 (.i mm) .r) (ie (ab 0 (al (fun m F h=>∃(k:Nat),(mm≤k∧k≤L.vars.length)∧(Z30 ((decL L x.result).own.drop k) ((decL L x.result).tok.drop k)=Z30 ((decL L x.result).own.drop mm) ((decL L x.result).tok.drop mm))∧F=[(0,.p b 0),(7,.i k)]∧h=[.obj b [Z2 n.decls,sq1 n,nInt ln,nArm am,.h ga,.h gb,.h gc],rV ga ((decL L x.result).vars),rV gb ((decL L x.result).own),rV gc ((decL L x.result).tok)]∧m=L.vars.length-k) _ _ _ ⟨mm,om,ob,rfl,rfl,rfl⟩ (wk [0,0,0,0] fl) ?_))))))
  rintro m F h ⟨k,c0_0,c0_1,rfl,rfl,rfl⟩
  refine aq (ar (irK 5 (.n 25 (.i k) (.n 29 (.h ga) .r)) [0] [b] (is_ (vLen 1 ga ((decL L x.result).vars)) (irk 1 (.n 31 (.b (decide ((k:Int)<((((decL L x.result).vars).length:Nat):Int)))) .r) (ie (ac (decide ((k:Int)<((((decL L x.result).vars).length:Nat):Int))) dq (fun hc2=>?_) (fun hc2=>?_)))))))
  ·refine ak (aq (ab 1 (ar (irK 5 (.n 37 (.h gb) (.n 38 (.i k) .r)) [0] [b] (is_ (vIdx 2 gb ((decL L x.result).own) (k:Int) k) ?_)))))
   obtain ⟨x2,hx2⟩:=Z6 (xs:=(decL L x.result).own) (j:=k) om
   refine ix_ (vGet 2 gb ((decL L x.result).own) k x2 hx2) (irk 2 (.n 42 (.b (x2 != 0)) .r) (ib (b:=(x2 != 0)) 42 (fun hb2=>?_) (fun hb2=>?_)))
   ·have hp2:x2≠0:=(bne_iff_ne).1 hb2
    refine irk 9 (.n 51 (.b true) (.k (.d .r))) (ie (ac1 (ar (ir 1 [(6,.b false)] (ie ?_)))))
    have hE:endM L x.result=decL L x.result:=if_pos (by rw [hgv];exact hp1)
    obtain ⟨y,hy⟩:=Z6 (xs:=(decL L x.result).tok) (j:=k) om
    exact at_ (r1 [] (.inr ⟨rfl,rfl,(Zfv (by rw [hE];exact Zdp hx2 hy (.inl hp2) c0_1))⟩))
   have hp3:¬(x2≠0):=Zd bne_iff_ne hb2
   refine irK 5 (.n 46 (.h gc) (.n 47 (.i k) (.k (.d .r)))) [0] [b] (is_ (vIdx 3 gc ((decL L x.result).tok) (k:Int) k) ?_)
   obtain ⟨x3,hx3⟩:=Z6 (xs:=(decL L x.result).tok) (j:=k) om
   refine ix_ (vGet 3 gc ((decL L x.result).tok) k x3 hx3) (irk 2 (.n 51 (.b (decide (x3≥0))) .r) (ie (ac (decide (x3≥0)) dq (fun hc3=>?_) (fun hc3=>?_))))
   ·refine ar (ir 1 [(6,.b false)] (ie ?_))
    have hE:endM L x.result=decL L x.result:=if_pos (by rw [hgv];exact hp1)
    exact at_ (r1 [] (.inr ⟨rfl,rfl,(Zfv (by rw [hE];exact Zdp hx2 hx3 (.inr hc3) c0_1))⟩))
   refine ak (az (irk 1 (.n 32 (.i k) .r) (ia (((k+1:Nat):Int)) (((k:Int))+(1)) (ir 1 [(0,.p b 0),(7,.i (k+1:Nat))] (ie ?_)))))
   exact ⟨_,_,_,ob,⟨k+1,ob,(by first|exact Zgb hx2 hx3 om c0_1|exact Zgb hx4 hx5 om c0_1),rfl,rfl,rfl⟩,(wk [0,0,0,0] (fr (fc (x:=.i (k+1:Nat)) li fl)))⟩
  refine ax 0 (ar (ir 1 [(6,.b true)] (ie ?_)))
  have hE:endM L x.result=decL L x.result:=if_pos (by rw [hgv];exact hp1)
  exact at_ (r1 [0,0,0,0] (.inl ⟨rfl,rfl,(Zqx (fun _=>of_decide_eq_true (Classical.not_not.1 hc1)) (by rw [hE];exact Zoj om c0_1))⟩) (eq:=(rc (rv (xs:=(decL L x.result).vars) (by rw [hE]) (rv (xs:=(decL L x.result).own) (by rw [hE]) (rv (xs:=(decL L x.result).tok) (by rw [hE]) rz))))))
 have hp4:¬(x1≠0):=Zd bne_iff_ne hb1
 refine dtk (fuel:=0) 6 [10,11,12,13,14,15] (.n 23 (.b false) (.k (.d .r))) (de (ac0 (ak (aq (ar (irk 2 (.n 7 (.i mm) .r) (ie (ab 0 (al (fun m F h=>∃(k:Nat),(mm≤k∧k≤L.vars.length)∧(Z30 (L.own.drop k) (L.tok.drop k)=Z30 (L.own.drop mm) (L.tok.drop mm))∧F=[(0,.p b 0),(7,.i k)]∧h=[.obj b [Z2 n.decls,sq1 n,nInt ln,nArm am,.h ga,.h gb,.h gc],rV ga L.vars,rV gb L.own,rV gc L.tok]∧m=L.vars.length-k) _ _ _ ⟨mm,om,ob,rfl,rfl,rfl⟩ (wk [1,1,1,1] fl) ?_)))))))))
 rintro m F h ⟨k,c0_0,c0_1,rfl,rfl,rfl⟩
 refine aq (ar (irK 5 (.n 25 (.i k) (.n 29 (.h ga) .r)) [0] [b] (is_ (vLen 1 ga L.vars) (irk 1 (.n 31 (.b (decide ((k:Int)<(L.vars.length:Int)))) .r) (ie (ac (decide ((k:Int)<(L.vars.length:Int))) dq (fun hc4=>?_) (fun hc4=>?_)))))))
 ·refine ak (aq (ab 1 (ar (irK 5 (.n 37 (.h gb) (.n 38 (.i k) .r)) [0] [b] (is_ (vIdx 2 gb L.own (k:Int) k) ?_)))))
  obtain ⟨x4,hx4⟩:=Z6 (xs:=L.own) (j:=k) om
  refine ix_ (vGet 2 gb L.own k x4 hx4) (irk 2 (.n 42 (.b (x4 != 0)) .r) (ib (b:=(x4 != 0)) 42 (fun hb3=>?_) (fun hb3=>?_)))
  ·have hp5:x4≠0:=(bne_iff_ne).1 hb3
   refine irk 9 (.n 51 (.b true) (.k (.d .r))) (ie (ac1 (ar (ir 1 [(6,.b false)] (ie ?_)))))
   have hE:endM L x.result=L:=if_neg (by rw [hgv];exact hp4)
   obtain ⟨y,hy⟩:=Z6 (xs:=L.tok) (j:=k) om
   exact at_ (r1 [] (.inr ⟨rfl,rfl,(Zfv (by rw [hE];exact Zdp hx4 hy (.inl hp5) c0_1))⟩))
  have hp6:¬(x4≠0):=Zd bne_iff_ne hb3
  refine irK 5 (.n 46 (.h gc) (.n 47 (.i k) (.k (.d .r)))) [0] [b] (is_ (vIdx 3 gc L.tok (k:Int) k) ?_)
  obtain ⟨x5,hx5⟩:=Z6 (xs:=L.tok) (j:=k) om
  refine ix_ (vGet 3 gc L.tok k x5 hx5) (irk 2 (.n 51 (.b (decide (x5≥0))) .r) (ie (ac (decide (x5≥0)) dq (fun hc5=>?_) (fun hc5=>?_))))
  ·refine ar (ir 1 [(6,.b false)] (ie ?_))
   have hE:endM L x.result=L:=if_neg (by rw [hgv];exact hp4)
   exact at_ (r1 [] (.inr ⟨rfl,rfl,(Zfv (by rw [hE];exact Zdp hx4 hx5 (.inr hc5) c0_1))⟩))
  refine ak (az (irk 1 (.n 32 (.i k) .r) (ia (((k+1:Nat):Int)) (((k:Int))+(1)) (ir 1 [(0,.p b 0),(7,.i (k+1:Nat))] (ie ?_)))))
  exact ⟨_,_,_,ob,⟨k+1,ob,(by first|exact Zgb hx2 hx3 om c0_1|exact Zgb hx4 hx5 om c0_1),rfl,rfl,rfl⟩,(wk [0,0,0,0] (fr (fc (x:=.i (k+1:Nat)) li fl)))⟩
 refine ax 0 (ar (ir 1 [(6,.b true)] (ie ?_)))
 have hE:endM L x.result=L:=if_neg (by rw [hgv];exact hp4)
 exact at_ (r1 [0,0,0,0] (.inl ⟨rfl,rfl,(Zqx (fun q=>absurd (by rw [←hgv];exact q) hp4) (by rw [hE];exact Zoj om c0_1))⟩) (eq:=(rc (rv (xs:=L.vars) (by rw [hE]) (rv (xs:=L.own) (by rw [hE]) (rv (xs:=L.tok) (by rw [hE]) rz))))))
theorem Zus (b:Nat) (ga:Hd) (gb:Hd) (gc:Hd) (n:Normal) (L:LedB) (ln:List Int) (am:List Arm) (i:Int) (hlk:LLen L) (hi:0≤i∧i<L.vars.length) (hq:∀x∈L.own,-1000000000≤x∧x≤1000000000):Z3 Tryz.prog 164 [.p b 0,.i i] [.obj b [Z2 n.decls,sq1 n,nInt ln,nArm am,.h ga,.h gb,.h gc],rV ga L.vars,rV gb L.own,rV gc L.tok] (fun r h=>(r=.b true∧h=[.obj b [Z2 n.decls,sq1 n,nInt ln,nArm am,.h ga,.h gb,.h gc],rV ga ((decL L i).vars),rV gb ((decL L i).own),rV gc ((decL L i).tok)]∧1≤gI L.own i)∨(r=.b false∧h=[.obj b [Z2 n.decls,sq1 n,nInt ln,nArm am,.h ga,.h gb,.h gc],rV ga ((decL L i).vars),rV gb ((decL L i).own),rV gc ((decL L i).tok)]∧¬1≤gI L.own i)):=by
 refine (Zfr b ga gb gc n L ln am i hlk hi hq).mono fun r h q=>?_
 obtain ⟨rfl,rfl⟩:=q
 by_cases hc:1≤gI L.own i
 ·exact .inl ⟨by rw [decide_eq_true hc],rfl,hc⟩
 ·exact .inr ⟨by rw [decide_eq_false hc],rfl,hc⟩
theorem Zup (b:Nat) (ga:Hd) (gb:Hd) (gc:Hd) (n:Normal) (L:LedB) (ln:List Int) (am:List Arm) (op:Int) (v:Int) (q:Int) (hn:NOk n:=by exact ob) (hk:LOk n.decls L q:=by exact ob) (har:ArmR n.decls L am:=by exact ob) (hln:ln.length≤4294967296:=by exact ob) (hal:am.length≤1000000000:=by exact ob) (hlb:L.vars.length≤1000000000:=by exact ob) (hi:0≤v∧v<L.vars.length:=by exact ob) (hq:0≤q∧q≤999999980:=by exact ob):Z3 Tryz.prog 199 [.p b 0,.i op,.i v] [.obj b [Z2 n.decls,sq1 n,nInt ln,nArm am,.h ga,.h gb,.h gc],rV ga L.vars,rV gb L.own,rV gc L.tok] (fun r h=>(∃(L':LedB),r=.b true∧h=[.obj b [Z2 n.decls,sq1 n,nInt ln,nArm am,.h ga,.h gb,.h gc],rV ga L'.vars,rV gb L'.own,rV gc L'.tok]∧cntL n ln L op v=some L')∨(r=.b false∧h=[]∧cntL n ln L op v=none)):=by
 have hlk:=hk.len
 obtain ⟨e1,e2,e3,e4,e5⟩:=hk.len
 have hdk:=hn.decls
 obtain ⟨xo,hxo⟩:=Z6 (xs:=L.own) (j:=v.toNat) om
 have hgo:=Z5a hxo
 obtain ⟨xt,hxt⟩:=Z6 (xs:=L.tok) (j:=v.toNat) om
 have hgt:=Z5a hxt
 have hob:=hk.bd xo (List.mem_of_getElem? hxo)
 have hon:=hk.nn xo (List.mem_of_getElem? hxo)
 have d1:(decL L v).own.length=L.own.length:=List.length_set
 have d2:(decL L v).tok.length=L.tok.length:=rfl
 have d3:(decL L v).vars.length=L.vars.length:=rfl
 refine enter Tryz.func199 kr (n:=91) kr kr (ar (ir 1 [(0,.p b 0),(1,.i op),(2,.i v)] (ie (aq (ar (irk 1 (.n 11 (.i op) .r) (ie (ab 0 (ar (irk 2 (.n 12 (.b (op==14)) .r) (ie (ac (op==14) beq_iff_eq (fun hc1=>?_) (fun hc1=>?_)))))))))))))
 ·refine aq (ar (irk 2 (.n 14 (.p b 0) (.n 15 (.i v) .r)) (ic [0,0,0,0] (Zgm b ga gb gc _ L ln am v ob ob ob ob ob hk.down ob) ?_)))
  rintro _ _ ⟨rfl,rfl⟩
  refine irk 1 (.n 17 (.b (!Z1m L ln v)) .r) (ie (ac (!Z1m L ln v) (p:=¬(Z1m L ln v=true)) (Zc Iff.rfl) (fun hc2=>?_) (fun hc2=>?_)))
  ·refine ar (ir 1 [(6,.b false)] (ie ?_))
   exact at_ (r1 [] (.inr ⟨rfl,rfl,(Zzm hc1 hc2)⟩))
  refine ak (ar (iR 5 [(21,.h gb),(22,.i v)] [0] [b] (is_ (vIdx 2 gb L.own v v.toNat (hq:=rfl)) (ix_ (vGet 2 gb L.own v.toNat xo hxo) (ia ((xo+1)) ((xo)+(1)) (is_ (vIdx 2 gb L.own v v.toNat (hq:=rfl)) (iVS 2 gb L.own v.toNat (xo+1) (ie (ar (ir 1 [(6,.b true)] (ie ?_)))))))))))
  exact at_ (r1 [1,1,0,0] (.inl ⟨(Led.mk L.vars (L.own.set v.toNat (xo+1)) L.par L.con L.fst L.tok),rfl,rfl,(Zzn hc1 (Classical.not_not.1 hc2) hgo)⟩) (eq:=(rc (rv (xs:=L.vars) ob (rv (xs:=(L.own.set v.toNat (xo+1))) ob (rv (xs:=L.tok) ob rz))))))
 refine ar (irk 2 (.n 27 (.b (op==15)) .r) (ie (ac (op==15) beq_iff_eq (fun hc3=>?_) (fun hc3=>?_))))
 ·refine ar (ir 2 [(29,.p b 0),(30,.i v)] (ic [0,0,0,0] (Zus b ga gb gc n L ln am v ob ob (fun y hy=>by have h1:=hk.nn y hy;have h2:=hk.bd y hy;omega)) ?_))
  rintro _ _ (⟨rfl,rfl,hp1⟩|⟨rfl,rfl,hp2⟩)
  ·refine ir 1 [(6,.b true)] (ie ?_)
   exact at_ (r1 [0,0,0,0] (.inl ⟨(decL L v),rfl,rfl,(Zva hc3 hp1)⟩))
  refine ir 1 [(6,.b false)] (ie ?_)
  exact at_ (r1 [] (.inr ⟨rfl,rfl,(Zv9 hc3 hp2)⟩))
 refine ak (ar (irK 5 (.n 36 (nArm am) (.n 37 (.i v) .r)) [0] [b] (ic [] (Z02p am v ob) ?_)))
 rintro _ _ (⟨a1,rfl,rfl,hp3⟩|⟨rfl,rfl,hp4⟩)
 ·have hof:=hp3
  have hmem:=(Zpr hof).1
  have hrg:=har.rng _ hmem
  have hO:=(Zqp (n:=n) (ln:=ln) hc1 hc3).trans (Z00x (op:=op) har hi hof hgt)
  have hfl:a1.fds.length≤3:=by
   have h:=har.off v hi.1 hi.2
   rw [hof] at h
   rw [h.2.2]
   exact Z13 hdk _
  have hhl:=Zmx a1.fds a1.fst
  refine irk 3 (.n 39 (.agg [.i a1.mat,.i a1.fst,nInt a1.fds,.b a1.chg]) (.n 40 (.b true) .r)) (iA [.i 0,.i 0,nl,.b false] ?_)
  intro b1
  refine iS 0 b1 0 [.i a1.mat,.i a1.fst,nInt a1.fds,.b a1.chg] [.i 0,.i 0,nl,.b false] [.i a1.mat,.i a1.fst,nInt a1.fds,.b a1.chg] (irk 1 (.n 8 (.b true) .r) (ie (aq (ar (irk 5 (.n 43 (.b false) (.n 44 (.p b 0) (.n 45 (.i v) .r))) (ic [1,1,1,1] (Zfr b ga gb gc n L ln am v (hlk:=hlk) (hq:=(fun y hy=>by have h1:=hk.nn y hy;have h2:=hk.bd y hy;omega))) ?_))))))
  rintro _ _ ⟨rfl,rfl⟩
  refine Z24 [(0,.p b 0),(1,.i op),(2,.i v),(7,.p b1 0),(62,.b ((!decide (1≤gI L.own v))||((op==17)&&(decide (xt≥0)))))] [.obj b [Z2 n.decls,sq1 n,nInt ln,nArm am,.h ga,.h gb,.h gc],rV ga ((decL L v).vars),rV gb ((decL L v).own),rV gc ((decL L v).tok),.obj b1 [.i a1.mat,.i a1.fst,nInt a1.fds,.b a1.chg]] ?_ ?_
  ·refine ir 3 [(0,.p b 0),(1,.i op),(2,.i v),(7,.p b1 0),(49,.b (!decide (1≤gI L.own v)))] (ib (b:=(!decide (1≤gI L.own v))) 49 (fun hb1=>?_) (fun hb1=>?_))
   ·have hp5:¬(decide (1≤gI L.own v)=true):=((Zc Iff.rfl)).1 hb1
    refine irk 13 (.n 62 (.b true) (.d (.w .z))) (ie ?_)
    exact wk [0,0,0,0,0] (fq (fc (x:=.b true) (lb (by simp only [hb1];rfl)) fl))
   have hp6:¬(¬(decide (1≤gI L.own v)=true)):=Zd (Zc Iff.rfl) hb1
   refine irk 3 (.n 52 (.b (op==17)) (.w (.k .z))) (ib (b:=(op==17)) 52 (fun hb2=>?_) (fun hb2=>?_))
   ·have hp7:op=17:=(beq_iff_eq).1 hb2
    refine irK 5 (.n 56 (.h gc) (.n 57 (.i v) (.k (.d .r)))) [0] [b] (is_ (vIdx 3 gc ((decL L v).tok) v v.toNat (hq:=rfl)) (ix_ (vGet 3 gc ((decL L v).tok) v.toNat xt hxt) (irk 3 (.n 62 (.b (decide (xt≥0))) .r) (ie ?_))))
    exact wk [0,0,0,0,0] (fq (fc (x:=.b (decide (xt≥0))) (lb (by simp only [hb1,hb2];rfl)) fl))
   have hp8:¬(op=17):=Zd beq_iff_eq hb2
   refine irk 10 (.n 62 (.b false) (.k (.d .r))) (ie ?_)
   exact wk [0,0,0,0,0] (fq (fc (x:=.b false) (lb (by simp only [hb1,hb2];rfl)) fl))
  refine ac ((!decide (1≤gI L.own v))||((op==17)&&(decide (xt≥0)))) (p:=(¬(decide (1≤gI L.own v)=true))∨((op=17)∧(xt≥0))) (Zg (Zc Iff.rfl) (Zj beq_iff_eq dq)) (fun hc4=>?_) (fun hc4=>?_)
  ·refine ar (ir 1 [(6,.b false)] (ie ?_))
   exact at_ (r1 [] (.inr ⟨rfl,rfl,(by rw [hO,if_pos (hc4.imp (fun h g=>h (decide_eq_true g)) id)])⟩))
  have hG:¬(¬1≤gI L.own v∨(op=17∧xt≥0)):=fun z=>hc4 (z.imp (fun h g=>h (of_decide_eq_true g)) id)
  have hbd:=Z05q hk (Classical.not_not.1 fun z=>hG (.inl z)) hi
  refine ak (aq (ar (iR 1 [(0,.p b 0),(1,.i op),(2,.i v),(7,.p b1 0),(63,.agg [.i a1.mat,.i a1.fst,nInt a1.fds,.b a1.chg])] [4] [b1] (ic [] (Z8m a1) ?_))))
  rintro _ _ ⟨rfl,rfl⟩
  refine io (.i (((Z5b a1.fds a1.fst).length:Nat):Int)) (.i (((Z8 (Z5b a1.fds a1.fst)).length:Nat):Int)) (li (by rw [Z4])) (irk 1 (.n 66 (.i 0) .r) (ie (ab 1 (al (fun m F h=>∃(k:Nat) (o:List Int),(k≤(Z5b a1.fds a1.fst).length)∧(o.length=L.vars.length)∧(∀y∈o,0≤y∧y≤q+k)∧(Zsf o ((Z5b a1.fds a1.fst).drop k)=addF (decL L v).own a1.fst a1.fds)∧F=[(0,.p b 0),(1,.i op),(2,.i v),(7,.p b1 0),(64,nInt (Z5b a1.fds a1.fst)),(65,.i (((Z5b a1.fds a1.fst).length:Nat):Int)),(66,.i k)]∧h=[.obj b [Z2 n.decls,sq1 n,nInt ln,nArm am,.h ga,.h gb,.h gc],rV ga ((decL L v).vars),rV gb o,rV gc ((decL L v).tok),.obj b1 [.i a1.mat,.i a1.fst,nInt a1.fds,.b a1.chg]]∧m=(Z5b a1.fds a1.fst).length-k) _ _ _ ⟨0,(decL L v).own,ob,ob,(fun y hy=>by have:=hbd y hy;omega),(by rw [List.drop_zero];exact Zzj),rfl,rfl,rfl⟩ (wk [0,0,0,0,0] (fq (fw (fc (x:=.i 0) li fl)))) ?_))))
  rintro m F h ⟨k,o,c0_0,c0_1,c0_2,c0_3,rfl,rfl,rfl⟩
  refine ar (irk 1 (.n 67 (.b (decide ((k:Int)<(((Z5b a1.fds a1.fst).length:Nat):Int)))) .r) (ie (aq (ac (decide ((k:Int)<(((Z5b a1.fds a1.fst).length:Nat):Int))) dq (fun hc5=>?_) (fun hc5=>?_)))))
  ·refine ak (aq (ab 2 (ar ?_)))
   obtain ⟨x1,hx1⟩:=Z6 (xs:=(Z5b a1.fds a1.fst)) (j:=k) om
   have hfm:=Zh0 (List.mem_of_getElem? hx1)
   refine is_ (Z0 (es:=Z8 (Z5b a1.fds a1.fst)) (hv:=none) (j:=(k:Int)) (sz:=1) (y:=.i x1) kr om (Z9 hx1) rfl) (irk 2 (.n 10 (.i x1) .r) (ie (az (irK 5 (.n 73 (.h gb) (.n 74 (.i x1) .r)) [0] [b] (is_ (vIdx 2 gb o x1 x1.toNat (hq:=rfl)) ?_)))))
   obtain ⟨x2,hx2⟩:=Z6 (xs:=o) (j:=x1.toNat) om
   have hy2:=c0_2 _ (List.mem_of_getElem? hx2)
   have hgx:=Z5a hx2
   refine ix_ (vGet 2 gb o x1.toNat x2 hx2) (ia ((x2+1)) ((x2)+(1)) (is_ (vIdx 2 gb o x1 x1.toNat (hq:=rfl)) (iVS 2 gb o x1.toNat (x2+1) (ie (az (ia (((k+1:Nat):Int)) (((k:Int))+(1)) (irk 1 (.n 66 (.i (k+1:Nat)) (.p (.p (.p (.p (.p (.d (.d (.d (.p (.d (.w (.k (.k .z)))))))))))))) (ie ?_))))))))
   exact ⟨_,_,_,ob,⟨k+1,(o.set x1.toNat (x2+1)),ob,(by simp [c0_1]),(by intro y hy;rcases Z33 hy with hy|rfl<;>first|(have:=c0_2 y hy;omega)|omega),(Z02u hx1 hgx c0_3),rfl,rfl,rfl⟩,(wk [1,1,0,0,0] (fq (fw (fc (x:=.i (k+1:Nat)) li fl))))⟩
  refine ax 1 (aq (ar (irk 2 (.n 81 (.b (op==17)) .r) (ie (ac (op==17) beq_iff_eq (fun hc6=>?_) (fun hc6=>?_))))))
  ·refine aE 10 (dT (fuel:=3) 10 [0,1,2,3,4,5,6] [(85,.h gc),(86,.i v),(88,nInt a1.fds)] [0,4] [b,b1] (dw 7 (Z4 a1.fds) (dx 8 (vIdx 3 gc ((decL L v).tok) v v.toNat (hq:=rfl)) (do_ 9 (dVS 9 3 [] [] gc ((decL L v).tok) v.toNat (a1.fds.length:Int) (de (ar (ir 1 [(6,.b true)] (ie ?_)))))))))
   have hE:=Zqn om c0_3
   exact at_ (r1 [1,1,1,0] (.inl ⟨(Led.mk L.vars o L.par L.con L.fst (L.tok.set v.toNat a1.fds.length)),rfl,rfl,(by rw [hO,if_neg hG,if_pos hc6,hE];rfl)⟩) (eq:=(rc (rv (xs:=(decL L v).vars) ob (rv (xs:=o) ob (rv (xs:=(((decL L v).tok).set v.toNat (a1.fds.length:Int))) ob rz))))))
  refine ak (ar (ir 1 [(6,.b true)] (ie ?_)))
  have hE:=Zqn om c0_3
  exact at_ (r1 [0,0,0,0] (.inl ⟨(Led.mk L.vars o L.par L.con L.fst L.tok),rfl,rfl,(by rw [hO,if_neg hG,if_neg hc6,hE];rfl)⟩) (eq:=(rc (rv (xs:=(decL L v).vars) ob (rv (xs:=o) ob (rv (xs:=(decL L v).tok) ob rz))))))
 refine irk 3 (.n 39 (.agg [.i 0,.i 0,oInt [] (.slice none 0 0),.b false]) (.n 40 (.b false) .r)) (iA [.i 0,.i 0,nl,.b false] ?_)
 intro b2
 refine iS 0 b2 0 [.i 0,.i 0,oInt [] (.slice none 0 0),.b false] [.i 0,.i 0,nl,.b false] [.i 0,.i 0,oInt [] (.slice none 0 0),.b false] (irk 1 (.n 8 (.b false) .r) (ie (aq (ar (irk 22 (.n 62 (.b true) .r) (ie (ac1 (ar (ir 1 [(6,.b false)] (ie ?_))))))))))
 exact at_ (r1 [] (.inr ⟨rfl,rfl,((Zqp (n:=n) (ln:=ln) hc1 hc3).trans (Zti har hi hp4))⟩))
end Go.Abs
section
namespace Go.Proofs
open Go.Shelf Go.RowKit Go.Lib
section
variable {P:Program}
theorem Zog (w:World) {o:Oper} {a:Act} {K:Act→World→Prop} {Q:Exit→Act→World→Prop} (d s:Operand) (t t':TypeId)
  (ho:o.op=.call { callee:=.builtin .copy,args:=#[d,s],argTypes:=#[t,t'] }) (v u:Value) (hd:a.eval d=v) (hs:a.eval s=u) {v':Value} {w':World}
  (hr:(Builtin.copy_ #[t,t'] o.type #[v,u]).run P w=.ok v' w') (h:K (a.put o.dst v') w'):o.wp P a w K Q:=by
 unfold Oper.wp execOp
 simp only [ho,resolve,invoke,builtin,Sem.run_bind,Sem.run_pure,Result.andThen_ok,List.map_toArray,List.map_cons,List.map_nil,hd,hs,hr]
 exact h
theorem Z6u (w:World) {ops:Array Oper} {rest:List Oper} {o:Oper} {a:Act} {Q:Exit→Act→World→Prop} (hgd:o.guard=none) (d s:Operand) (t t':TypeId)
  (ho:o.op=.call { callee:=.builtin .copy,args:=#[d,s],argTypes:=#[t,t'] }) (v u:Value) (hd:a.eval d=v) (hs:a.eval s=u) {v':Value} {w':World}
  (hr:(Builtin.copy_ #[t,t'] o.type #[v,u]).run P w=.ok v' w') (h:wpList P ops Q rest (a.put o.dst v') w'):wpList P ops Q (o::rest) a w:=
 wpList_plain hgd fun _ hK=>Zog w d s t t' ho v u hd hs hr (hK _ _ h)
theorem Zbb {ops:Array Oper} {o:Oper} {a:Act} {w:World} {K:Act→World→Prop} {Q:Exit→Act→World→Prop} {E:Prop}
  (hg:o.guard=none) (d x:Operand) (dT sT:TypeId) (hop:o.op=Op.call { callee:=Callee.builtin Builtin.copy,args:=#[d,x],argTypes:=#[dT,sT] })
  (v u:Value) (hd:a.eval d=v) (hx:a.eval x=u) {v':Value} {w':World} (hr:(Builtin.copy_ #[dT,sT] o.type #[v,u]).run P w=.ok v' w') (hK:K (a.put o.dst v') w') :
  if Region.wanted o (yielded ops a.tmps)=true then Oper.wp P o a w K Q else E:=by
 have hw:Region.wanted o (yielded ops a.tmps)=true:=by simp [Region.wanted,hg]
 rw [if_pos hw]
 unfold Oper.wp
 simp [execOp,hop,resolve,invoke,builtin,hd,hx,hr,Result.andThen]
 exact hK
theorem Z5l (b:Nat) (vs:List Value) (o:Nat) (w:World) (h:∀j,j<vs.length→(w.cell? ⟨b,o+j,none⟩).isSome=true) (k:Nat) (hk:(w.cell? ⟨b,k,none⟩).isSome=true):((w.setCells b o vs).cell? ⟨b,k,none⟩).isSome=true:=by
 by_cases hin:o≤k∧k<o+vs.length
 ·have:=World.cell?_setCells_in b vs o w h (k-o) (by omega)
  rw [show o+(k-o)=k by omega] at this
  rw [this];rfl
 ·rw [World.cell?_setCells_out b vs o w ⟨b,k,none⟩ (fun _ _=>by show k<o∨o+vs.length≤k;omega)]
  exact hk
end
theorem i3:(Tryz.prog.info? 3).map (fun i=>(i.zero,i.size,i.bytes))=some (some (Value.int IntKind.i64 0),1,8):=by kernel_rfl
theorem z3 (w:World):(Go.sizeOf 3).run Tryz.prog w=.ok 1 w:=by
 obtain ⟨i0,hi0,h0,h1,h2⟩:=info_parts i3
 have e:=run_sizeOf (P:=Tryz.prog) w hi0
 rwa [show Tryz.prog.cellsOf 3=1 by kernel_rfl] at e
set_option maxHeartbeats 4000000 in
set_option maxRecDepth 100000 in
theorem Zwl (b off n c i vb voff m vc:Nat) (cs vs:List Value) (w:World) (hi:i<n) (hm:0<m) (hroom:n+m≤c) (hc63:n+m≤9223372036854775807) (hvb:vb≠b)
  (hcl:cs.length=n) (hvl:vs.length=m)
  (hcs:∀j v,cs[j]? = some v→w.cell? ⟨b,off+j,none⟩=some v) (hsp:∀j,j<n+m→(w.cell? ⟨b,off+j,none⟩).isSome=true) (hfz:∀j,j<n+m→w.frozen? ⟨b,off+j,none⟩=false)
  (hvs:∀j v,vs[j]? = some v→w.cell? ⟨vb,voff+j,none⟩=some v) (h1c:∀v∈cs,v.oneCell'=true) (h1v:∀v∈vs,v.oneCell'=true)
  (tA tB:TypeId) (kA kB:Nat) (hsa:w.shape? vb=some (tA,kA)) (hsb:w.shape? b=some (tB,kB)) (hkB:kB≠0) (hfa:w.frozen? ⟨vb,voff,none⟩=false) (hfe:w.frozen? ⟨vb,kA,none⟩=false) :
  Calls Tryz.prog 225 #[.slice (some ⟨b,off,none⟩) n c,.int .i64 i,.slice (some ⟨vb,voff,none⟩) m vc] w fun e w'=>
   e=.returned (.slice (some ⟨b,off,none⟩) (n+m) c)∧w'=(w.drew.setCells b (off+(i+m)) (cs.drop i)).setCells b (off+i) vs:=by
 have mixed:Tryz.prog.follows .mixedOrders=true:=by kernel_rfl
 have hz1:¬((m:Int)=0):=by omega
 have hz2:¬((i:Int)=(n:Int)):=by omega
 have hsz:(Tryz.prog.info? 3).map (·.size)=some 1:=by
  obtain ⟨i0,hi0,h0,h1,h2⟩:=info_parts i3
  rw [hi0];simp [h1]
 have hov:∀lb cb,(callFunc 227 #[.slice (some ⟨vb,voff,none⟩) m vc,.slice (some ⟨b,off+(i+m),none⟩) lb cb]).run Tryz.prog w=.ok (.value (.bool false)) w:=fun lb cb=>by
  rw [run_callFunc_extern Tryz.func227 (by kernel_rfl) (by kernel_rfl) (by kernel_rfl) (e:=Extern.SlicesOverlaps.overlaps #[49,49] #[4]) (by kernel_rfl),
   Lib.run_overlaps_apart w 49 4 3 Tryz.underlying49 1 z3 ⟨vb,voff,none⟩ ⟨b,off+(i+m),none⟩ m vc lb cb hvb tA tB kA kB hsa hsb hkB hfa hfe]
  rfl
 have hdl:(cs.drop i).length=n-i:=by rw [List.length_drop,hcl]
 have hw1:IntKind.i64.wrap ((i:Int)+(m:Int))=(i:Int)+(m:Int):=by rw [IntKind.wrap_i64];omega
 have hb1:(0:Int)≤(i:Int)+(m:Int):=by omega
 have hin:i≤n:=by omega
 have htn:((i:Int)+(m:Int)).toNat=i+m:=by omega
 have hb2:¬(c=i+m):=by omega
 have hb3:(i:Int)≤(n:Int)+(m:Int):=by omega
 have hb4:¬(c=i):=by omega
 have hcp1:∀ty dc sc,(Builtin.copy_ #[115,115] ty #[.slice (some ⟨b,off+(i+m),none⟩) (n+m-(i+m)) dc,.slice (some ⟨b,off+i,none⟩) (n+m-i) sc]).run Tryz.prog w.drew=.ok (goInt (cs.drop i).length) (w.drew.setCells b (off+(i+m)) (cs.drop i)):=fun ty dc sc=>
  run_copy_cells w.drew _ _ ty 3 b (off+(i+m)) (n+m-(i+m)) dc ⟨b,off+i,none⟩ (n+m-i) sc (cs.drop i) Tryz.underlying115 hsz (by rw [hdl];simp only [Nat.min_def];split<;>omega)
   (fun j v hj=>by rw [Addr.add_lit,Nat.add_assoc];exact hcs (i+j) v (by rwa [List.getElem?_drop] at hj))
   (fun j hj=>by rw [Nat.add_assoc];exact hsp _ (by omega)) (fun j hj=>by rw [Nat.add_assoc];exact hfz _ (by omega)) (fun v hv=>h1c v (List.mem_of_mem_drop hv))
 obtain ⟨W1,hW1⟩:∃W1,W1=w.drew.setCells b (off+(i+m)) (cs.drop i):=⟨_,rfl⟩
 have hsp1:∀k,k<n+m→(W1.cell? ⟨b,off+k,none⟩).isSome=true:=fun k hk=>by
  rw [hW1]
  exact Z5l b _ _ _ (fun j hj=>by rw [Nat.add_assoc];exact hsp _ (by omega)) _ (hsp k hk)
 have hcp2:∀(W:World),(∀x,W.cell? x=W1.cell? x)→(∀x,W.frozen? x=W1.frozen? x)→∀ty dc,(Builtin.copy_ #[115,49] ty #[.slice (some ⟨b,off+i,none⟩) (n+m-i) dc,.slice (some ⟨vb,voff,none⟩) m vc]).run Tryz.prog W=.ok (goInt vs.length) (W.setCells b (off+i) vs):=fun W hWc hWf ty dc=>
  run_copy_cells W _ _ ty 3 b (off+i) (n+m-i) dc ⟨vb,voff,none⟩ m vc vs Tryz.underlying115 hsz (by rw [hvl];simp only [Nat.min_def];split<;>omega)
   (fun j v hj=>by
    rw [Addr.add_lit,hWc,hW1,World.cell?_setCells_out b _ _ _ _ (fun h _=>absurd h hvb)]
    exact hvs j v hj)
   (fun j hj=>by rw [hWc,Nat.add_assoc];exact hsp1 _ (by omega)) (fun j hj=>by rw [hWf,hW1,World.frozen?_setCells,Nat.add_assoc];exact hfz _ (by omega)) h1v
 rw [←hW1] at hcp1
 go_enter Tryz.func225,Tryz.ntmps225
 go_wp2_with (simp only [hov])
 go_region_law_o (refine Zbb rfl _ _ 115 115 rfl _ _ (by simp [Act.eval,Act.put]) (by simp [Act.eval,Act.put]) (hcp1 _ _ _) ?_)
 go_wp2_with (at_builtin;refine Z6u _ rfl _ _ 115 49 rfl _ _ rfl rfl (hcp2 _ (fun _=>rfl) (fun _=>rfl) _ _) ?_)
 go_ret
 first|exact ⟨rfl,rfl⟩|exact ⟨rfl,by rw [hW1]⟩
set_option maxHeartbeats 4000000 in
set_option maxRecDepth 100000 in
theorem Zn7 (b off n c vb voff m vc:Nat) (vs:List Value) (w:World) (hm:0<m) (hroom:n+m≤c) (hc63:n+m≤9223372036854775807)
  (hvl:vs.length=m) (hsp:∀j,j<m→(w.cell? ⟨b,off+n+j,none⟩).isSome=true) (hfz:∀j,j<m→w.frozen? ⟨b,off+n+j,none⟩=false)
  (hvs:∀j v,vs[j]? = some v→w.cell? ⟨vb,voff+j,none⟩=some v) (h1v:∀v∈vs,v.oneCell'=true) :
  Calls Tryz.prog 225 #[.slice (some ⟨b,off,none⟩) n c,.int .i64 n,.slice (some ⟨vb,voff,none⟩) m vc] w fun e w'=>
   e=.returned (.slice (some ⟨b,off,none⟩) (n+m) c)∧w'=w.setCells b (off+n) vs:=by
 have mixed:Tryz.prog.follows .mixedOrders=true:=by kernel_rfl
 have hz1:¬((m:Int)=0):=by omega
 have hsrc:Src Tryz.prog 1 49 (.slice (some ⟨vb,voff,none⟩) m vc) m vs w:=Src.ofSlice w Tryz.underlying49 ⟨vb,voff,none⟩ m vc vs (by omega) (fun j u hj=>by rw [Addr.add_lit];exact hvs j u hj) h1v
 go_enter Tryz.func225,Tryz.ntmps225
 go_wp2_with (at_builtin;refine wpList_append_room1 _ rfl _ _ 115 49 rfl 3 _ _ Tryz.underlying115 i3 b off n c rfl _ rfl m vs hsrc hroom (by rw [hvl];exact hsp) (by rw [hvl];exact hfz) ?_)
 go_ret
 exact ⟨rfl,rfl⟩
set_option maxHeartbeats 4000000 in
set_option maxRecDepth 100000 in
theorem Zf0 (base:Option Addr) (n c vb voff m vc:Nat) (cs vs:List Value) (w:World) (hm:0<m) (hnc:n≤c) (hroom:c<n+m) (hbig:(n+m)*8≤140737488355328)
  (hcl:cs.length=n) (hvl:vs.length=m) (hnil:base=none→n=0)
  (hcs:∀a,base=some a→∀j v,cs[j]? = some v→w.cell? (a.add j)=some v)
  (hvs:∀j v,vs[j]? = some v→w.cell? ⟨vb,voff+j,none⟩=some v) (h1v:∀v∈vs,v.oneCell'=true) :
  Calls Tryz.prog 225 #[.slice base n c,.int .i64 n,.slice (some ⟨vb,voff,none⟩) m vc] w fun e w'=>
   e=.returned (.slice (some ⟨w.heap.size,0,none⟩) (n+m) (grownCap w (n+m) c 3)) ∧
   w'=w.drew.alloc (.cells ((cs++vs).toArray++Builtin.zeroCells (Value.int .i64 0).cells (grownCap w (n+m) c 3-(n+m))) 3):=by
 obtain ⟨i0,hi0,hz0,hzs,hzb⟩:=info_parts i3
 have mixed:Tryz.prog.follows .mixedOrders=true:=by kernel_rfl
 have hz1:¬((m:Int)=0):=by omega
 have hsrc:Src Tryz.prog i0.size 49 (.slice (some ⟨vb,voff,none⟩) m vc) m vs w:=by
  rw [hzs]
  exact Src.ofSlice w Tryz.underlying49 ⟨vb,voff,none⟩ m vc vs (by omega) (fun j u hj=>by rw [Addr.add_lit];exact hvs j u hj) h1v
 have hold:(Builtin.firstCells i0.size n (.slice base n c)).run Tryz.prog w.drew=.ok cs.toArray w.drew:=by
  rw [hzs]
  cases base with
  | none=>
   have h0:=hnil rfl
   subst h0
   rw [List.length_eq_zero_iff.1 hcl]
   exact run_firstCells_none w.drew 1 0 0 c
  | some a=>exact run_firstCells_some w.drew 1 n a n c cs (by omega) (fun j v hj=>hcs a rfl j v hj)
 have hrun:∀ty,(Builtin.append_ #[115,49] ty #[.slice base n c,.slice (some ⟨vb,voff,none⟩) m vc]).run Tryz.prog w=_:=fun ty=>
  run_append_grow_src w 115 49 ty 3 i0 _ Tryz.underlying115 hi0 hz0 base n c cs hold _ m vs hsrc hroom (by omega) (by rw [hzb];exact growslice_fits hroom hbig)
 go_enter Tryz.func225,Tryz.ntmps225
 cases base with
 | none=>
  have h0:=hnil rfl
  subst h0
  go_wp2_with (at_builtin;refine Lib.wpList_append_run _ rfl _ _ _ _ rfl _ _ rfl rfl _ _ (hrun _) ?_)
  go_ret
  exact ⟨rfl,rfl⟩
 | some a=>
  obtain ⟨ab,ao,asp⟩:=a
  go_wp2_with (at_builtin;refine Lib.wpList_append_run _ rfl _ _ _ _ rfl _ _ rfl rfl _ _ (hrun _) ?_)
  all_goals (go_ret;exact ⟨rfl,rfl⟩)
set_option maxHeartbeats 4000000 in
set_option maxRecDepth 100000 in
theorem Z00c (b off n c i vb voff m vc:Nat) (cs vs:List Value) (w:World) (hi:i<n) (hm:0<m) (hnc:n≤c) (hroom:c<n+m) (hbig:(n+m)*8≤140737488355328)
  (hcl:cs.length=n) (hvl:vs.length=m)
  (hcs:∀j v,cs[j]? = some v→w.cell? ⟨b,off+j,none⟩=some v)
  (hvs:∀j v,vs[j]? = some v→w.cell? ⟨vb,voff+j,none⟩=some v) (h1c:∀v∈cs,v.oneCell'=true) (h1v:∀v∈vs,v.oneCell'=true) :
  Calls Tryz.prog 225 #[.slice (some ⟨b,off,none⟩) n c,.int .i64 i,.slice (some ⟨vb,voff,none⟩) m vc] w fun e w'=>
   e=.returned (.slice (some ⟨w.heap.size,0,none⟩) (n+m) (grownCap w (n+m) c 3)) ∧
   w'=(((w.alloc (.cells ((cs.take i).toArray++Builtin.zeroCells (Value.int .i64 0).cells (n+m-i)++Builtin.zeroCells (Value.int .i64 0).cells (grownCap w (n+m) c 3-(n+m))) 3)).drew.setCells w.heap.size i vs).drew).setCells w.heap.size (i+m) (cs.drop i):=by
 obtain ⟨i0,hi0,hz0,hzs,hzb⟩:=info_parts i3
 have mixed:Tryz.prog.follows .mixedOrders=true:=by kernel_rfl
 have hz1:¬((m:Int)=0):=by omega
 have hz2:¬((i:Int)=(n:Int)):=by omega
 have hz3:(c:Int)<(n:Int)+(m:Int):=by omega
 have hsz:(Tryz.prog.info? 3).map (·.size)=some 1:=by rw [hi0];simp [hzs]
 have hbw:b<w.heap.size:=block_lt_of_cell (hcs 0 _ (List.getElem?_eq_getElem (by omega)))
 have hvw:vb<w.heap.size:=block_lt_of_cell (hvs 0 _ (List.getElem?_eq_getElem (by omega)))
 have hkk:(n:Int)+(m:Int)-(i:Int)=((n+m-i:Nat):Int):=by omega
 have hik:i+(n+m-i)=n+m:=by omega
 have hold:(Builtin.firstCells i0.size i (.slice (some ⟨b,off,none⟩) i c)).run Tryz.prog w.drew=.ok (cs.take i).toArray w.drew:=by
  rw [hzs]
  exact run_firstCells_some w.drew 1 i ⟨b,off,none⟩ i c (cs.take i) (by rw [List.length_take];omega) (fun j v hj=>by
   rw [Addr.add_lit]
   rw [List.getElem?_take] at hj
   split at hj
   ·exact hcs j v hj
   ·cases hj)
 have hrz:∀ty,(Builtin.append_ #[115,3] ty #[.slice (some ⟨b,off,none⟩) i c,.int .i64 ((n:Int)+(m:Int)-(i:Int))]).run Tryz.prog w =
   .ok (.slice (some ⟨w.heap.size,0,none⟩) (n+m) (grownCap w (n+m) c 3)) (w.drew.alloc (.cells ((cs.take i).toArray++Builtin.zeroCells (Value.int .i64 0).cells (n+m-i)++Builtin.zeroCells (Value.int .i64 0).cells (grownCap w (n+m) c 3-(n+m))) 3)):=fun ty=>by
  have h:=Lib.run_append_grow_zeros w 115 3 ty 3 i0 _ .i64 .i64 Tryz.underlying115 Tryz.underlying3 hi0 hz0 (some ⟨b,off,none⟩) i c (cs.take i) hold (n+m-i) (by omega) (by omega) (by omega) (by omega) (by rw [hzb];omega) (by rw [hzb,hik];exact growslice_fits hroom hbig)
  rw [hik] at h
  rw [hkk]
  exact h
 obtain ⟨G,hG⟩:∃G,G=grownCap w (n+m) c 3:=⟨_,rfl⟩
 obtain ⟨ROW,hROW⟩:∃ROW:Array Value,ROW=(cs.take i).toArray++Builtin.zeroCells (Value.int .i64 0).cells (n+m-i)++Builtin.zeroCells (Value.int .i64 0).cells (G-(n+m)):=⟨_,rfl⟩
 rw [←hG] at hrz ⊢
 rw [←hROW] at hrz ⊢
 have hRl:n+m≤ROW.size:=by
  rw [hROW]
  simp [Builtin.zeroCells,Value.cells]
  omega
 obtain ⟨W1,hW1⟩:∃W1,W1=w.drew.alloc (.cells ROW 3):=⟨_,rfl⟩
 rw [←hW1] at hrz
 have hN:∀j,j<n+m→(W1.cell? ⟨w.heap.size,j,none⟩).isSome=true:=fun j hj=>by
  rw [hW1,World.cell?_alloc_at (w:=w.drew) ROW _ w.heap.size j rfl,Array.getElem?_eq_getElem (by omega)];rfl
 have hNf:∀j,W1.frozen? ⟨w.heap.size,j,none⟩=false:=fun j=>by rw [hW1];exact World.frozen?_alloc_at (w:=w.drew) ROW _ w.heap.size j rfl
 have hOb:∀j v,w.cell? ⟨b,j,none⟩=some v→W1.cell? ⟨b,j,none⟩=some v:=fun j v h=>by rw [hW1,World.cell?_alloc_past (w:=w.drew) _ b j hbw];exact h
 have hOv:∀j v,w.cell? ⟨vb,j,none⟩=some v→W1.cell? ⟨vb,j,none⟩=some v:=fun j v h=>by rw [hW1,World.cell?_alloc_past (w:=w.drew) _ vb j hvw];exact h
 have hcpA:∀(W:World),(∀x,W.cell? x=W1.cell? x)→(∀x,W.frozen? x=W1.frozen? x)→∀ty dc,(Builtin.copy_ #[115,49] ty #[.slice (some ⟨w.heap.size,i,none⟩) (n+m-i) dc,.slice (some ⟨vb,voff,none⟩) m vc]).run Tryz.prog W=.ok (goInt vs.length) (W.setCells w.heap.size i vs):=fun W hWc hWf ty dc=>
  run_copy_cells W _ _ ty 3 w.heap.size i (n+m-i) dc ⟨vb,voff,none⟩ m vc vs Tryz.underlying115 hsz (by rw [hvl];simp only [Nat.min_def];split<;>omega)
   (fun j v hj=>by rw [Addr.add_lit,hWc];exact hOv _ v (hvs j v hj))
   (fun j hj=>by rw [hWc];exact hN _ (by omega)) (fun j hj=>by rw [hWf];exact hNf _) h1v
 have hGn:n+m≤G:=by rw [hG];exact grownCap_ge w _ _ _
 have hG63:G≤9223372036854775807:=by
  have:=grownCap_le_maxLen w (n+m) c 3 (by unfold maxLen;omega)
  rw [←hG] at this
  unfold maxLen at this
  omega
 have hGi:¬(G=i):=by omega
 have hGim:¬(G=i+m):=by omega
 have hci:¬(c=i):=by omega
 have hbN:b≠w.heap.size:=by omega
 have hdl:(cs.drop i).length=n-i:=by rw [List.length_drop,hcl]
 have hcpB:∀(W:World),(∀x,W.cell? x=(W1.setCells w.heap.size i vs).cell? x)→(∀x,W.frozen? x=(W1.setCells w.heap.size i vs).frozen? x)→∀ty dc sc,(Builtin.copy_ #[115,115] ty #[.slice (some ⟨w.heap.size,i+m,none⟩) (n+m-(i+m)) dc,.slice (some ⟨b,off+i,none⟩) (n-i) sc]).run Tryz.prog W=.ok (goInt (cs.drop i).length) (W.setCells w.heap.size (i+m) (cs.drop i)):=fun W hWc hWf ty dc sc=>
  run_copy_cells W _ _ ty 3 w.heap.size (i+m) (n+m-(i+m)) dc ⟨b,off+i,none⟩ (n-i) sc (cs.drop i) Tryz.underlying115 hsz (by rw [hdl];simp only [Nat.min_def];split<;>omega)
   (fun j v hj=>by
    rw [Addr.add_lit,hWc,World.cell?_setCells_out _ _ _ _ _ (fun h _=>absurd h hbN),Nat.add_assoc]
    exact hOb _ v (hcs (i+j) v (by rwa [List.getElem?_drop] at hj)))
   (fun j hj=>by rw [hWc];exact Z5l _ _ _ _ (fun t ht=>hN _ (by omega)) _ (hN _ (by omega)))
   (fun j hj=>by rw [hWf,World.frozen?_setCells];exact hNf _) (fun v hv=>h1c v (List.mem_of_mem_drop hv))
 subst hW1
 have hE1:∀x,((w.alloc (.cells ROW 3)).drew).cell? x=(w.drew.alloc (.cells ROW 3)).cell? x:=fun x=>rfl
 have hE2:∀x,((w.alloc (.cells ROW 3)).drew).frozen? x=(w.drew.alloc (.cells ROW 3)).frozen? x:=fun x=>rfl
 have hF1:∀x,(((w.alloc (.cells ROW 3)).drew.setCells w.heap.size i vs).drew).cell? x=((w.drew.alloc (.cells ROW 3)).setCells w.heap.size i vs).cell? x:=fun x=>rfl
 have hF2:∀x,(((w.alloc (.cells ROW 3)).drew.setCells w.heap.size i vs).drew).frozen? x=((w.drew.alloc (.cells ROW 3)).setCells w.heap.size i vs).frozen? x:=fun x=>rfl
 have hw1:IntKind.i64.wrap ((i:Int)+(m:Int))=(i:Int)+(m:Int):=by rw [IntKind.wrap_i64];omega
 have hb1:(0:Int)≤(i:Int)+(m:Int):=by omega
 have hin:i≤n:=by omega
 have htn:((i:Int)+(m:Int)).toNat=i+m:=by omega
 have hb3:(i:Int)≤(n:Int):=by omega
 clear hkk hik hold hROW hG hRl
 go_enter Tryz.func225,Tryz.ntmps225
 go_wp2_with (first
  | (at_builtin;refine Lib.wpList_append_run _ rfl _ _ _ _ rfl _ _ rfl rfl _ _ (hrz _) ?_)
  | (at_builtin;refine Z6u _ rfl _ _ 115 49 rfl _ _ rfl rfl (hcpA _ hE1 hE2 _ _) ?_)
  | (at_builtin;refine Z6u _ rfl _ _ 115 115 rfl _ _ rfl rfl (hcpB _ (fun _=>rfl) (fun _=>rfl) _ _ _) ?_))
 go_region_law_o (refine Zbb rfl _ _ 115 115 rfl (.slice (some ⟨w.heap.size,i+m,none⟩) (n+m-(i+m)) (G-(i+m))) (.slice (some ⟨b,off+i,none⟩) (n-i) (c-i)) (by simp [Act.eval,Act.put]) (by simp [Act.eval,Act.put]) (hcpB _ hF1 hF2 3 (G-(i+m)) (c-i)) ?_)
 go_wp2
 go_ret
 exact ⟨rfl,rfl⟩
end Go.Proofs
end
section
namespace Go.Abs
open Go.Proofs
structure Wrote (b:Nat) (w w':World):Prop where
 os:w'.os=w.os
 tape:w'.tape=w.tape
 output:w'.output=w.output
 size:w'.heap.size=w.heap.size
 other:∀c,c≠b→w'.heap[c]? = w.heap[c]?
 row:∀cs e,w.heap[b]? = some (.cells cs e (0,0))→∃cs',w'.heap[b]? = some (.cells cs' e (0,0))∧cs'.size=cs.size
theorem Wrote.refl (b:Nat) (w:World):Wrote b w w:=⟨rfl,rfl,rfl,rfl,fun _ _=>rfl,fun cs _ h=>⟨cs,h,rfl⟩⟩
theorem Wrote.drew {b:Nat} {w w':World} (h:Wrote b w w'):Wrote b w w'.drew:=⟨h.os,h.tape,h.output,h.size,h.other,h.row⟩
theorem Wrote.cell {b:Nat} {w w':World} (h:Wrote b w w') (j:Nat) (v:Value):Wrote b w (w'.setCell ⟨b,j,none⟩ v):=
 ⟨h.os,h.tape,h.output,by simp [World.setCell];exact h.size,fun c hc=>(heap_setCell_other w' ⟨b,j,none⟩ c v hc).trans (h.other c hc),fun cs e hb=>by
  obtain ⟨cs',h1,h2⟩:=h.row cs e hb
  exact ⟨_,heap_setCell_same w' b j cs' e v h1,by simpa using h2⟩⟩
theorem Wrote.cells {b:Nat} {w:World}:∀(vs:List Value) (o:Nat) (w':World),Wrote b w w'→Wrote b w (w'.setCells b o vs)
 | [],_,_,h=>h
 | v::r,o,w',h=>Wrote.cells r (o+1) _ (h.cell o v)
theorem Zlb {w:World} {G:Prot}:∀ys:List Int,RCs w G (Z8 ys) (ys.map (fun z=>Value.int .i64 z))
 | []=>.nil
 | _::r=>.cons .val (Zlb r)
theorem Zwn {w:World} {G:Prot}:∀{ys:List Int} {vs:List Value},RCs w G (Z8 ys) vs→vs=ys.map (fun z=>Value.int .i64 z)
 | [],_,.nil=>rfl
 | _::r,_,.cons h t=>by rw [List.map_cons,←Zwn (ys:=r) t,h.val_inv]
theorem Zoa {cs:Array Value} {ys:List Int} (h:∀(j:Nat) z,ys[j]? = some z→cs[j]? = some (Value.int .i64 z)):cs.toList.take ys.length=ys.map (fun z=>Value.int .i64 z):=by
 apply List.ext_getElem?
 intro j
 rw [List.getElem?_take]
 split
 ·rename_i hj
  have hx:=List.getElem?_eq_getElem hj
  have:=h j _ hx
  rw [Array.getElem?_toList,this,List.getElem?_map,hx]
  rfl
 ·rename_i hj
  simp [List.getElem?_eq_none (Nat.le_of_not_lt hj)]
theorem Zrm {w w':World} {G:Prot} {g len cap len':Nat} {ls:List AV} {ys:List Int} {r:List Res} (hh:HOk w G (.row (.slice (some ⟨g,0,none⟩) len cap) 1 ls::r)) (hw:Wrote g w w') (hlen:ys.length=len') (hle:len'≤cap)
  (hc:∀(j:Nat) z,ys[j]? = some z→w'.cell? ⟨g,j,none⟩=some (Value.int .i64 z)) :
  HOk w' G [.row (.slice (some ⟨g,0,none⟩) len' cap) 1 (Z8 ys)]∧Ext w G (.row (.slice (some ⟨g,0,none⟩) len cap) 1 ls::r) w' G [.row (.slice (some ⟨g,0,none⟩) len' cap) 1 (Z8 ys)]:=by
 have hmem:Res.row (.slice (some ⟨g,0,none⟩) len cap) 1 ls∈Res.row (.slice (some ⟨g,0,none⟩) len cap) 1 ls::r:=List.mem_cons_self ..
 rcases hh.ok _ hmem with ⟨e,_⟩|⟨g',len2,cap2,cur,el,e,h1,h2,h3,h4,h5⟩
 ·cases e
 ·cases e
  obtain ⟨cs',k1,k2⟩:=hw.row cur el h1
  have hcell:∀j,w'.cell? ⟨g,j,none⟩=cs'[j]?:=fun j=>cell_of_row w' g j cs' el (0,0) k1
  refine ⟨⟨fun q hq=>?_,List.pairwise_singleton _ _,fun q hq c j hf hg=>?_,fun c j hg=>?_⟩,
   ⟨hw.os,hw.tape,hw.output,by rw [hw.size];exact Nat.le_refl _,fun _ _ h=>h,fun c _=>?_,fun _ _ _ h=>.inl h,fun c j _ ⟨q,hq,hf⟩=>?_⟩⟩
  ·rw [List.mem_singleton.1 hq]
   refine .inr ⟨g,len',cap,cs',el,rfl,k1,hle,k2.trans h3,by simp [hlen],?_⟩
   rw [Nat.mul_one,←hlen,Zoa fun j z hz=>by rw [←hcell];exact hc j z hz]
   exact Zlb ys
  ·rw [List.mem_singleton.1 hq] at hf
   exact hh.prot _ hmem c j hf hg
  ·rw [hw.size];exact hh.lt c j hg
  ·by_cases hcg:c=g
   ·subst hcg
    exact .inr ⟨cur,cs',el,(0,0),h1,k1,k2,fun o hn=>absurd ⟨_,hmem,rfl⟩ hn⟩
   ·exact .inl (hw.other c hcg)
  ·rw [List.mem_singleton.1 hq] at hf
   exact ⟨_,hmem,hf⟩
theorem Zy1 {w w':World} {G:Prot} {cap len':Nat} {h:List Res} {ys:List Int} {cs':Array Value} {el:TypeId} (hh:HOk w G h) (os:w'.os=w.os) (tape:w'.tape=w.tape) (output:w'.output=w.output)
  (hsz:w'.heap.size=w.heap.size+1) (hoth:∀c,c<w.heap.size→w'.heap[c]? = w.heap[c]?) (hb:w'.heap[w.heap.size]? = some (.cells cs' el (0,0))) (hcap:cs'.size=cap) (hlen:ys.length=len') (hle:len'≤cap)
  (hc:∀(j:Nat) z,ys[j]? = some z→w'.cell? ⟨w.heap.size,j,none⟩=some (Value.int .i64 z)) :
  HOk w' G [.row (.slice (some ⟨w.heap.size,0,none⟩) len' cap) 1 (Z8 ys)]∧Ext w G h w' G [.row (.slice (some ⟨w.heap.size,0,none⟩) len' cap) 1 (Z8 ys)]:=by
 have hcell:∀j,w'.cell? ⟨w.heap.size,j,none⟩=cs'[j]?:=fun j=>cell_of_row w' _ j cs' el (0,0) hb
 refine ⟨⟨fun q hq=>?_,List.pairwise_singleton _ _,fun q hq c j hf hg=>?_,fun c j hg=>?_⟩,
  ⟨os,tape,output,by omega,fun _ _ h=>h,fun c hcl=>.inl (hoth c hcl),fun _ _ _ h=>.inl h,fun c j hcl ⟨q,hq,hf⟩=>?_⟩⟩
 ·rw [List.mem_singleton.1 hq]
  refine .inr ⟨_,len',cap,cs',el,rfl,hb,hle,by rw [hcap,Nat.mul_one],by simp [hlen],?_⟩
  rw [Nat.mul_one,←hlen,Zoa fun j z hz=>by rw [←hcell];exact hc j z hz]
  exact Zlb ys
 ·rw [List.mem_singleton.1 hq] at hf
  have:c=w.heap.size:=hf
  have:=hh.lt c j hg
  omega
 ·have:=hh.lt c j hg;omega
 ·rw [List.mem_singleton.1 hq] at hf
  have:c=w.heap.size:=hf
  omega
def insF (xs:List Int) (p:Nat) (v:Int):List Int:=xs.take p++v::xs.drop p
theorem Zal (xs:List Int) (p:Nat) (v:Int) (hp:p≤xs.length):(insF xs p v).length=xs.length+1:=by simp [insF];omega
theorem Z03m {xs:List Int} {p j:Nat} {v:Int} (h:j<p) (hp:p≤xs.length):(insF xs p v)[j]? = xs[j]?:=by
 rw [insF,List.getElem?_append_left (by simp;omega),List.getElem?_take,if_pos h]
theorem Z03k {xs:List Int} {p:Nat} {v:Int} (hp:p≤xs.length):(insF xs p v)[p]? = some v:=by
 rw [insF,List.getElem?_append_right (by simp;omega),List.length_take,Nat.min_eq_left hp,Nat.sub_self];rfl
theorem Z03l {xs:List Int} {p j:Nat} {v:Int} (hp:p≤xs.length):(insF xs p v)[p+1+j]? = xs[p+j]?:=by
 rw [insF,List.getElem?_append_right (by simp;omega),List.length_take,Nat.min_eq_left hp,show p+1+j-p=j+1 by omega,List.getElem?_cons_succ,List.getElem?_drop]
theorem Ze4 {xs:List Int} {p j:Nat} {v z:Int} (hp:p≤xs.length) (h:(insF xs p v)[j]? = some z):(j<p∧xs[j]? = some z)∨(j=p∧z=v)∨∃i,j=p+1+i∧xs[p+i]? = some z:=by
 rcases Nat.lt_trichotomy j p with hj|hj|hj
 ·rw [Z03m hj hp] at h;exact .inl ⟨hj,h⟩
 ·subst hj;rw [Z03k hp] at h;exact .inr (.inl ⟨rfl,(Option.some.inj h).symm⟩)
 ·obtain ⟨i,rfl⟩:∃i,j=p+1+i:=⟨j-(p+1),by omega⟩
  rw [Z03l hp] at h;exact .inr (.inr ⟨i,rfl,h⟩)
theorem Z01q {xs:List Int} {j:Nat} {u:Value} (h:(xs.map (fun z=>Value.int .i64 z))[j]? = some u):∃z,xs[j]? = some z∧u=.int .i64 z:=by
 rw [List.getElem?_map] at h
 cases hx:xs[j]? with
 | none=>rw [hx] at h;cases h
 | some z=>rw [hx] at h;exact ⟨z,rfl,(Option.some.inj h).symm⟩
theorem Z039:∀xs:List Int,flat (Z8 xs)=Z8 xs
 | []=>rfl
 | x::r=>congrArg (AV.i x::·) (Z039 r)
theorem Zg0 {w w':World} {G:Prot} {h:List Res} {u:Value} {ys:List Int} (h1:HOk w' G [.row u 1 (Z8 ys)]) (h2:Ext w G h w' G [.row u 1 (Z8 ys)]) :
  ∃G',RV w' G' (oInt ys u) u∧HOk w' G' [.tail u 1]∧Ext w G h w' G' [.tail u 1]:=by
 have hf:flat (Z8 ys)=Z8 ys:=Z039 ys
 rw [←hf] at h1 h2
 obtain ⟨G',a,b,c⟩:=Z8q h1 (Z11 ys) om
 exact ⟨G',c,a,h2.trans b⟩
theorem Zs7 (w:World) (o:Obj):(w.drew.alloc o).heap.size=w.heap.size+1:=Array.size_push ..
theorem Zwk {w:World} {G:Prot} {h:List Res} {ys:List Int} {len' K:Nat} (hh:HOk w G h) (cs':Array Value) (hsz:cs'.size=K) (hlen:ys.length=len') (hle:len'≤K)
  (hc:∀(j:Nat) z,ys[j]? = some z→cs'[j]? = some (Value.int .i64 z)) :
  ∃G',RV (w.drew.alloc (.cells cs' 3)) G' (oInt ys (.slice (some ⟨w.heap.size,0,none⟩) len' K)) (.slice (some ⟨w.heap.size,0,none⟩) len' K)∧HOk (w.drew.alloc (.cells cs' 3)) G' [.tail (.slice (some ⟨w.heap.size,0,none⟩) len' K) 1] ∧
   Ext w G h (w.drew.alloc (.cells cs' 3)) G' [.tail (.slice (some ⟨w.heap.size,0,none⟩) len' K) 1]:=by
 have hN:(w.drew.alloc (.cells cs' 3)).heap[w.heap.size]? = some (.cells cs' 3 (0,0)):=Zak w.drew _
 obtain ⟨k1,k2⟩:=Zy1 (w':=w.drew.alloc (.cells cs' 3)) hh rfl rfl rfl (Zs7 w _) (fun c hc=>Z66 w.drew _ hc) hN hsz hlen hle (fun j z hz=>by
  rw [cell_of_row _ _ j _ 3 (0,0) hN];exact hc j z hz)
 exact Zg0 k1 k2
theorem Z05t (g hv:Hd) (xs:List Int) (p:Nat) (v:Int) (hp:p≤xs.length) (hl:xs.length≤1000000000):Z3 Tryz.prog 225 [.h g,.i p,oInt [v] hv.v] [.row g.v 1 (Z8 xs),.tail hv.v 1] (fun r h=>∃u:Value,r=oInt (insF xs p v) u∧h=[.tail u 1]):=by
 intro w G vs ha hh
 obtain ⟨gv,rfl,pv,rfl,sv,rfl,ra⟩:∃gv,gv=g.v∧∃pv,pv=Value.int .i64 p∧∃sv,sv=hv.v∧vs=[gv,pv,sv]∧RV w G (oInt [v] hv.v) sv:=by
  cases ha with
  | cons h1 t=>cases t with
   | cons h2 t=>cases t with
    | cons h3 t=>
     cases t
     exact ⟨_,h1.val_inv,_,h2.val_inv,_,h3.header,rfl,h3⟩
 obtain ⟨rfl,hsl⟩:=ra
 have hpw:=List.pairwise_cons.1 hh.apart
 have hmr:Res.row g.v 1 (Z8 xs)∈[Res.row g.v 1 (Z8 xs),.tail hv.v 1]:=List.mem_cons_self ..
 have hmt:Res.tail hv.v 1∈[Res.row g.v 1 (Z8 xs),.tail hv.v 1]:=List.mem_cons_of_mem _ (List.mem_singleton.2 rfl)
 obtain ⟨hxa,hlx,hcx⟩:=hv
 obtain ⟨vb,vcur,vel,e1,hv1,hv2,hvd⟩:∃vb vcur vel,Hd.v ⟨hxa,hlx,hcx⟩=.slice (some ⟨vb,0,none⟩) 1 hcx∧w.heap[vb]? = some (.cells vcur vel (0,0))∧vcur[0]? = some (Value.int .i64 v)∧∀gb len cap,g.v=.slice (some ⟨gb,0,none⟩) len cap→vb≠gb:=by
  cases hsl with
  | sl hq hc hm=>
   rename_i b o k
   rcases hh.ok _ hmt with e|⟨g2,len,cap,cur,el,e,t1,t2,t3⟩
   ·cases e
   ·cases e
    refine ⟨b,cur,el,rfl,t1,?_,fun gb len cap he hb=>?_⟩
    ·cases hm with
     | cons hlk hm2 _=>cases hm2 with
      | cons hcell _ hrv _=>
       have:=hrv.val_inv
       subst this
       rw [←cell_of_row w b 0 cur el (0,0) t1]
       exact hcell
    ·refine hpw.1 _ (List.mem_singleton.2 rfl) b 1 ?_ ⟨rfl,by simp⟩
     rw [he]
     exact hb
 have hvs:∀(j:Nat) u,[Value.int .i64 v][j]? = some u→w.cell? ⟨vb,0+j,none⟩=some u:=by
  intro j u hj
  cases j with
  | zero=>simp only [List.getElem?_cons_zero] at hj;rw [cell_of_row w vb _ vcur vel (0,0) hv1];exact hv2.trans hj
  | succ j=>simp at hj
 have h1v:∀u∈[Value.int .i64 v],u.oneCell'=true:=fun u hu=>by rw [List.mem_singleton.1 hu];rfl
 have hgc:∀w2 j,grownCap w2 (xs.length+1) j 3≥xs.length+1:=fun w2 j=>grownCap_ge w2 _ _ _
 have hh2:=hh
 rw [e1] at hh2 ⊢
 rcases hh.ok _ hmr with ⟨e,h0⟩|⟨gb,len,cap,cur,el,e,h1,h2,h3,h4,h5⟩
 ·
  have hx0:xs=[]:=by cases xs with|nil=>rfl|cons _ _=>simp [Z8] at h0
  subst hx0
  have hp0:p=0:=by simpa using hp
  subst hp0
  rw [e]
  have hg:∀w2 j,grownCap w2 (0+1) j 3≥0+1:=fun w2 j=>grownCap_ge w2 _ _ _
  refine (Zf0 none 0 0 vb 0 1 hcx [] [.int .i64 v] w om om om om rfl rfl (fun _=>rfl) (fun a ha=>by cases ha) hvs h1v).mono ?_
  rintro e w' ⟨rfl,rfl⟩
  have hg0:=hg w 0
  revert hg0
  generalize grownCap w (0+1) 0 3=K
  intro hg0
  rw [e] at hh2
  obtain ⟨G',r1,r2,r3⟩:=Zwk (ys:=[v]) hh2 (([]++[Value.int .i64 v]).toArray++Builtin.zeroCells (Value.int .i64 0).cells (K-(0+1))) (by simp [Builtin.zeroCells,Value.cells];omega) rfl hg0 (fun j z hz=>by
    cases j with
    | zero=>simp only [List.getElem?_cons_zero] at hz;cases hz;rw [Array.getElem?_append_left (by simp)];rfl
    | succ j=>simp at hz)
  exact ⟨_,_,_,G',rfl,⟨_,rfl,rfl⟩,r1,r2,r3⟩
 ·have hlx2:len=xs.length:=by rw [Z4] at h4;omega
  subst hlx2
  rw [Nat.mul_one] at h3 h5
  have hcur:cur.toList.take xs.length=xs.map (fun z=>Value.int .i64 z):=Zwn h5
  have hcell:∀j z,xs[j]? = some z→w.cell? ⟨gb,j,none⟩=some (Value.int .i64 z):=by
   intro j z hz
   rw [cell_of_row w gb j cur el (0,0) h1]
   have hj:j<xs.length:=(List.getElem?_eq_some_iff.1 hz).1
   have h6:(cur.toList.take xs.length)[j]? = some (Value.int .i64 z):=by rw [hcur,List.getElem?_map,hz];rfl
   rw [List.getElem?_take,if_pos hj,Array.getElem?_toList] at h6
   exact h6
  have hcs:∀(j:Nat) u,(xs.map (fun z=>Value.int .i64 z))[j]? = some u→w.cell? ⟨gb,0+j,none⟩=some u:=by
   intro j u hj
   obtain ⟨z,hz,rfl⟩:=Z01q hj
   rw [Nat.zero_add]
   exact hcell j z hz
  have h1c:∀u∈xs.map (fun z=>Value.int .i64 z),u.oneCell'=true:=fun u hu=>by obtain ⟨z,_,rfl⟩:=List.mem_map.1 hu;rfl
  have hne:=hvd gb xs.length cap e
  have hsome:∀j,j<cap→(w.cell? ⟨gb,j,none⟩).isSome=true:=fun j hj=>by rw [cell_of_row w gb j cur el (0,0) h1,Array.getElem?_eq_getElem om];rfl
  have hfz:∀j,w.frozen? ⟨gb,j,none⟩=false:=fun j=>frozen_of_row w gb j cur el h1
  rw [e] at hh2 ⊢
  by_cases hroom:xs.length+1≤cap
  ·have hc63:xs.length+1≤9223372036854775807:=by omega
   by_cases hpn:p=xs.length
   ·subst hpn
    refine (Zn7 gb 0 xs.length cap vb 0 1 hcx [.int .i64 v] w om hroom hc63 rfl (fun j hj=>hsome _ om) (fun j _=>hfz _) hvs h1v).mono ?_
    rintro e w' ⟨rfl,rfl⟩
    have hin:=World.cell?_setCells_in gb [.int .i64 v] (0+xs.length) w (fun j hj=>hsome _ (by simp at hj;omega))
    obtain ⟨k1,k2⟩:=Zrm (ys:=insF xs xs.length v) hh2 ((Wrote.refl gb w).cells _ _ _) (Zal xs _ v (Nat.le_refl _)) hroom (fun j z hz=>by
     rcases Ze4 (Nat.le_refl _) hz with ⟨h,h'⟩|⟨rfl,rfl⟩|⟨i,rfl,h'⟩
     ·rw [World.cell?_setCells_out gb _ _ _ _ fun _ _=>.inl (by show j<0+xs.length;omega)];exact hcell j z h'
     ·have:=hin 0 (by simp);simpa using this
     ·have:=(List.getElem?_eq_some_iff.1 h').1;omega)
    obtain ⟨G',r1,r2,r3⟩:=Zg0 k1 k2
    exact ⟨_,_,_,G',rfl,⟨_,rfl,rfl⟩,r1,r2,r3⟩
   ·have hpl:p<xs.length:=by omega
    refine (Zwl gb 0 xs.length cap p vb 0 1 hcx (xs.map (fun z=>Value.int .i64 z)) [.int .i64 v] w hpl om hroom hc63 hne (by simp) rfl hcs (fun j hj=>hsome _ om) (fun j _=>hfz _) hvs h1c h1v vel el vcur.size cur.size
     (by simp [World.shape?,hv1]) (by simp [World.shape?,h1]) om (frozen_of_row w vb _ vcur vel hv1) (frozen_of_row w vb _ vcur vel hv1)).mono ?_
    rintro e w' ⟨rfl,rfl⟩
    have hW:=(Wrote.refl gb w).drew.cells ((xs.map (fun z=>Value.int .i64 z)).drop p) (0+(p+1)) _
    have hin1:=World.cell?_setCells_in gb ((xs.map (fun z=>Value.int .i64 z)).drop p) (0+(p+1)) w.drew (fun j hj=>by simp at hj;exact hsome _ om)
    have hs2:∀j,j<cap→((w.drew.setCells gb (0+(p+1)) ((xs.map (fun z=>Value.int .i64 z)).drop p)).cell? ⟨gb,j,none⟩).isSome=true:=fun j hj=>Z5l gb _ _ _ (fun i hi=>by simp at hi;exact hsome _ om) j (hsome j hj)
    have hin2:=World.cell?_setCells_in gb [.int .i64 v] (0+p) _ (fun j hj=>hs2 _ (by simp at hj;omega))
    obtain ⟨k1,k2⟩:=Zrm (ys:=insF xs p v) hh2 (hW.cells [.int .i64 v] (0+p) _) (Zal xs _ v hp) hroom (fun j z hz=>by
     rcases Ze4 hp hz with ⟨h,h'⟩|⟨rfl,rfl⟩|⟨i,rfl,h'⟩
     ·rw [World.cell?_setCells_out gb _ _ _ _ fun _ _=>.inl (by show j<0+p;omega),World.cell?_setCells_out gb _ _ _ _ fun _ _=>.inl (by show j<0+(p+1);omega)];exact hcell j z h'
     ·have:=hin2 0 (by simp);simpa using this
     ·have hi:=(List.getElem?_eq_some_iff.1 h').1
      rw [World.cell?_setCells_out gb _ _ _ _ fun _ _=>.inr (by show 0+p+1≤p+1+i;omega)]
      have h7:=hin1 i (by simp;omega)
      rw [show 0+(p+1)+i=p+1+i by omega] at h7
      rw [h7]
      have h8:((xs.map (fun z=>Value.int .i64 z)).drop p)[i]? = some (Value.int .i64 z):=by rw [List.getElem?_drop,List.getElem?_map,h'];rfl
      rw [←h8]
      exact (List.getElem?_eq_getElem _).symm)
    obtain ⟨G',r1,r2,r3⟩:=Zg0 k1 k2
    exact ⟨_,_,_,G',rfl,⟨_,rfl,rfl⟩,r1,r2,r3⟩
  ·by_cases hpn:p=xs.length
   ·subst hpn
    refine (Zf0 (some ⟨gb,0,none⟩) xs.length cap vb 0 1 hcx (xs.map (fun z=>Value.int .i64 z)) [.int .i64 v] w om h2 om om (by simp) rfl (fun h=>by cases h) (fun a ha j u hj=>by cases ha;rw [Addr.add_lit];exact hcs j u hj) hvs h1v).mono ?_
    rintro e w' ⟨rfl,rfl⟩
    have hg0:=hgc w cap
    revert hg0
    generalize grownCap w (xs.length+1) cap 3=K
    intro hg0
    obtain ⟨G',r1,r2,r3⟩:=Zwk (ys:=insF xs xs.length v) hh2 ((xs.map (fun z=>Value.int .i64 z)++[Value.int .i64 v]).toArray++Builtin.zeroCells (Value.int .i64 0).cells (K-(xs.length+1))) (by simp [Builtin.zeroCells,Value.cells];omega) (Zal xs _ v (Nat.le_refl _)) hg0 (fun j z hz=>by
      rw [Array.getElem?_append_left (by have:=(List.getElem?_eq_some_iff.1 hz).1;rw [Zal xs _ v (Nat.le_refl _)] at this;simp;omega)]
      have h9:insF xs xs.length v=xs++[v]:=by simp [insF]
      rw [h9] at hz
      rw [List.getElem?_toArray,show xs.map (fun z=>Value.int .i64 z)++[Value.int .i64 v]=(xs++[v]).map (fun z=>Value.int .i64 z) by simp,List.getElem?_map,hz]
      rfl)
    exact ⟨_,_,_,G',rfl,⟨_,rfl,rfl⟩,r1,r2,r3⟩
   ·have hpl:p<xs.length:=by omega
    refine (Z00c gb 0 xs.length cap p vb 0 1 hcx (xs.map (fun z=>Value.int .i64 z)) [.int .i64 v] w hpl om h2 om om (by simp) rfl hcs hvs h1c h1v).mono ?_
    rintro e w' ⟨rfl,rfl⟩
    have hg0:=hgc w cap
    revert hg0
    generalize grownCap w (xs.length+1) cap 3=K
    intro hg0
    generalize hA:((xs.map (fun z=>Value.int .i64 z)).take p).toArray++Builtin.zeroCells (Value.int .i64 0).cells (xs.length+1-p)++Builtin.zeroCells (Value.int .i64 0).cells (K-(xs.length+1))=A
    have hAs:A.size=K:=by subst hA;simp [Builtin.zeroCells,Value.cells];omega
    have hAg:∀(j:Nat) z,j<p→xs[j]? = some z→A[j]? = some (Value.int .i64 z):=by
     intro j z hj hz
     subst hA
     rw [Array.getElem?_append_left (by simp [Builtin.zeroCells,Value.cells];omega),Array.getElem?_append_left (by simp;omega),List.getElem?_toArray,List.getElem?_take,if_pos hj,List.getElem?_map,hz]
     rfl
    have hN0:(w.alloc (.cells A 3)).heap[w.heap.size]? = some (.cells A 3 (0,0)):=Zak w _
    have hc0:∀j,(w.alloc (.cells A 3)).cell? ⟨w.heap.size,j,none⟩=A[j]?:=fun j=>cell_of_row _ _ j A 3 (0,0) hN0
    have hsm:∀j,j<K→((w.alloc (.cells A 3)).cell? ⟨w.heap.size,j,none⟩).isSome=true:=fun j hj=>by rw [hc0,Array.getElem?_eq_getElem om];rfl
    have hW:=((Wrote.refl w.heap.size (w.alloc (.cells A 3))).drew.cells [.int .i64 v] p _).drew.cells ((xs.map (fun z=>Value.int .i64 z)).drop p) (p+1) _
    have hin1:=World.cell?_setCells_in w.heap.size [.int .i64 v] p (w.alloc (.cells A 3)).drew (fun j hj=>hsm _ (by simp at hj;omega))
    have hs2:∀j,j<K→(((w.alloc (.cells A 3)).drew.setCells w.heap.size p [.int .i64 v]).drew.cell? ⟨w.heap.size,j,none⟩).isSome=true:=fun j hj=>Z5l w.heap.size _ _ _ (fun i hi=>by simp at hi;exact hsm _ om) j (hsm j hj)
    have hin2:=World.cell?_setCells_in w.heap.size ((xs.map (fun z=>Value.int .i64 z)).drop p) (p+1) _ (fun j hj=>hs2 _ (by simp at hj;omega))
    obtain ⟨cs',q1,q2⟩:=hW.row A 3 hN0
    obtain ⟨k1,k2⟩:=Zy1 (cap:=K) (len':=xs.length+1) (ys:=insF xs p v) hh2 hW.os hW.tape hW.output (hW.size.trans (Array.size_push ..)) (fun c hc=>(hW.other c om).trans (Z66 w _ hc)) q1 (q2.trans hAs) (Zal xs p v hp) hg0 (fun j z hz=>by
     rcases Ze4 hp hz with ⟨h,h'⟩|⟨rfl,rfl⟩|⟨i,rfl,h'⟩
     ·rw [World.cell?_setCells_out w.heap.size _ _ _ _ fun _ _=>.inl (by show j<p+1;omega)]
      show ((w.alloc (.cells A 3)).drew.setCells w.heap.size p [.int .i64 v]).cell? _=_
      rw [World.cell?_setCells_out w.heap.size _ _ _ _ fun _ _=>.inl (by show j<p;omega)]
      exact (hc0 j).trans (hAg j z h h')
     ·rw [World.cell?_setCells_out w.heap.size _ _ _ _ fun _ _=>.inl (by show j<j+1;omega)]
      have:=hin1 0 (by simp)
      simpa using this
     ·have hi:=(List.getElem?_eq_some_iff.1 h').1
      have h7:=hin2 i (by simp;omega)
      rw [h7]
      have h8:((xs.map (fun z=>Value.int .i64 z)).drop p)[i]? = some (Value.int .i64 z):=by rw [List.getElem?_drop,List.getElem?_map,h'];rfl
      rw [←h8]
      exact (List.getElem?_eq_getElem _).symm)
    obtain ⟨G',r1,r2,r3⟩:=Zg0 k1 k2
    exact ⟨_,_,_,G',rfl,⟨_,rfl,rfl⟩,r1,r2,r3⟩
end Go.Abs
end
section
namespace Go.Abs
section
variable {P:Program} {n:Nat} {ops:Array Oper} {B:Fr→List Res→Prop} {k:Nat} {F:Fr} {h:List Res}
def Zqs (P:Program) (ops:Array Oper) (F:Fr) (k:Nat):Option (IntKind × Int):=
 match (opAt ops k).op with
 | .convert s d x=>match P.underlying s,P.underlying d,F.ev x with
  | some (.int _),some (.int q),.val (.int _ z)=>some (q,z)
  | _,_,_=>none
 | _=>none
theorem Z05u (q:IntKind) (z z':Int) (e:q.wrap z=z') (hc:Zqs P ops F k=some (q,z):=by kernel_rfl):StOK P (opAt ops k) F h [] (.val (.int q z')):=by
 unfold Zqs at hc
 generalize hoo:opAt ops k=o at hc
 obtain ⟨dst,op,type,pos,after,guard⟩:=o
 cases op<;>simp only at hc<;>try (cases hc)
 rename_i s d x
 split at hc
 ·rename_i q1 q2 q3 z2 h1 h2 h3
  cases hc
  intro n w G ac hF hh
  have v1:=hF.ev x
  rw [h3] at v1
  have v1:=v1.val_inv
  refine ⟨_,.val,fun w' _ _=>?_⟩
  simp only [execOp,v1]
  refine Z1e ?_
  simp [convert,Zu h1,Zu h2,Conv.intToInt,e]
 ·cases hc
def Z06e (ops:Array Oper) (F:Fr) (k:Nat):Option Int:=
 match (opAt ops k).op with
 | .binOp .shr _ x y _=>match F.ev x,F.ev y with
  | .val (.int .u64 z),.val (.int _ 1)=>some z
  | _,_=>none
 | _=>none
theorem kShr (n:Nat) (hc:Z06e ops F k=some (n:Int):=by kernel_rfl):StOK P (opAt ops k) F h [] (.val (.int .u64 ((n / 2:Nat):Int))):=by
 unfold Z06e at hc
 generalize hoo:opAt ops k=o at hc
 obtain ⟨dst,op,type,pos,after,guard⟩:=o
 cases op<;>simp only at hc<;>try (cases hc)
 rename_i bop t x y yt
 cases bop<;>simp only at hc<;>try (cases hc)
 split at hc
 ·rename_i z yk h1 h2
  cases hc
  intro n' w G ac hF hh
  have v1:=hF.ev x
  have v2:=hF.ev y
  rw [h1] at v1
  rw [h2] at v2
  have v1:=v1.val_inv
  have v2:=v2.val_inv
  refine ⟨_,.val,fun w' _ _=>?_⟩
  simp only [execOp,v1,v2]
  refine Z1e ?_
  have e:(n:Int).fdiv 2=((n / 2:Nat):Int):=by rw [Int.fdiv_eq_ediv_of_nonneg _ om];omega
  simp [eqGuard,binOp,Op.shift,IntKind.bits,e]
 ·cases hc
theorem kToU (n:Nat) (hn:n≤9223372036854775807) (hc:Zqs P ops F k=some (.u64,(n:Int)):=by kernel_rfl):StOK P (opAt ops k) F h [] (.val (.int .u64 (n:Int))):=
 Z05u .u64 _ _ (by simp [IntKind.wrap,IntKind.signed,IntKind.bits];omega) hc
theorem kToI (n:Nat) (hn:n≤9223372036854775807) (hc:Zqs P ops F k=some (.i64,(n:Int)):=by kernel_rfl):StOK P (opAt ops k) F h [] (.i n):=
 Z05u .i64 _ _ (IntWalk.i64_in _ om) hc
end
open Go.Proofs in
theorem Z03n (g:Hd) (u:Value) (xs:List Int) (p:Nat) (v:Int) (hp:p≤xs.length) (hl:xs.length≤1000000000):Z3 Tryz.prog 225 [.h g,.i p,oInt [v] u] [.row g.v 1 (flat (Z8 xs)),.tail u 1] (fun r h=>∃w:Value,r=oInt (insF xs p v) w∧h=[.tail w 1]):=by
 intro w G vs ha hh
 rw [Z039] at hh ⊢
 have hu:∃hv:Hd,u=hv.v:=by
  rcases hh.ok (.tail u 1) (by simp) with rfl|⟨g,len,cap,cur,e,rfl,_⟩
  ·exact ⟨⟨none,0,0⟩,rfl⟩
  ·exact ⟨⟨_,len,cap⟩,rfl⟩
 obtain ⟨hv,rfl⟩:=hu
 exact Z05t g hv xs p v hp hl w G vs ha hh
theorem Z00b {xs:List Int} {p:Nat} {v:Int}:∀x,x∈insF xs p v↔x∈xs∨x=v:=by
 intro x
 have h:=List.take_append_drop p xs
 constructor
 ·intro hx
  rcases List.mem_append.1 hx with hx|hx
  ·exact .inl (List.mem_of_mem_take hx)
  ·rcases List.mem_cons.1 hx with rfl|hx
   ·exact .inr rfl
   ·exact .inl (List.mem_of_mem_drop hx)
 ·rintro (hx|rfl)
  ·rw [←h] at hx
   rcases List.mem_append.1 hx with hx|hx
   ·exact List.mem_append.2 (.inl hx)
   ·exact List.mem_append.2 (.inr (List.mem_cons_of_mem _ hx))
  ·exact List.mem_append.2 (.inr (List.mem_cons_self ..))
end Go.Abs
end
namespace Go.Abs
open Go.Proofs
theorem Zv0 (x:Int) :Z3 Tryz.prog 204 [.i x] [] (fun r h=>r=.b false∧h=[]):=by
 refine enter Tryz.func204 kr (n:=6) kr kr (ar (ir 1 [(0,.i x)] (ie (ar (ir 4 [(2,.b (x != x))] (ie ?_))))))
 exact at_ (r2 [] [.b (x != x)] ⟨rfl,rfl⟩ (lb (by simp)))
theorem Zo3 (x:Int) :Z3 Tryz.prog 174 [.i x] [] (fun r h=>r=.b false∧h=[]):=by
 refine enter Tryz.func174 kr (n:=6) kr kr (ar (ir 1 [(0,.i x)] (ie (ar (ir 4 [(2,.b (x != x))] (ie ?_))))))
 exact at_ (r2 [] [.b (x != x)] ⟨rfl,rfl⟩ (lb (by simp)))
theorem Zzk (x:Int) (y:Int) :Z3 Tryz.prog 173 [.i x,.i y] [] (fun r h=>r=.b (decide (x<y))∧h=[]):=by
 refine enter Tryz.func173 kr (n:=17) kr kr (ar (ir 1 [(0,.i x),(1,.i y)] (ie (ar (irk 1 (.n 5 (.i x) .r) (ic [] (Zv0 x) ?_))))))
 rintro _ _ ⟨rfl,rfl⟩
 refine ir 11 [(4,.b (decide (x<y)))] (ie ?_)
 exact at_ (r1 [] ⟨rfl,rfl⟩)
theorem Zsd (xs:List Int) (v:Int) (hl:xs.length≤1000000000:=by exact ob):Z3 Tryz.prog 135 [nInt xs,.i v] [] (fun r h=>∃(q:Nat) (f:Bool),r=.tup [.i q,.b f]∧h=[]∧(q≤xs.length∧(f=true→v∈xs))):=by
 refine enter Tryz.func135 kr (n:=54) kr kr (ar (ir 2 [(0,nInt xs),(1,.i v)] (ie (ar (irk 1 (.n 10 (nInt xs) .r) (iw (Z4 xs) (irk 1 (.n 6 (.i xs.length) .r) (ie (ar (irk 3 (.n 7 (.i 0) (.n 8 (.i xs.length) .r)) (ie (aq (ab 0 (al (fun m F h=>∃(lo:Nat) (hi:Nat),(lo≤hi)∧(hi≤xs.length)∧F=[(0,nInt xs),(1,.i v),(6,.i xs.length),(7,.i lo),(8,.i hi)]∧h=[]∧m=hi-lo) _ _ _ ⟨0,xs.length,ob,ob,rfl,rfl,rfl⟩ (wk [] (fw (fr (fc (x:=.i 0) li fl)))) ?_))))))))))))))
 rintro m F h ⟨lo,hi,c0_0,c0_1,rfl,rfl,rfl⟩
 refine aq (ar (irk 3 (.n 15 (.b (decide ((lo:Int)<(hi:Int)))) .r) (ie (ac (decide ((lo:Int)<(hi:Int))) dq (fun hc1=>?_) (fun hc1=>?_)))))
 ·refine ak (ab 1 (ar (irk 2 (.n 16 (.i lo) (.n 17 (.i hi) .r)) (ia (((lo+hi:Nat):Int)) (((lo:Int))+((hi:Int))) (is_ (kToU (lo+hi) om) (is_ (kShr (lo+hi)) (is_ (kToI ((lo+hi) / 2) om) (irk 1 (.n 9 (.i (((lo+hi) / 2:Nat):Int)) .r) (ie (ar (irk 2 (.n 22 (nInt xs) (.n 23 (.i (((lo+hi) / 2:Nat):Int)) .r)) ?_)))))))))))
  obtain ⟨x1,hx1⟩:=Z6 (xs:=xs) (j:=(lo+hi) / 2) om
  refine is_ (Z0 (es:=Z8 xs) (hv:=none) (j:=(((lo+hi) / 2:Nat):Int)) (sz:=1) (y:=.i x1) kr om (Z9 hx1) rfl) (irk 2 (.n 25 (.i x1) (.n 26 (.i v) .r)) (ic [] (Zzk x1 v) ?_))
  rintro _ _ ⟨rfl,rfl⟩
  refine ie (ac (decide (x1<v)) dq (fun hc2=>?_) (fun hc2=>?_))
  ·refine az (irk 1 (.n 28 (.i (((lo+hi) / 2:Nat):Int)) .r) (ia ((((lo+hi) / 2+1:Nat):Int)) (((((lo+hi) / 2:Nat):Int))+(1)) (ir 1 [(0,nInt xs),(1,.i v),(6,.i xs.length),(7,.i (((lo+hi) / 2+1:Nat):Int)),(8,.i hi)] (ie ?_))))
   exact ⟨_,_,_,ob,⟨(lo+hi) / 2+1,hi,ob,ob,rfl,rfl,rfl⟩,(wk [] (fw (fr (fc (x:=.i (((lo+hi) / 2+1:Nat):Int)) li fl))))⟩
  refine az (ir 2 [(0,nInt xs),(1,.i v),(6,.i xs.length),(7,.i lo),(8,.i (((lo+hi) / 2:Nat):Int))] (ie ?_))
  exact ⟨_,_,_,ob,⟨lo,(lo+hi) / 2,ob,ob,rfl,rfl,rfl⟩,(wk [] (fq (fc (x:=.i (((lo+hi) / 2:Nat):Int)) li fl)))⟩
 refine ax 0 (ar (irk 5 (.n 31 (.i lo) (.n 35 (.b (decide ((lo:Int)<(xs.length:Int)))) .r)) (ib (b:=(decide ((lo:Int)<(xs.length:Int)))) 35 (fun hb1=>?_) (fun hb1=>?_))))
 ·have hp1:(lo:Int)<(xs.length:Int):=(dq).1 hb1
  refine irk 2 (.n 36 (nInt xs) (.n 37 (.i lo) (.k (.k (.d .r))))) ?_
  obtain ⟨x2,hx2⟩:=Z6 (xs:=xs) (j:=lo) om
  refine is_ (Z0 (es:=Z8 xs) (hv:=none) (j:=(lo:Int)) (sz:=1) (y:=.i x2) kr om (Z9 hx2) rfl) (irk 4 (.n 42 (.b (x2==v)) .r) (ib (b:=(x2==v)) 42 (fun hb2=>?_) (fun hb2=>?_)))
  ·have hp2:x2=v:=(beq_iff_eq).1 hb2
   refine ir 13 [(4,.i lo),(5,.b true)] (ie ?_)
   exact at_ (r2 [] [.i lo,.b true] ⟨lo,true,rfl,rfl,⟨by omega,fun _=>hp2▸List.mem_of_getElem? hx2⟩⟩ (lr _))
  have hp3:¬(x2=v):=Zd beq_iff_eq hb2
  refine irk 2 (.n 43 (nInt xs) (.n 44 (.i lo) (.k (.d .r)))) (is_ (Z0 (es:=Z8 xs) (hv:=none) (j:=(lo:Int)) (sz:=1) (y:=.i x2) kr om (Z9 hx2) rfl) (irk 1 (.n 46 (.i x2) .r) (ic [] (Zo3 x2) ?_)))
  rintro _ _ ⟨rfl,rfl⟩
  refine ir 8 [(4,.i lo),(5,.b false)] (ie ?_)
  exact at_ (r2 [] [.i lo,.b false] ⟨lo,false,rfl,rfl,⟨by omega,fun q=>by cases q⟩⟩ (lr _))
 have hp4:¬((lo:Int)<(xs.length:Int)):=Zd dq hb1
 refine ir 20 [(4,.i lo),(5,.b false)] (ie ?_)
 exact at_ (r2 [] [.i lo,.b false] ⟨lo,false,rfl,rfl,⟨by omega,fun q=>by cases q⟩⟩ (lr _))
theorem Zmc (xs:List Int) (hl_xs:xs.length≤4294967296:=by exact ob):Z3 Tryz.prog 226 [nInt xs] [] (fun r h=>∃(g:Hd),r=.h g∧h=[rK g 1 (flat (Z8 xs))]):=by
 refine enter Tryz.func226 kr (n:=8) kr kr (ar (ir 1 [(0,nInt xs)] (ie (aq (ar (irk 1 (.n 3 (nInt xs) .r) (iN (Z8 xs) (fun hz1=>?_) ?_)))))))
 ·have hz1:=Zgt hz1
  refine ie (ac1 (ar (ir 1 [(2,nl)] (ie (Z2e (Zac (k:=1)) ?_)))))
  subst hz1
  exact at_ (r2 [0] [nl] ⟨hN,rfl,rfl⟩ (AVLe.hd (v:=hN)) (eq:=(rr (ls:=[]) rfl rz)))
 refine ie (ac0 (ak (ar (iKL 1 ?_))))
 intro g1
 refine irk 1 (.n 6 (nInt xs) .r) (iKC 0 g1 1 (Z8 xs) none (Z11 _) (by simp<;>omega) ?_)
 intro v1
 refine ir 1 [(2,.h v1)] (ie ?_)
 exact at_ (r1 [0] ⟨v1,rfl,rfl⟩)
theorem Zq7 (u:Value) (xs:List Int) (v:Int) (hl:xs.length≤1000000000):Z3 Tryz.prog 224 [oInt xs u,.i v] [.tail u 1] (fun r h=>∃(wu:Value) (ys:List Int),r=oInt ys wu∧h=[.tail wu 1]∧(ys.length≤xs.length+1∧∀x,x∈ys↔x∈xs∨x=v)):=by
 refine enter Tryz.func224 kr (n:=21) kr kr (ar (ir 1 [(0,oInt xs u),(1,.i v)] (ie (ar (irk 2 (.n 8 (nInt xs) (.n 9 (.i v) .r)) (ic [] (Zsd xs v) ?_))))))
 rintro _ _ ⟨q1,f1,rfl,rfl,hp1⟩
 have hb:=hp1
 refine irk 5 (.n 5 (.i q1) (.n 6 (.b f1) .r)) (ie (aq (ar (irk 1 (.n 13 (.b f1) .r) (ie (ac f1 Iff.rfl (fun hc1=>?_) (fun hc1=>?_)))))))
 ·refine ar (ir 2 [(4,oInt xs u)] (ie ?_))
  exact at_ (r1 [0] ⟨u,xs,rfl,rfl,⟨by omega,fun x=>⟨.inl,fun q=>q.elim id fun e=>e▸hb.2 hc1⟩⟩⟩)
 refine ak (ar (irk 1 (.n 15 (nInt xs) .r) (ic [] (Zmc xs) ?_)))
 rintro _ _ ⟨g1,rfl,rfl⟩
 refine irk 2 (.n 17 (.i q1) (.n 18 (.i v) .r)) (iL (Z8 [v]) 1 1 ?_)
 intro v1
 refine ic [1,0] (Z03n g1 v1 xs q1 v ob ob) ?_
 rintro _ _ ⟨w1,rfl,rfl⟩
 refine ir 1 [(4,oInt (insF xs q1 v) w1)] (ie ?_)
 exact at_ (r1 [0] ⟨w1,(insF xs q1 v),rfl,rfl,⟨by rw [Zal _ _ _ hb.1];exact Nat.le_refl _,Z00b⟩⟩)
theorem Z8o (n:Normal) (us:List Int) (s:Step) (hn:NOk n:=by exact ob) (ha:∀a∈s.args,0≤a∧a<us.length) (hnum:s.op=9→0≤s.num∧s.num<n.routines.length:=by exact ob) (hal:s.args.length≤1000000000:=by exact ob) (hlt:∀(i:Nat) (a:Int),s.args[i]? = some a→Z2d n s.op s.num i=true→gI us a≠0):Z3 Tryz.prog 219 [.agg [Z2 n.decls,sq1 n],nInt us,Z0g s] [] (fun r h=>∃(vp:Value) (vl:Value) (ls:List Int),r=.tup [oInt (Z1i n us s.op s.num s.args 0) vp,oInt ls vl]∧h=[.tail vp 1,.tail vl 1]∧(ls.length≤s.args.length∧∀x,x∈ls↔∃i,s.args[i]? = some x∧Z2d n s.op s.num i=true)):=by
 have hsl:=Z06d hn s.num
 have hLA:=fun k=>Zwy (n:=n) (op:=s.op) (num:=s.num) (k:=k)
 refine enter Tryz.func219 kr (n:=53) kr kr (ar (iA [Z2 n.decls,sq1 n] ?_))
 intro b1
 refine iA (Z02 s) ?_
 intro b2
 refine ir 2 [(1,nInt us),(3,.p b1 0),(5,.p b2 0),(6,nl),(7,nl)] (ie (aq (ar (irK 2 (.n 11 (.i s.op) .r) [0] [b2] (ic [] (Z7k s.op) ?_)))))
 rintro _ _ ⟨rfl,rfl⟩
 refine irk 1 (.n 13 (.b (!Z2i s.op)) .r) (ie (ac (!Z2i s.op) (p:=¬(Z2i s.op=true)) (Zc Iff.rfl) (fun hc1=>?_) (fun hc1=>?_)))
 ·refine ar (ir 2 [(6,nl),(7,nl)] (ie (Z6b 1 (Z6b 1 ?_))))
  exact at_ (r2 [0,0] [nl,nl] ⟨(.slice none 0 0),(.slice none 0 0),[],rfl,rfl,⟨by simp,fun x=>by simp only [List.not_mem_nil,false_iff];rintro ⟨i,_,q⟩;exact Znf hc1 i q⟩⟩ (AVLe.tup (.cons (AVLe.slh _ (by rw [Zbr hc1];rfl)) (.cons (AVLe.slh _ (by first|rfl|(subst_vars;rfl))) .nil))))
 refine ak (aq (ar (irK 2 (.n 15 (nInt s.args) .r) [0] [b2] (iw (Z4 s.args) (irk 1 (.n 17 (.i 0) .r) (ie (ab 0 (Z6b 1 (Z6b 1 (al (fun m F h=>∃(k:Nat) (ps:List Int) (v:Value) (u:Value) (ls:List Int),(k≤s.args.length)∧(ps.length≤k)∧(ps++Z1i n us s.op s.num (s.args.drop k) k=Z1i n us s.op s.num s.args 0)∧(ls.length≤k)∧(Zlw n s.op s.num s.args k ls)∧F=[(1,nInt us),(3,.p b1 0),(5,.p b2 0),(6,oInt ps v),(7,oInt ls u),(15,nInt s.args),(16,.i s.args.length),(17,.i k)]∧h=[.obj b2 (Z02 s),.obj b1 [Z2 n.decls,sq1 n],.tail u 1,.tail v 1]∧m=s.args.length-k) _ _ _ ⟨0,[],(.slice none 0 0),(.slice none 0 0),[],ob,ob,rfl,ob,Zta,rfl,rfl,rfl⟩ (wk [2,2,0,0] (fw (fr (fc (x:=nl) (AVLe.slh _ (by first|rfl|(subst_vars;rfl))) (fc (x:=nl) (AVLe.slh _ (by first|rfl|(subst_vars;rfl))) (fw (fc (x:=.i 0) li fl))))))) ?_))))))))))
 rintro m F h ⟨k,ps,v,u,ls,c0_0,c0_1,c0_2,c0_3,c0_4,rfl,rfl,rfl⟩
 refine ar (irk 1 (.n 18 (.b (decide ((k:Int)<(s.args.length:Int)))) .r) (ie (aq (ac (decide ((k:Int)<(s.args.length:Int))) dq (fun hc2=>?_) (fun hc2=>?_)))))
 ·refine ak (aq (ab 1 (ar (irk 1 (.n 19 (.i k) .r) ?_))))
  obtain ⟨x1,hx1⟩:=Z6 (xs:=s.args) (j:=k) om
  have hxa:=ha x1 (List.mem_of_getElem? hx1)
  refine is_ (Z0 (es:=Z8 s.args) (hv:=none) (j:=(k:Int)) (sz:=1) (y:=.i x1) kr om (Z9 hx1) rfl) (irk 3 (.n 8 (.i k) (.n 9 (.i x1) .r)) (ie (ab 2 (ar (irk 2 (.n 27 (nInt us) (.n 28 (.i x1) .r)) ?_)))))
  obtain ⟨x2,hx2⟩:=Z6 (xs:=us) (j:=x1.toNat) om
  have hgx:=Z5a hx2
  refine is_ (Z0 (es:=Z8 us) (hv:=none) (j:=x1) (sz:=1) (y:=.i x2) kr om (Z9 hx2) rfl) (irk 3 (.n 26 (.b (x2==0)) .r) (ie (Zlx (fun F h=>∃(w:Value) (ps2:List Int) (w3:Value) (ls2:List Int),(ps2.length≤k+1)∧(ps2++Z1i n us s.op s.num (s.args.drop (k+1)) (k+1)=Z1i n us s.op s.num s.args 0)∧(ls2.length≤k+1)∧(Zlw n s.op s.num s.args (k+1) ls2)∧F=[(1,nInt us),(3,.p b1 0),(5,.p b2 0),(6,oInt ps2 w),(7,oInt ls2 w3),(15,nInt s.args),(16,.i s.args.length),(17,.i k)]∧h=[.obj b2 (Z02 s),.obj b1 [Z2 n.decls,sq1 n],.tail w 1,.tail w3 1]) (fun _ _=>rfl) ?_ ?_)))
  ·refine ac (x2==0) beq_iff_eq (fun hc3=>?_) (fun hc3=>?_)
   ·refine ak ?_
    exact ⟨[(1,nInt us),(3,.p b1 0),(5,.p b2 0),(6,oInt ps v),(7,oInt ls u),(15,nInt s.args),(16,.i s.args.length),(17,.i k)],[.obj b2 (Z02 s),.obj b1 [Z2 n.decls,sq1 n],.tail v 1,.tail u 1],⟨v,ps,u,ls,ob,(Znq hx1 (by rw [Zau,hgx,hc3];simp) c0_2),ob,(Zjl c0_4 (fun q=>hlt k x1 hx1 q (by rw [hgx];exact hc3))),rfl,rfl⟩,(wk [0,0,1,0] fl)⟩
   refine ar (Z1n 14 [(1,nInt us),(3,.p b1 0),(5,.p b2 0),(6,oInt ps v),(7,oInt ls u),(8,.i k),(9,.i x1),(15,nInt s.args),(16,.i s.args.length),(17,.i k),(46,.b ((s.op==9)&&(decide ((k:Int)∈((sgI n s.num).lnt)))))] [.obj b2 (Z02 s),.obj b1 [Z2 n.decls,sq1 n],.tail u 1,.tail v 1] ?_ (fun hj1=>?_))
   ·refine ir 1 [(1,nInt us),(3,.p b1 0),(5,.p b2 0),(6,oInt ps v),(7,oInt ls u),(8,.i k),(9,.i x1),(15,nInt s.args),(16,.i s.args.length),(17,.i k),(32,.b ((s.op==9)&&(decide ((k:Int)∈((sgI n s.num).lnt)))))] (ie (ac ((s.op==9)&&(decide ((k:Int)∈((sgI n s.num).lnt)))) (p:=(s.op=9)∧((k:Int)∈((sgI n s.num).lnt))) (Zj beq_iff_eq dq) (fun hc4=>?_) (fun hc4=>?_)))
    ·refine az (irk 2 (.n 47 (oInt ls u) (.n 48 (.i x1) .r)) (ic [2] (Zq7 u ls x1 ob) ?_))
     rintro _ _ ⟨wu1,ys1,rfl,rfl,hp1⟩
     have hy:=hp1
     refine irk 1 (.n 7 (oInt ys1 wu1) (.q 49 (.w (.k (.k (.d .r)))))) (ie ?_)
     exact ⟨[(1,nInt us),(3,.p b1 0),(5,.p b2 0),(6,oInt ps v),(7,oInt ys1 wu1),(15,nInt s.args),(16,.i s.args.length),(17,.i k)],[.obj b2 (Z02 s),.obj b1 [Z2 n.decls,sq1 n],.tail v 1,.tail wu1 1],⟨v,ps,wu1,ys1,ob,(Znq hx1 (by rw [Zau,(hLA k).2 hc4];simp) c0_2),(by have:=hy.1;omega),(Zwz hx1 c0_4 ((hLA k).2 hc4) hy.2),rfl,rfl⟩,(wk [1,1,1,0] fl)⟩
    refine az (irk 2 (.n 22 (oInt ps v) (.n 23 (.i k) .r)) (iL (Z8 [(k:Int)]) 1 1 ?_))
    intro v1
    refine irk 0 (.n 24 (nInt [(k:Int)]) (.p .r)) (ip 4 (Z8 (ps++[(k:Int)])) (Z8 ps) (Z8 [(k:Int)]) v none 1 (Z11 _) (Z11 _) (Z3u _) (by simp<;>omega) (by simp [Z29,Z8]) ?_)
    intro v2
    refine irk 1 (.n 6 (oInt (ps++[(k:Int)]) v2) (.q 25 (.w (.k (.k (.d .r)))))) (ie ?_)
    exact ⟨[(1,nInt us),(3,.p b1 0),(5,.p b2 0),(6,oInt (ps++[(k:Int)]) v2),(7,oInt ls u),(15,nInt s.args),(16,.i s.args.length),(17,.i k)],[.obj b2 (Z02 s),.obj b1 [Z2 n.decls,sq1 n],.tail v2 1,.tail u 1],⟨v2,(ps++[(k:Int)]),u,ls,ob,(Ztk hx1 (by have h1:Z2i s.op=true:=Classical.not_not.1 hc1;have h2:Z2d n s.op s.num k=false:=Bool.eq_false_iff.2 (fun q=>hc4 ((hLA k).1 q));rw [Zau,hgx,h1,h2];simp [hc3]) c0_2),ob,(Zjl c0_4 (fun q=>hc4 ((hLA k).1 q))),rfl,rfl⟩,(wk [2,2,0,1] fl)⟩
   refine iR 4 [(1,nInt us),(3,.p b1 0),(5,.p b2 0),(6,oInt ps v),(7,oInt ls u),(8,.i k),(9,.i x1),(15,nInt s.args),(16,.i s.args.length),(17,.i k),(36,.b (s.op==9))] [0] [b2] (ib (b:=(s.op==9)) 36 (fun hb1=>?_) (fun hb1=>?_))
   ·have hp2:s.op=9:=(beq_iff_eq).1 hb1
    refine irK 4 (.n 38 (sq1 n) (.n 40 (.i s.num) (.w (.w (.k (.k (.k .z))))))) [1,0] [b1,b2] (is_ (Z0 (es:=Z6l (n.routines.map Z17)) (hv:=none) (j:=s.num) (sz:=3) (y:=aSg3 (sgI n s.num)) kr (by have:=hnum (by assumption);omega) (Z7i (Zye (by have:=hnum (by assumption);rw [List.length_map];omega))) rfl) (irk 3 (.n 43 (nInt ((sgI n s.num).lnt)) (.n 44 (.i k) .r)) (ic [] (Z38 ((sgI n s.num).lnt) (k:Int)) ?_)))
    rintro _ _ ⟨rfl,rfl⟩
    refine irk 1 (.n 46 (.b (decide ((k:Int)∈((sgI n s.num).lnt)))) .r) ?_
    exact Zy (wk [0,0,0,0] (fq (fq (fw (fc (x:=.b (decide ((k:Int)∈((sgI n s.num).lnt)))) (lb (by simp only [hb1];rfl)) fl))))) hj1
   have hp3:¬(s.op=9):=Zd beq_iff_eq hb1
   refine irk 10 (.n 46 (.b false) (.d (.w (.w (.k (.k .z)))))) ?_
   exact Zy (wk [0,0,0,0] (fq (fq (fw (fc (x:=.b false) (lb (by simp only [hb1];rfl)) fl))))) hj1
  rintro F h ⟨w,ps2,w3,ls2,k2_0,k2_1,k2_2,k2_3,rfl,rfl⟩
  refine az (ia (((k+1:Nat):Int)) (((k:Int))+(1)) (ir 1 [(1,nInt us),(3,.p b1 0),(5,.p b2 0),(6,oInt ps2 w),(7,oInt ls2 w3),(15,nInt s.args),(16,.i s.args.length),(17,.i (k+1:Nat))] (ie ?_)))
  exact ⟨_,_,_,ob,⟨k+1,ps2,w,w3,ls2,ob,ob,ob,ob,ob,rfl,rfl,rfl⟩,(wk [0,0,1,0] (fq (fw (fr (fc (x:=.i (k+1:Nat)) li fl)))))⟩
 refine ax 0 (ar (ir 4 [(6,oInt ps v),(7,oInt ls u)] (ie ?_)))
 exact at_ (r2 [3,2] [oInt ps v,oInt ls u] ⟨v,u,_,rfl,rfl,⟨by omega,Zx0 c0_4 om⟩⟩ (AVLe.tup (.cons (AVLe.slh _ (congrArg Z8 (Ztj om c0_2))) (.cons (AVLe.slh _ (congrArg Z8 ob)) .nil))))
theorem Zow (b:Nat) (ga:Hd) (gb:Hd) (gc:Hd) (n:Normal) (L:LedB) (ln:List Int) (am:List Arm) (s:Step) (q:Int) (hn:NOk n:=by exact ob) (hk:LOk n.decls L q:=by exact ob) (har:ArmR n.decls L am:=by exact ob) (hln:ln.length≤4294967296:=by exact ob) (hal:am.length≤1000000000:=by exact ob) (hlb:L.vars.length≤1000000000:=by exact ob) (hf:SFacts n L.vars s:=by exact ob) (hlt:∀(i:Nat) (a:Int),s.args[i]? = some a→Z2d n s.op s.num i=true→gI L.vars a≠0) (hsl:s.args.length≤1000000000:=by exact ob) (hq:0≤q∧q≤999999980:=by exact ob):Z3 Tryz.prog 202 [.p b 0,Z0g s] [.obj b [Z2 n.decls,sq1 n,nInt ln,nArm am,.h ga,.h gb,.h gc],rV ga L.vars,rV gb L.own,rV gc L.tok] (fun r h=>(∃(L':LedB),r=.b true∧h=[.obj b [Z2 n.decls,sq1 n,nInt ln,nArm am,.h ga,.h gb,.h gc],rV ga L'.vars,rV gb L'.own,rV gc L'.tok]∧Z7r n ln L s.op s.num s.into s.args=some L')∨(r=.b false∧h=[]∧Z7r n ln L s.op s.num s.into s.args=none)):=by
 have hlk:=hk.len
 obtain ⟨e1,e2,e3,e4,e5⟩:=hk.len
 have hpl:=Zjs (n:=n) (us:=L.vars) (op:=s.op) (num:=s.num) s.args 0
 refine enter Tryz.func202 kr (n:=74) kr kr (ar (iA (Z02 s) ?_))
 intro b1
 refine ir 1 [(0,.p b 0),(3,.p b1 0)] (ie (aD 15 (dtK (fuel:=6) 15 [0,1,2,3,4,5,6,7,8] (.n 15 (.agg [Z2 n.decls,sq1 n]) (.n 19 (.h ga) (.n 20 (Z0g s) .r))) [1,1,0] [b,b,b1] (do_ 9 (dCL 9 [2] [] [] [rV ga L.vars] (Z8o n L.vars s (ha:=hf.args) (hnum:=hf.num) (hlt:=hlt)) clS (gS (gL (v:=ga) 0 (gS gN))) (Z1h Z2j) ?_)))))
 rintro _ _ ⟨vp1,vl1,ls1,rfl,rfl,hp1⟩
 have hls:=hp1
 refine dtk (fuel:=0) 5 [10,11,12,13,14] (.n 5 (oInt (Z1i n L.vars s.op s.num s.args 0) vp1) (.n 6 (oInt ls1 vl1) .r)) (de (aq (ar (irk 1 (.n 24 (oInt (Z1i n L.vars s.op s.num s.args 0) vp1) .r) (io (.i (((Z1i n L.vars s.op s.num s.args 0).length:Nat):Int)) (.i (((Z8 (Z1i n L.vars s.op s.num s.args 0)).length:Nat):Int)) (li (by rw [Z4])) (irk 1 (.n 26 (.i 0) .r) (ie (ab 0 (al (fun m F h=>∃(k:Nat) (L2:LedB),(k≤(Z1i n L.vars s.op s.num s.args 0).length)∧(LOk n.decls L2 q)∧(L2.vars=L.vars)∧(L2.par=L.par∧L2.con=L.con∧L2.fst=L.fst)∧(Z85 s.args ((Z1i n L.vars s.op s.num s.args 0).drop k) L2=Z85 s.args (Z1i n L.vars s.op s.num s.args 0) L)∧F=[(0,.p b 0),(3,.p b1 0),(6,oInt ls1 vl1),(24,oInt (Z1i n L.vars s.op s.num s.args 0) vp1),(25,.i (((Z1i n L.vars s.op s.num s.args 0).length:Nat):Int)),(26,.i k)]∧h=[rV ga L2.vars,.obj b1 (Z02 s),.obj b [Z2 n.decls,sq1 n,nInt ln,nArm am,.h ga,.h gb,.h gc],rV gb L2.own,rV gc L2.tok,.tail vl1 1,.tail vp1 1]∧m=(Z1i n L.vars s.op s.num s.args 0).length-k) _ _ _ ⟨0,L,ob,hk,rfl,⟨rfl,rfl,rfl⟩,rfl,rfl,rfl,rfl⟩ (wk [2,2,2,2,2,1,0] (fq (fr (fc (x:=.i 0) li fl)))) ?_)))))))))
 rintro m F h ⟨k,L2,c0_0,c0_1,c0_2,c0_3,c0_4,rfl,rfl,rfl⟩
 refine ar (irk 1 (.n 27 (.b (decide ((k:Int)<(((Z1i n L.vars s.op s.num s.args 0).length:Nat):Int)))) .r) (ie (aq (ac (decide ((k:Int)<(((Z1i n L.vars s.op s.num s.args 0).length:Nat):Int))) dq (fun hc1=>?_) (fun hc1=>?_)))))
 ·refine ak (aq (ab 1 (ar ?_)))
  obtain ⟨x1,hx1⟩:=Z6 (xs:=(Z1i n L.vars s.op s.num s.args 0)) (j:=k) om
  have hpm:=Zee (List.mem_of_getElem? hx1)
  refine is_ (Z0 (es:=Z8 (Z1i n L.vars s.op s.num s.args 0)) (hv:=some vp1) (j:=(k:Int)) (sz:=1) (y:=.i x1) kr om (Z9 hx1) rfl) (irk 2 (.n 8 (.i x1) .r) (ie (ar (irK 4 (.n 30 (.p b 0) (.n 32 (nInt s.args) (.n 33 (.i x1) .r))) [1] [b1] ?_))))
  obtain ⟨x2,hx2⟩:=Z6 (xs:=s.args) (j:=x1.toNat) om
  have hgx:=Z5a hx2
  have hxa:=hf.args x2 (List.mem_of_getElem? hx2)
  refine is_ (Z0 (es:=Z8 s.args) (hv:=none) (j:=x1) (sz:=1) (y:=.i x2) kr om (Z9 hx2) rfl) (irk 1 (.n 35 (.i x2) .r) (ic [2,0,1,1] (Zfr b ga gb gc n L2 ln am x2 (hlk:=c0_1.len) (hi:=(by rw [c0_2];exact hxa)) (hq:=(fun y hy=>by have h1:=c0_1.nn y hy;have h2:=c0_1.bd y hy;omega))) ?_))
  rintro _ _ ⟨rfl,rfl⟩
  refine irk 1 (.n 37 (.b (!decide (1≤gI L2.own x2))) .r) (ie (ac (!decide (1≤gI L2.own x2)) (p:=¬(decide (1≤gI L2.own x2)=true)) (Zc Iff.rfl) (fun hc2=>?_) (fun hc2=>?_)))
  ·refine ar (ir 1 [(4,.b false)] (ie ?_))
   exact at_ (r1 [] (.inr ⟨rfl,rfl,(Zw4 (Zu2 hx1 hgx (fun z=>hc2 (decide_eq_true z)) c0_4))⟩))
  have ht:=of_decide_eq_true (Classical.not_not.1 hc2)
  refine ak (az (ia (((k+1:Nat):Int)) (((k:Int))+(1)) (irk 1 (.n 26 (.i (k+1:Nat)) (.p (.d (.p (.d (.p (.d (.d (.d (.d (.p (.d (.w (.k .z)))))))))))))) (ie ?_))))
  exact ⟨_,_,_,ob,⟨k+1,(decL L2 x2),ob,(c0_1.take (by rw [Z5q,if_pos ht])),c0_2,c0_3,(Z01l hx1 hgx ht c0_4),rfl,rfl,rfl⟩,(wk [1,3,0,0,0,0,0] (fq (fr (fc (x:=.i (k+1:Nat)) li fl))))⟩
 have hT:=Zyy om c0_4
 have har2:=har.same (M:=L2) (by rw [c0_2]) c0_3.1 c0_3.2.1 c0_3.2.2
 have hvl:L2.vars.length=L.vars.length:=by rw [c0_2]
 obtain ⟨f1,f2,f3,f4,f5⟩:=c0_1.len
 refine ax 0 (aq (ar (irk 1 (.n 39 (oInt ls1 vl1) .r) (iw (Z4 ls1) (irk 1 (.n 41 (.i 0) .r) (ie (ab 2 (al (fun m F h=>∃(j:Nat),(j≤ls1.length)∧(∀x∈ls1.take j,Z1m L2 ln x=true)∧F=[(0,.p b 0),(3,.p b1 0),(39,oInt ls1 vl1),(40,.i ls1.length),(41,.i j)]∧h=[rV ga L2.vars,.obj b1 (Z02 s),.obj b [Z2 n.decls,sq1 n,nInt ln,nArm am,.h ga,.h gb,.h gc],rV gb L2.own,rV gc L2.tok,.tail vl1 1]∧m=ls1.length-j) _ _ _ ⟨0,ob,(by simp),rfl,rfl,rfl⟩ (wk [0,0,0,0,0,0] (fq (fc (x:=.i 0) li fl))) ?_))))))))
 rintro m F h ⟨j,c1_0,c1_1,rfl,rfl,rfl⟩
 refine ar (irk 1 (.n 42 (.b (decide ((j:Int)<(ls1.length:Int)))) .r) (ie (aq (ac (decide ((j:Int)<(ls1.length:Int))) dq (fun hc3=>?_) (fun hc3=>?_)))))
 ·refine ak (aq (ab 3 (ar ?_)))
  obtain ⟨x3,hx3⟩:=Z6 (xs:=ls1) (j:=j) om
  have hxm:=List.mem_of_getElem? hx3
  obtain ⟨i0,hi0,_⟩:=(hls.2 _).1 hxm
  have hxl:=hf.args _ (List.mem_of_getElem? hi0)
  refine is_ (Z0 (es:=Z8 ls1) (hv:=some vl1) (j:=(j:Int)) (sz:=1) (y:=.i x3) kr om (Z9 hx3) rfl) (irk 2 (.n 10 (.i x3) .r) (ie (ar (irk 2 (.n 45 (.p b 0) (.n 46 (.i x3) .r)) (ic [2,0,1,1] (Zgm b ga gb gc _ L2 ln am x3 c0_1.len har2 ob ob ob c0_1.down (by rw [c0_2];exact hxl)) ?_)))))
  rintro _ _ ⟨rfl,rfl⟩
  refine irk 1 (.n 48 (.b (!Z1m L2 ln x3)) .r) (ie (ac (!Z1m L2 ln x3) (p:=¬(Z1m L2 ln x3=true)) (Zc Iff.rfl) (fun hc4=>?_) (fun hc4=>?_)))
  ·refine ar (ir 1 [(4,.b false)] (ie ?_))
   exact at_ (r1 [] (.inr ⟨rfl,rfl,((Zw3 hT hls.2).2 ⟨x3,hxm,hc4⟩)⟩))
  refine ak (az (ia (((j+1:Nat):Int)) (((j:Int))+(1)) (irk 1 (.n 41 (.i (j+1:Nat)) (.p (.d (.p (.d (.d (.d (.p (.d (.w .z)))))))))) (ie ?_))))
  exact ⟨_,_,_,ob,⟨j+1,ob,(by rw [Z1l hx3];exact fun x hx=>(List.mem_append.1 hx).elim (c1_1 x) (fun hx=>by rw [List.mem_singleton.1 hx];exact Classical.not_not.1 hc4)),rfl,rfl,rfl⟩,(wk [1,3,0,0,0,0] (fq (fc (x:=.i (j+1:Nat)) li fl)))⟩
 have hH:=(Zw3 (into:=s.into) hT hls.2).1 (fun x hx=>c1_1 x (by rw [List.take_of_length_le om];exact hx))
 have hin:=hf.into
 refine ax 2 (aq (ar (irK 3 (.n 52 (.b (s.into != 0)) .r) [1] [b1] (ie (ac (s.into != 0) bne_iff_ne (fun hc5=>?_) (fun hc5=>?_))))))
 ·refine aq (aD 13 (dtK (fuel:=7) 13 [0,1,2,3,4,5] (.n 56 (.h gc) (.n 58 (.i s.into) .r)) [2,1] [b,b1] (da 6 ((s.into-1)) ((s.into)-(1)) (dx 7 (vIdx 4 gc L2.tok (s.into-1) ((s.into-1).toNat) (hq:=rfl)) ?_))))
  obtain ⟨x4,hx4⟩:=Z6 (xs:=L2.tok) (j:=((s.into-1).toNat)) om
  have hgt:=Z5a hx4
  refine dx_ 8 (vGet 4 gc L2.tok ((s.into-1).toNat) x4 hx4) (dtK (fuel:=2) 4 [9,10] (.n 63 (nInt s.args) .r) [1] [b1] (dw 11 (Z4 s.args) (dtk (fuel:=0) 1 [12] (.n 65 (.b (x4 != (s.args.length:Int))) .r) (de (ac (x4 != (s.args.length:Int)) bne_iff_ne (fun hc6=>?_) (fun hc6=>?_))))))
  ·refine ar (ir 1 [(4,.b false)] (ie ?_))
   exact at_ (r1 [] (.inr ⟨rfl,rfl,(by rw [hH,Z4z,if_pos om,hgt,if_pos hc6])⟩))
  refine ak (aE 9 (dT (fuel:=3) 9 [0,1,2,3,4,5] [(69,.h gc),(71,.i s.into)] [2,1] [b,b1] (da 6 ((s.into-1)) ((s.into)-(1)) (dx 7 (vIdx 4 gc L2.tok (s.into-1) ((s.into-1).toNat) (hq:=rfl)) (do_ 8 (dVS 8 4 [] [] gc L2.tok ((s.into-1).toNat) (-1) (de (ar (ir 1 [(4,.b true)] (ie ?_))))))))))
  exact at_ (r1 [3,1,2,0] (.inl ⟨(Led.mk L2.vars L2.own L2.par L2.con L2.fst (L2.tok.set (s.into-1).toNat (-1))),rfl,rfl,(by rw [hH,Z4z,if_pos om,hgt,if_neg hc6])⟩) (eq:=(rc (rv (xs:=L2.vars) ob (rv (xs:=L2.own) ob (rv (xs:=(L2.tok.set ((s.into-1).toNat) (-1))) ob rz))))))
 refine ak (ar (ir 1 [(4,.b true)] (ie ?_)))
 exact at_ (r1 [2,0,1,1] (.inl ⟨L2,rfl,rfl,(by rw [hH,Z4z,if_neg om])⟩))
theorem Zsc (b:Nat) (ga:Hd) (gb:Hd) (gc:Hd) (n:Normal) (L:LedB) (ln:List Int) (am:List Arm) (xs:List Step) (q:Int) (vs:List Int) (hn:NOk n:=by exact ob) (hk:LOk n.decls L q:=by exact ob) (har:ArmR n.decls L am:=by exact ob) (ht:Z10 n xs L.vars=some vs:=by exact ob) (hnn:∀t∈L.vars,0≤t) (hb:L.vars.length+am.length+4*ssz xs≤900000000:=by exact ob) (hq:0≤q∧q+4*ssz xs≤999999980:=by exact ob) (hr:srng xs:=by exact ob) (ih:∀(s2:Step) (c:Nat) (ra:Hd) (rb:Hd) (rc:Hd) (M:LedB) (a2:List Arm) (p:Int),(s2.sz≤ssz xs)→(LOk n.decls M p)→(ArmR n.decls M a2)→(0≤Z7 n M.vars s2)→(∀t∈M.vars,0≤t)→(M.vars.length+a2.length+4*s2.sz≤900000000)→(0≤p∧p+4*s2.sz≤999999980)→(s2.rng)→Z3 Tryz.prog 163 [.p c 0,Z0g s2] [.obj c [Z2 n.decls,sq1 n,nInt ln,nArm a2,.h ra,.h rb,.h rc],rV ra M.vars,rV rb M.own,rV rc M.tok] (fun r h=>(∃(wa:Hd) (wb:Hd) (wc:Hd) (M':LedB),r=.b true∧h=[.obj c [Z2 n.decls,sq1 n,nInt ln,nArm a2,.h wa,.h wb,.h wc],rV wa M'.vars,rV wb M'.own,rV wc M'.tok]∧Z8w n ln M s2=some M')∨(r=.b false∧h=[]∧Z8w n ln M s2=none))):Z3 Tryz.prog 115 [.p b 0,Z0b xs] [.obj b [Z2 n.decls,sq1 n,nInt ln,nArm am,.h ga,.h gb,.h gc],rV ga L.vars,rV gb L.own,rV gc L.tok] (fun r h=>(∃(wa:Hd) (wb:Hd) (wc:Hd) (L':LedB),r=.b true∧h=[.obj b [Z2 n.decls,sq1 n,nInt ln,nArm am,.h wa,.h wb,.h wc],rV wa L'.vars,rV wb L'.own,rV wc L'.tok]∧Z3c n ln L xs=some L')∨(r=.b false∧h=[]∧Z3c n ln L xs=none)):=by
 have hxl:=Zyl xs
 refine enter Tryz.func115 kr (n:=18) kr kr (ar (ir 1 [(0,.p b 0),(1,Z0b xs)] (ie (aq (ar (irk 1 (.n 7 (Z0b xs) .r) (iw (Z0l xs) (irk 1 (.n 9 (.i 0) .r) (ie (ab 0 (al (fun m F h=>∃(k:Nat) (q2:Int) (L2:LedB) (ka:Hd) (kb:Hd) (kc:Hd),(k≤xs.length)∧(LOk n.decls L2 q2)∧(0≤q2∧q2+4*ssz (xs.drop k)≤999999980)∧(L2.vars.length+am.length+4*ssz (xs.drop k)≤900000000)∧(Z10 n (xs.drop k) L2.vars=some vs)∧(Z3c n ln L2 (xs.drop k)=Z3c n ln L xs)∧(ArmR n.decls L2 am)∧(∀t∈L2.vars,0≤t)∧F=[(0,.p b 0),(7,Z0b xs),(8,.i xs.length),(9,.i k)]∧h=[.obj b [Z2 n.decls,sq1 n,nInt ln,nArm am,.h ka,.h kb,.h kc],rV ka L2.vars,rV kb L2.own,rV kc L2.tok]∧m=xs.length-k) _ _ _ ⟨0,q,L,ga,gb,gc,ob,hk,(by rw [List.drop_zero];omega),(by rw [List.drop_zero];omega),ht,rfl,har,hnn,rfl,rfl,rfl⟩ (wk [0,0,0,0] (fw (fr (fc (x:=.i 0) li fl)))) ?_)))))))))))
 rintro m F h ⟨k,q2,L2,ka,kb,kc,c0_0,c0_1,c0_2,c0_3,c0_4,c0_5,c0_6,c0_7,rfl,rfl,rfl⟩
 refine ar (irk 1 (.n 10 (.b (decide ((k:Int)<(xs.length:Int)))) .r) (ie (aq (ac (decide ((k:Int)<(xs.length:Int))) dq (fun hc1=>?_) (fun hc1=>?_)))))
 ·obtain ⟨s1,hs1⟩:=Z6 (xs:=xs) (j:=k) om
  have hdr:=Z5 hs1
  have hz:ssz (xs.drop k)=s1.sz+ssz (xs.drop (k+1)):=by rw [hdr,ssz]
  have hsz:=Zo4 hs1
  have hsr:=Zln hr hs1
  rw [hdr] at c0_4 c0_5
  obtain ⟨g1,g2⟩:=Z8x c0_4
  refine ak (aq (ab 1 (ar (is_ (Z0 (es:=Zo xs) (hv:=none) (j:=(k:Int)) (sz:=5) (y:=Z0g s1) kr om (Z0y hs1) rfl) (irk 1 (.n 12 (Z0g s1) .r) (iA [.i 0,.i 0,.i 0,nl,nl] ?_))))))
  intro b1
  refine iS 0 b1 0 (Z02 s1) [.i 0,.i 0,.i 0,nl,nl] (Z02 s1) (ie (ar (irK 2 (.n 13 (.p b 0) (.n 14 (Z0g s1) .r)) [0] [b1] (ic [1,1,1,1] (ih s1 b ka kb kc L2 am q2 ob c0_1 c0_6 g1 c0_7 om om hsr) ?_))))
  rintro _ _ (⟨wa1,wb1,wc1,M'1,rfl,rfl,hp1⟩|⟨rfl,rfl,hp2⟩)
  ·have hP:=hp1
   have kx:=Zlp hn c0_1 c0_2.1 g1 hP
   refine irk 1 (.n 16 (.b false) .r) (ie (ac0 (ak (az (ia (((k+1:Nat):Int)) (((k:Int))+(1)) (ir 1 [(0,.p b 0),(7,Z0b xs),(8,.i xs.length),(9,.i (k+1:Nat))] (ie ?_)))))))
   exact ⟨_,_,_,ob,⟨k+1,(q2+4*s1.sz),M'1,wa1,wb1,wc1,ob,kx.1,om,(by rw [kx.2];have:=Za7 n L2.vars s1;omega),(by rw [kx.2];exact g2),(by rw [←c0_5,Z3c,hP];rfl),(Zrx hn c0_1 c0_2.1 g1 hP c0_6),(by rw [kx.2];exact Z018 c0_7 g1),rfl,rfl,rfl⟩,(wk [0,0,0,0] (fw (fr (fc (x:=.i (k+1:Nat)) li fl))))⟩
  have hP:=hp2
  refine irk 1 (.n 16 (.b true) .r) (ie (ac1 (ar (ir 1 [(4,.b false)] (ie ?_)))))
  exact at_ (r1 [] (.inr ⟨rfl,rfl,(by rw [←c0_5,Z3c,hP];rfl)⟩))
 refine ax 0 (ar (ir 1 [(4,.b true)] (ie ?_)))
 exact at_ (r1 [0,0,0,0] (.inl ⟨ka,kb,kc,L2,rfl,rfl,(by rw [←c0_5,Zt om];rfl)⟩))
theorem Ziz (am:List Arm) (hl:am.length≤1000000000:=by exact ob):Z3 Tryz.prog 125 [nArm am] [] (fun r h=>∃(v:Value),r=oArm am v∧h=[.tail v 4]):=by
 refine enter Tryz.func125 kr (n:=8) kr kr (ar (ir 1 [(0,nArm am)] (ie (aq (ar (irk 1 (.n 3 (nArm am) .r) (iN (Z14 am) (fun hz1=>?_) ?_)))))))
 ·have hz1:=Zmn hz1
  refine ie (ac1 (ar (ir 1 [(2,nl)] (ie (Z6b 4 ?_)))))
  exact at_ (r2 [0] [nl] ⟨(.slice none 0 0),rfl,rfl⟩ (AVLe.slh _ (by first|rfl|(subst_vars;rfl))))
 refine ie (ac0 (ak (ar (iL (Z14 []) 0 4 ?_))))
 intro v1
 refine irk 1 (.n 6 (nArm am) .r) (ip 0 (Z14 am) (Z14 []) (Z14 am) v1 none 4 (Z46 _) (Z46 _) (Za3 _) (by simp<;>omega) (by simp [Z14]) ?_)
 intro v2
 refine ir 1 [(2,oArm am v2)] (ie ?_)
 exact at_ (r1 [0] ⟨v2,rfl,rfl⟩)
theorem Zm6 (am:List Arm) (a:Arm) (hl:am.length≤900000000:=by exact ob):Z3 Tryz.prog 65 [nArm am,.agg [.i a.mat,.i a.fst,nInt a.fds,.b a.chg]] [] (fun r h=>r=nArm (am++[a])∧h=[]):=by
 refine enter Tryz.func65 kr (n:=10) kr kr (ar (iA [.i a.mat,.i a.fst,nInt a.fds,.b a.chg] ?_))
 intro b1
 refine ir 1 [(0,nArm am),(3,.p b1 0)] (ie (aD 6 (dT (fuel:=4) 6 [0,2] [(5,nArm am),(7,.agg [.i a.mat,.i a.fst,nInt a.fds,.b a.chg])] [0] [b1] (dK (fun F h=>∃(v3:Value),F=[(4,oArm (am++[a]) v3)]∧h=[.obj b1 [.i a.mat,.i a.fst,nInt a.fds,.b a.chg]]) ?_ ?_))))
 ·refine Zvi 1 3 ?_ ?_
  ·refine dc 1 [] [0] [b1] (Ziz am) ?_
   rintro _ _ ⟨v1,rfl,rfl⟩
   refine do_ 3 (dL 3 [] [] (Z14 [a]) 1 4 ?_)
   intro v2
   refine dt (fuel:=2) 2 [] [(6,oArm am v1),(8,nArm [a])] (do_ 4 (dp 4 1 [] [] (Z14 (am++[a])) (Z14 am) (Z14 [a]) v1 none 4 (Z46 _) (Z46 _) (Za3 _) (by simp<;>omega) (by simp [Z6d,Z14]) ?_))
   intro v3
   refine dt (fuel:=0) 1 [5] [(4,oArm (am++[a]) v3)] (de ?_)
   exact ⟨[(4,oArm (am++[a]) v3)],[.obj b1 [.i a.mat,.i a.fst,nInt a.fds,.b a.chg]],⟨v3,rfl,rfl⟩,(wk [2] fl)⟩
  refine dL 3 [] [] (Z14 [a]) 1 4 ?_
  intro v4
  refine do_ 1 (dc 1 [] [] [] (Ziz am) ?_)
  rintro _ _ ⟨v5,rfl,rfl⟩
  refine dt (fuel:=2) 2 [] [(6,oArm am v5),(8,nArm [a])] (do_ 4 (dp 4 0 [] [] (Z14 (am++[a])) (Z14 am) (Z14 [a]) v5 none 4 (Z46 _) (Z46 _) (Za3 _) (by simp<;>omega) (by simp [Z6d,Z14]) ?_))
  intro v6
  refine dt (fuel:=0) 1 [5] [(4,oArm (am++[a]) v6)] (de ?_)
  exact ⟨[(4,oArm (am++[a]) v6)],[.obj b1 [.i a.mat,.i a.fst,nInt a.fds,.b a.chg]],⟨v6,rfl,rfl⟩,(wk [2] fl)⟩
 rintro F h ⟨v3,rfl,rfl⟩
 exact at_ (r2 [] [oArm (am++[a]) v3] ⟨rfl,rfl⟩ (AVLe.forget _ _))
theorem Zsb (b:Nat) (ga:Hd) (gb:Hd) (gc:Hd) (n:Normal) (L:LedB) (ln:List Int) (am:List Arm) (s:Step) (q:Int) (hn:NOk n:=by exact ob) (hty:NTy n:=by exact ob) (hlt:NLt n:=by exact ob) (hk:LOk n.decls L q:=by exact ob) (har:ArmR n.decls L am:=by exact ob) (hln:ln.length≤4294967296:=by exact ob) (hf:SFacts n L.vars s:=by exact ob) (hop:s.op=7∨s.op=8:=by exact ob) (hnn:∀t∈L.vars,0≤t) (hb:L.vars.length+am.length+4*s.sz≤900000000:=by exact ob) (hq:0≤q∧q+4*s.sz≤999999980:=by exact ob) (hr:s.rng:=by exact ob) (ih:∀(ys:List Step) (c:Nat) (ra:Hd) (rb:Hd) (rc:Hd) (M:LedB) (a2:List Arm) (p:Int) (vs:List Int),(ssz ys<s.sz)→(LOk n.decls M p)→(ArmR n.decls M a2)→(Z10 n ys M.vars=some vs)→(∀t∈M.vars,0≤t)→(M.vars.length+a2.length+4*ssz ys≤900000000)→(0≤p∧p+4*ssz ys≤999999980)→(srng ys)→Z3 Tryz.prog 115 [.p c 0,Z0b ys] [.obj c [Z2 n.decls,sq1 n,nInt ln,nArm a2,.h ra,.h rb,.h rc],rV ra M.vars,rV rb M.own,rV rc M.tok] (fun r h=>(∃(wa:Hd) (wb:Hd) (wc:Hd) (M':LedB),r=.b true∧h=[.obj c [Z2 n.decls,sq1 n,nInt ln,nArm a2,.h wa,.h wb,.h wc],rV wa M'.vars,rV wb M'.own,rV wc M'.tok]∧Z3c n ln M ys=some M')∨(r=.b false∧h=[]∧Z3c n ln M ys=none))):Z3 Tryz.prog 200 [.p b 0,Z0g s] [.obj b [Z2 n.decls,sq1 n,nInt ln,nArm am,.h ga,.h gb,.h gc],rV ga L.vars,rV gb L.own,rV gc L.tok] (fun r h=>(∃(wa:Hd) (wb:Hd) (wc:Hd) (L':LedB),r=.b true∧h=[.obj b [Z2 n.decls,sq1 n,nInt ln,nArm am,.h wa,.h wb,.h wc],rV wa L'.vars,rV wb L'.own,rV wc L'.tok]∧Z7f n ln L s=some L')∨(r=.b false∧h=[]∧Z7f n ln L s=none)):=by
 have hlk:=hk.len
 obtain ⟨e1,e2,e3,e4,e5⟩:=hk.len
 have hdk:=hn.decls
 have hkz:=Z5m s
 have haz:=Z86 s
 obtain ⟨hk1,hk2,hk3⟩:=hf.kids hop
 obtain ⟨kd,hkd⟩:=Z6 (xs:=s.kids) (j:=0) om
 obtain ⟨x,hxa⟩:=hf.one om
 have ha:s.args[0]? = some x:=by rw [hxa];rfl
 have hx:=hf.args x (by rw [hxa];simp)
 have hgx:=gI0 ha
 have hal0:=(List.getElem?_eq_some_iff.1 ha).1
 have hr2:=hr
 rw [s.rng_eq] at hr2
 refine enter Tryz.func200 kr (n:=156) kr kr (ar (iA (Z02 s) ?_))
 intro b1
 refine ir 1 [(0,.p b 0),(3,.p b1 0)] (ie (aq (ar (Z24 [(0,.p b 0),(3,.p b1 0),(24,.b ((s.op==8)&&(!Z1m L ln x)))] [.obj b [Z2 n.decls,sq1 n,nInt ln,nArm am,.h ga,.h gb,.h gc],rV ga L.vars,rV gb L.own,rV gc L.tok,.obj b1 (Z02 s)] ?_ ?_))))
 ·refine iR 4 [(0,.p b 0),(3,.p b1 0),(16,.b (s.op==8))] [0] [b1] (ib (b:=(s.op==8)) 16 (fun hb1=>?_) (fun hb1=>?_))
  ·have hp1:s.op=8:=(beq_iff_eq).1 hb1
   refine irK 3 (.n 17 (.p b 0) (.n 19 (nInt s.args) (.k (.k (.k .z))))) [0] [b1] (is_ (Z0 (es:=Z8 s.args) (hv:=none) (j:=0) (sz:=1) (y:=.i x) kr om (Z9 ha) rfl) (irk 1 (.n 21 (.i x) .r) (ic [1,1,1,1] (Zgm b ga gb gc n L ln am x ob ob ob ob ob hk.down ob) ?_)))
   rintro _ _ ⟨rfl,rfl⟩
   refine irk 2 (.n 24 (.b (!Z1m L ln x)) .r) (ie ?_)
   exact wk [0,0,0,0,0] (fw (fc (x:=.b (!Z1m L ln x)) (lb (by simp only [hb1];rfl)) fl))
  have hp2:¬(s.op=8):=Zd beq_iff_eq hb1
  refine irk 8 (.n 24 (.b false) (.d (.k (.k .z)))) (ie ?_)
  exact wk [1,1,1,1,0] (fw (fc (x:=.b false) (lb (by simp only [hb1];rfl)) fl))
 refine ac ((s.op==8)&&(!Z1m L ln x)) (p:=(s.op=8)∧(¬(Z1m L ln x=true))) (Zj beq_iff_eq (Zc Iff.rfl)) (fun hc1=>?_) (fun hc1=>?_)
 ·refine ar (ir 1 [(4,.b false)] (ie ?_))
  exact at_ (r1 [] (.inr ⟨rfl,rfl,(Zp0 hc1.1 (by rw [hgx];exact hc1.2))⟩))
 have hgo:=Zmb (n:=n) (ln:=ln) (L:=L) (s:=s) (by rw [hgx];exact hc1) hkd
 refine ak (ar (iR 2 [(0,.p b 0),(3,.p b1 0),(26,Zv s.kids)] [4] [b1] (iw (Z0f s.kids) (iMN s.kids.length s.kids.length ?_))))
 intro v1
 refine irk 1 (.n 5 (Zii (List.replicate s.kids.length []) v1) .r) (ie (aq (ar (irK 3 (.n 31 (.b (s.op==8)) .r) [5] [b1] (ie (Z6a (fun F h=>F=[(0,.p b 0),(3,.p b1 0),(5,Z2y (Zq n.decls s.op s.num))]∧h=[.obj b [Z2 n.decls,sq1 n,nInt ln,nArm am,.h ga,.h gb,.h gc],rV ga L.vars,rV gb L.own,rV gc L.tok,.obj b1 (Z02 s)]) ?_ ?_))))))
 ·refine ac (s.op==8) beq_iff_eq (fun hc2=>?_) (fun hc2=>?_)
  ·refine aE 8 (dT (fuel:=2) 8 [0,1,2,3,4,5] [(0,.p b 0),(3,.p b1 0),(5,Zii (List.replicate s.kids.length []) v1),(35,.agg [Z2 n.decls,sq1 n]),(37,.i s.num)] [1,5] [b,b1] (do_ 6 (dc 6 [] [] [] (Z2b _ s.num) ?_)))
   rintro _ _ ⟨rfl,rfl⟩
   refine dtk (fuel:=0) 1 [7] (.n 5 (Z2y ((Zb n.decls s.num).map (Z1 n.decls))) (.p (.k (.k .z)))) (de ?_)
   exact ⟨[(0,.p b 0),(3,.p b1 0),(5,Z2y (Zq n.decls s.op s.num))],[.obj b [Z2 n.decls,sq1 n,nInt ln,nArm am,.h ga,.h gb,.h gc],rV ga L.vars,rV gb L.own,rV gc L.tok,.obj b1 (Z02 s)],⟨rfl,rfl⟩,(wk [1,1,1,1,1] (fw (fc (x:=Z2y ((Zb n.decls s.num).map (Z1 n.decls))) (AVLe.sl _ (congrArg Z3a (by rw [Zq,if_neg om]))) fl)))⟩
  refine ak ?_
  exact ⟨[(0,.p b 0),(3,.p b1 0),(5,Z2y (Zq n.decls s.op s.num))],[.obj b [Z2 n.decls,sq1 n,nInt ln,nArm am,.h ga,.h gb,.h gc],rV ga L.vars,rV gb L.own,rV gc L.tok,.obj b1 (Z02 s)],⟨rfl,rfl⟩,(wk [1,1,1,1,1] (fw (fc (x:=Zii (List.replicate s.kids.length []) v1) (AVLe.sl _ (congrArg Z3a (by rw [show s.kids.length=2 by rw [hk1,Zq,if_pos om];rfl,Zq,if_pos om];rfl))) fl)))⟩
 rintro F h ⟨rfl,rfl⟩
 refine ar (iR 4 [(0,.p b 0),(3,.p b1 0),(5,Z2y (Zq n.decls s.op s.num)),(42,.h ga)] [0] [b] (is_ (vLen 1 ga L.vars) (irk 1 (.n 6 (.i L.vars.length) .r) (ie (ar (irk 1 (.n 7 (.val (.pointer none)) .r) (ie (aq (ar (irK 2 (.n 45 (Zv s.kids) .r) [4] [b1] (iw (Z0f s.kids) (irk 1 (.n 47 (.i 0) .r) (ie (ab 0 (al (fun m F h=>(∃(k:Nat),(k=0)∧F=[(0,.p b 0),(3,.p b1 0),(5,Z2y (Zq n.decls s.op s.num)),(6,.i L.vars.length),(7,.val (.pointer none)),(45,Zv s.kids),(46,.i s.kids.length),(47,.i k)]∧h=[.obj b [Z2 n.decls,sq1 n,nInt ln,nArm am,.h ga,.h gb,.h gc],rV ga L.vars,rV gb L.own,rV gc L.tok,.obj b1 (Z02 s)]∧m=s.kids.length-k)∨(∃(k:Nat) (c0:Nat) (ua:Hd) (ub:Hd) (uc:Hd) (O:LedB) (aO:List Arm),(1≤k∧k≤s.kids.length)∧(Z39 n ln (kidL n.decls L s.op s.num s.args 0) L.vars.length kd=some (O.take L.vars.length))∧(L.vars.length≤O.own.length∧O.own.length≤1000000000∧L.vars.length≤O.tok.length∧O.tok.length≤1000000000)∧(Ze7 n ln L s.op s.num s.args (O.take L.vars.length) (s.kids.drop k) k=Ze7 n ln L s.op s.num s.args (O.take L.vars.length) (s.kids.drop 1) 1)∧F=[(0,.p b 0),(3,.p b1 0),(5,Z2y (Zq n.decls s.op s.num)),(6,.i L.vars.length),(7,.p c0 0),(45,Zv s.kids),(46,.i s.kids.length),(47,.i k)]∧h=[.obj c0 [Z2 n.decls,sq1 n,nInt ln,nArm aO,.h ua,.h ub,.h uc],rV ua O.vars,rV ub O.own,rV uc O.tok,.obj b [Z2 n.decls,sq1 n,nInt ln,nArm am,.h ga,.h gb,.h gc],rV ga L.vars,rV gb L.own,rV gc L.tok,.obj b1 (Z02 s)]∧m=s.kids.length-k)) _ _ _ (.inl ⟨0,rfl,rfl,rfl,rfl⟩) (wk [0,0,0,0,0] (fq (fw (fr (fc (x:=.i 0) li fl))))) ?_)))))))))))))))
 rintro m F h (⟨k,c0_0,rfl,rfl,rfl⟩|⟨k,c0,ua,ub,uc,O,aO,d0_0,d0_1,d0_2,d0_3,rfl,rfl,rfl⟩)
 ·refine ar (ir 1 [(0,.p b 0),(3,.p b1 0),(5,Z2y (Zq n.decls s.op s.num)),(6,.i L.vars.length),(7,.val (.pointer none)),(45,Zv s.kids),(46,.i s.kids.length),(47,.i k),(48,.b (decide ((k:Int)<(s.kids.length:Int))))] (ie (aq (ac (decide ((k:Int)<(s.kids.length:Int))) dq (fun hc3=>?_) (fun hc3=>?_)))))
  ·obtain ⟨ke,hke⟩:=Z6 (xs:=s.kids) (j:=k) om
   obtain ⟨mk,hmk⟩:=Z6 (xs:=Zq n.decls s.op s.num) (j:=k) om
   have hK:=Ze6 hk hq.1 hf hop hmk
   have hmk3:=Z8h hdk hmk
   have hks:=Z9k hke
   have hbt:=hk3 k ke mk hke hmk
   obtain ⟨vs,rt,hvs,hres,hrt⟩:=Z7e hbt
   have hri:=Z4y hres
   have hsrr:srng ke.steps:=by
    have h:=Zfs hr2.2 hke
    rwa [Block.rng_eq] at h
   have hbz:=ke.sz_eq
   have hak:=Zqf hn har hlk hop (by rw [hgx];exact hx) hmk
   have hsl:=Zdi hvs
   rw [List.length_append] at hsl
   have hkl:=Zm5 (L:=L) (am:=am) (s:=s) (m:=mk)
   refine ak (aq (ab 1 (ar (irk 1 (.n 49 (.i k) .r) (is_ (Z0 (es:=Z19 s.kids) (hv:=none) (j:=(k:Int)) (sz:=2) (y:=Za ke) kr om (Z1q hke) rfl) (irk 1 (.n 51 (Za ke) .r) (iA [nl,.i 0] ?_)))))))
   intro b2
   refine irk 1 (.n 8 (.i k) .r) (iS 0 b2 0 (Z03 ke) [nl,.i 0] (Z03 ke) (ie (ar (irk 1 (.n 52 (.p b 0) .r) (ic [1,1,1,1] (Zm8 b ga gb gc n L ln am) ?_)))))
   rintro _ _ ⟨c1,wa1,wb1,wc1,rfl,rfl⟩
   refine irk 1 (.n 10 (.p c1 0) .r) (ie (aq (ar (irK 3 (.n 56 (.b (s.op==8)) .r) [9] [b1] (ie (Z6a (fun F h=>F=[(0,.p b 0),(3,.p b1 0),(5,Z2y (Zq n.decls s.op s.num)),(6,.i L.vars.length),(7,.val (.pointer none)),(8,.i k),(9,.p b2 0),(10,.p c1 0),(45,Zv s.kids),(46,.i s.kids.length),(47,.i k)]∧h=[.obj c1 [Z2 n.decls,sq1 n,nInt ln,nArm (Z6y L am s mk),.h wa1,.h wb1,.h wc1],rV wa1 L.vars,rV wb1 L.own,rV wc1 L.tok,.obj b [Z2 n.decls,sq1 n,nInt ln,nArm am,.h ga,.h gb,.h gc],rV ga L.vars,rV gb L.own,rV gc L.tok,.obj b2 (Z03 ke),.obj b1 (Z02 s)]) ?_ ?_))))))
   ·refine ac (s.op==8) beq_iff_eq (fun hc4=>?_) (fun hc4=>?_)
    ·refine aE 19 (dT (fuel:=12) 19 [0,1,2,3,4,5,6] [(0,.p b 0),(3,.p b1 0),(5,Z2y (Zq n.decls s.op s.num)),(6,.i L.vars.length),(7,.val (.pointer none)),(8,.i k),(9,.p b2 0),(10,.p c1 0),(45,Zv s.kids),(46,.i s.kids.length),(47,.i k),(57,.p c1 0),(61,nArm am),(63,nInt s.args)] [4,9] [b,b1] (dx 7 (Z0 (es:=Z8 s.args) (hv:=none) (j:=0) (sz:=1) (y:=.i x) kr om (Z9 ha) rfl) (dtk (fuel:=7) 11 [8,9,10,11] (.n 65 (.i x) (.n 66 (.i L.vars.length) (.n 67 (Z2y (Zq n.decls s.op s.num)) (.n 68 (.i k) .r)))) (dx 12 (Z0 (es:=Z3a (Zq n.decls s.op s.num)) (hv:=none) (j:=(k:Int)) (sz:=1) (y:=nInt mk) kr om (Z4o hmk) rfl) (dtk (fuel:=4) 6 [13,14] (.n 71 (.agg [.i x,.i L.vars.length,nInt mk,.b false]) .r) (do_ 15 (dc 15 [] [] [] (Zm6 am (Arm.mk x (L.vars.length:Int) mk false)) ?_)))))))
     rintro _ _ ⟨rfl,rfl⟩
     refine dtk (fuel:=1) 3 [16,17] (.n 74 (.p c1 3) .r) (do_ 18 (dS 18 0 [] [] c1 3 [nArm (am++[(Arm.mk x (L.vars.length:Int) mk false)])] [Z2 n.decls,sq1 n,nInt ln,nArm am,.h wa1,.h wb1,.h wc1] [Z2 n.decls,sq1 n,nInt ln,nArm (am++[(Arm.mk x (L.vars.length:Int) mk false)]),.h wa1,.h wb1,.h wc1] (de ?_)))
     exact ⟨[(0,.p b 0),(3,.p b1 0),(5,Z2y (Zq n.decls s.op s.num)),(6,.i L.vars.length),(7,.val (.pointer none)),(8,.i k),(9,.p b2 0),(10,.p c1 0),(45,Zv s.kids),(46,.i s.kids.length),(47,.i k)],[.obj c1 [Z2 n.decls,sq1 n,nInt ln,nArm (Z6y L am s mk),.h wa1,.h wb1,.h wc1],rV wa1 L.vars,rV wb1 L.own,rV wc1 L.tok,.obj b [Z2 n.decls,sq1 n,nInt ln,nArm am,.h ga,.h gb,.h gc],rV ga L.vars,rV gb L.own,rV gc L.tok,.obj b2 (Z03 ke),.obj b1 (Z02 s)],⟨rfl,rfl⟩,(wk [0,0,0,0,0,0,0,0,0,0] fl (e:=(ro (ls:=[Z2 n.decls,sq1 n,nInt ln,nArm (am++[(Arm.mk x (L.vars.length:Int) mk false)]),.h wa1,.h wb1,.h wc1]) (by rw [Z6y,if_pos ‹s.op=8›,hgx]) (rc (rc (rc (rc (rc (rc (rc (rc (rc rz))))))))))))⟩
    refine ak ?_
    exact ⟨[(0,.p b 0),(3,.p b1 0),(5,Z2y (Zq n.decls s.op s.num)),(6,.i L.vars.length),(7,.val (.pointer none)),(8,.i k),(9,.p b2 0),(10,.p c1 0),(45,Zv s.kids),(46,.i s.kids.length),(47,.i k)],[.obj c1 [Z2 n.decls,sq1 n,nInt ln,nArm (Z6y L am s mk),.h wa1,.h wb1,.h wc1],rV wa1 L.vars,rV wb1 L.own,rV wc1 L.tok,.obj b [Z2 n.decls,sq1 n,nInt ln,nArm am,.h ga,.h gb,.h gc],rV ga L.vars,rV gb L.own,rV gc L.tok,.obj b2 (Z03 ke),.obj b1 (Z02 s)],⟨rfl,rfl⟩,(wk [0,0,0,0,0,0,0,0,0,0] fl (e:=(ro (ls:=[Z2 n.decls,sq1 n,nInt ln,nArm am,.h wa1,.h wb1,.h wc1]) (by rw [Z6y,if_neg ‹¬s.op=8›]) (rc (rc (rc (rc (rc (rc (rc (rc (rc rz))))))))))))⟩
   rintro F h ⟨rfl,rfl⟩
   refine aq (ar (ir 2 [(0,.p b 0),(3,.p b1 0),(5,Z2y (Zq n.decls s.op s.num)),(6,.i L.vars.length),(7,.val (.pointer none)),(9,.p b2 0),(10,.p c1 0),(45,Zv s.kids),(46,.i s.kids.length),(47,.i k),(75,Z2y (Zq n.decls s.op s.num)),(76,.i k)] (is_ (Z0 (es:=Z3a (Zq n.decls s.op s.num)) (hv:=none) (j:=(k:Int)) (sz:=1) (y:=nInt mk) kr om (Z4o hmk) rfl) (irk 1 (.n 78 (nInt mk) .r) (iw (Z4 mk) (irk 1 (.n 80 (.i 0) .r) (ie (ab 2 (al (fun m F h=>∃(j:Nat) (L3:LedB) (ka:Hd) (kb:Hd) (kc:Hd),(j≤mk.length)∧(LLen L3)∧(L3.vars.length=L.vars.length+j)∧(Z6m L3 (gI s.args 0) (mk.drop j)=kidL n.decls L s.op s.num s.args k)∧F=[(0,.p b 0),(3,.p b1 0),(5,Z2y (Zq n.decls s.op s.num)),(6,.i L.vars.length),(7,.val (.pointer none)),(9,.p b2 0),(10,.p c1 0),(45,Zv s.kids),(46,.i s.kids.length),(47,.i k),(78,nInt mk),(79,.i mk.length),(80,.i j)]∧h=[.obj c1 [Z2 n.decls,sq1 n,nInt ln,nArm (Z6y L am s mk),.h ka,.h kb,.h kc],.obj b [Z2 n.decls,sq1 n,nInt ln,nArm am,.h ga,.h gb,.h gc],rV ga L.vars,rV gb L.own,rV gc L.tok,.obj b2 (Z03 ke),.obj b1 (Z02 s),rV ka L3.vars,rV kb L3.own,rV kc L3.tok]∧m=mk.length-j) _ _ _ ⟨0,(Z9r n L s k),wa1,wb1,wc1,ob,(Zk2 hlk),(by rw [Z4m];rfl),(by rw [List.drop_zero];exact Zhv hop hmk),rfl,rfl,rfl⟩ (wk [0,3,3,3,3,3,3,0,0,0] (fq (fq (fq (fc (x:=.i 0) li fl)))) (e:=(rc (rc (rc (rc (rc (rc (rc (rv (xs:=L.vars) (by first|rw [Z4m]|rw [Z79]|rw [Z7a]) (rv (xs:=L.own) (by first|rw [Z4m]|rw [Z79]|rw [Z7a]) (rv (xs:=L.tok) (by first|rw [Z4m]|rw [Z79]|rw [Z7a]) rz)))))))))))) ?_)))))))))
   rintro m F h ⟨j,L3,ka,kb,kc,c1_0,c1_1,c1_2,c1_3,rfl,rfl,rfl⟩
   refine ar (irk 1 (.n 81 (.b (decide ((j:Int)<(mk.length:Int)))) .r) (ie (aq (ac (decide ((j:Int)<(mk.length:Int))) dq (fun hc5=>?_) (fun hc5=>?_)))))
   ·obtain ⟨xm,hxm⟩:=Z6 (xs:=mk) (j:=j) om
    refine ak (aq (ab 3 (ar (is_ (Z0 (es:=Z8 mk) (hv:=none) (j:=(j:Int)) (sz:=1) (y:=.i xm) kr om (Z9 hxm) rfl) (irk 2 (.n 12 (.i xm) .r) (ie (az (irk 2 (.n 84 (.p c1 0) (.n 85 (.i xm) .r)) (ic [0,6,6,6] (Zae c1 ka kb kc n L3 ln (Z6y L am s mk) xm 0 (hlk:=c1_1)) ?_)))))))))
    rintro _ _ ⟨wa2,wb2,wc2,rfl⟩
    refine ie (az (ia (((j+1:Nat):Int)) (((j:Int))+(1)) (irk 1 (.n 80 (.i (j+1:Nat)) (.p (.p (.d (.d (.d (.p (.d (.w (.w (.w .z))))))))))) (ie ?_))))
    exact ⟨_,_,_,ob,⟨j+1,(L3.grow xm 0 (gI s.args 0)),wa2,wb2,wc2,ob,(LLen.grow c1_1),(by simp [Led.grow];omega),(by rw [Z5 hxm,Z6m] at c1_3;exact c1_3),rfl,rfl,rfl⟩,(wk [0,3,3,3,3,3,3,0,0,0] (fq (fq (fq (fc (x:=.i (j+1:Nat)) li fl)))) (e:=(rc (rc (rc (rc (rc (rc (rc (rv (xs:=(L3.grow xm 0 (-1)).vars) ob (rv (xs:=(L3.grow xm 0 (-1)).own) ob (rv (xs:=(L3.grow xm 0 (-1)).tok) ob rz))))))))))))⟩
   have hE:L3=kidL n.decls L s.op s.num s.args k:=by rw [←c1_3,Zt om];rfl
   have hL3v:L3.vars=L.vars++mk:=by rw [hE];exact hK.2
   have hL3l:L3.vars.length=L.vars.length+mk.length:=by rw [hL3v,List.length_append]
   refine ax 2 (aq (ar (irK 3 (.n 88 (.p c1 0) (.n 90 (Z0b ke.steps) .r)) [5] [b2] (ic [0,6,6,6] (ih ke.steps c1 ka kb kc L3 (Z6y L am s mk) q vs ob (by rw [hE];exact hK.1) (by rw [hE];exact hak) (by rw [hL3v];exact hvs) (by rw [hL3v];exact Znl hnn (Zul hty hmk)) om om hsrr) ?_))))
   rintro _ _ (⟨wa3,wb3,wc3,M'1,rfl,rfl,hp3⟩|⟨rfl,rfl,hp4⟩)
   ·have hP:=hp3
    have kx:=Zg8 hn (by rw [hE];exact hK.1) hq.1 (by rw [hE];exact hak) (by rw [hL3v];exact hvs) hP
    have kl:=kx.1.len
    have hm1:(endM M'1 ke.result).own.length=vs.length:=by rw [Zfu.1,kl.own,kx.2.1]
    have hm2:(endM M'1 ke.result).tok.length=vs.length:=by rw [Zfu.2.1,kl.tok,kx.2.1]
    refine irK 5 (.n 93 (.b false) (.n 94 (.p c1 0) (.n 95 (Za ke) (.n 96 (.i L.vars.length) .r)))) [8] [b2] (ic [0,0,0,0] (Zox c1 wa3 wb3 wc3 n M'1 ln (Z6y L am s mk) ke L.vars.length (hlk:=kl) (hlb:=(by rw [kx.2.1];omega)) (hm:=(by rw [kx.2.1];omega)) (hr:=(by rw [kx.2.1];omega)) (hq:=(fun y hy=>by have h1:=kx.1.nn y hy;have h2:=kx.1.bd y hy;omega))) ?_)
    rintro _ _ (⟨rfl,rfl,hp5⟩|⟨rfl,rfl,hp6⟩)
    ·have hB:=hp5
     rw [←Zg9 (f:=endL L.vars.length ke.result) hP,hE,←Z4e] at hB
     refine irk 2 (.n 99 (.b false) .r) (ie (ac0 (ak (ab 4 (ar (irk 1 (.n 101 (.val (.pointer none)) .r) (iQ true (irk 1 (.n 100 (.b true) .r) (ie (ac1 (az (irk 2 (.n 7 (.p c1 0) (.k (.q 102 (.k (.k (.q 97 (.w (.q 91 (.w (.k (.k (.k (.d .r))))))))))))) (ie (az (ia (((k+1:Nat):Int)) (((k:Int))+(1)) (irk 1 (.n 47 (.i (k+1:Nat)) (.p (.k (.d (.d (.d (.d (.d (.d (.d (.d (.d (.d (.d (.d (.d (.w (.d (.d (.k (.k .z))))))))))))))))))))) (ie ?_)))))))))))))))))
     exact ⟨_,_,_,ob,(.inr ⟨k+1,c1,wa3,wb3,wc3,(endM M'1 ke.result),(Z6y L am s mk),om,(by subst c0_0;have e:=Option.some.inj (hkd.symm.trans hke);subst e;exact hB),om,(by subst c0_0;rfl),rfl,rfl,rfl⟩),(wk [0,0,0,0,0,0,0,0,1] (fq (fw (fr (fc (x:=.i (k+1:Nat)) li fl)))))⟩
    have hB:=hp6
    rw [←Zg9 (f:=endL L.vars.length ke.result) hP,hE,←Z4e] at hB
    refine irk 2 (.n 99 (.b true) .r) (ie (ac1 (ar (ir 1 [(4,.b false)] (ie ?_)))))
    exact at_ (r1 [] (.inr ⟨rfl,rfl,(by subst c0_0;have e:=Option.some.inj (hkd.symm.trans hke);subst e;rw [hgo,hB];rfl)⟩))
   have hB:Z39 n ln (kidL n.decls L s.op s.num s.args k) L.vars.length ke=none:=by rw [Z4e,←hE,hp4];rfl
   refine irk 8 (.n 99 (.b true) .r) (ie (ac1 (ar (ir 1 [(4,.b false)] (ie ?_)))))
   exact at_ (r1 [] (.inr ⟨rfl,rfl,(by subst c0_0;have e:=Option.some.inj (hkd.symm.trans hke);subst e;rw [hgo,hB];rfl)⟩))
  exact absurd hk2 om
 refine ar (ir 1 [(0,.p b 0),(3,.p b1 0),(5,Z2y (Zq n.decls s.op s.num)),(6,.i L.vars.length),(7,.p c0 0),(45,Zv s.kids),(46,.i s.kids.length),(47,.i k),(48,.b (decide ((k:Int)<(s.kids.length:Int))))] (ie (aq (ac (decide ((k:Int)<(s.kids.length:Int))) dq (fun hc6=>?_) (fun hc6=>?_)))))
 ·obtain ⟨ke,hke⟩:=Z6 (xs:=s.kids) (j:=k) om
  obtain ⟨mk,hmk⟩:=Z6 (xs:=Zq n.decls s.op s.num) (j:=k) om
  have hK:=Ze6 hk hq.1 hf hop hmk
  have hmk3:=Z8h hdk hmk
  have hks:=Z9k hke
  have hbt:=hk3 k ke mk hke hmk
  obtain ⟨vs,rt,hvs,hres,hrt⟩:=Z7e hbt
  have hri:=Z4y hres
  have hsrr:srng ke.steps:=by
   have h:=Zfs hr2.2 hke
   rwa [Block.rng_eq] at h
  have hbz:=ke.sz_eq
  have hak:=Zqf hn har hlk hop (by rw [hgx];exact hx) hmk
  have hsl:=Zdi hvs
  rw [List.length_append] at hsl
  have hkl:=Zm5 (L:=L) (am:=am) (s:=s) (m:=mk)
  refine ak (aq (ab 1 (ar (irk 1 (.n 49 (.i k) .r) (is_ (Z0 (es:=Z19 s.kids) (hv:=none) (j:=(k:Int)) (sz:=2) (y:=Za ke) kr om (Z1q hke) rfl) (irk 1 (.n 51 (Za ke) .r) (iA [nl,.i 0] ?_)))))))
  intro b3
  refine irk 1 (.n 8 (.i k) .r) (iS 0 b3 0 (Z03 ke) [nl,.i 0] (Z03 ke) (ie (ar (irk 1 (.n 52 (.p b 0) .r) (ic [5,5,5,5] (Zm8 b ga gb gc n L ln am) ?_)))))
  rintro _ _ ⟨c2,wa4,wb4,wc4,rfl,rfl⟩
  refine irk 1 (.n 10 (.p c2 0) .r) (ie (aq (ar (irK 3 (.n 56 (.b (s.op==8)) .r) [13] [b1] (ie (Z6a (fun F h=>F=[(0,.p b 0),(3,.p b1 0),(5,Z2y (Zq n.decls s.op s.num)),(6,.i L.vars.length),(7,.p c0 0),(8,.i k),(9,.p b3 0),(10,.p c2 0),(45,Zv s.kids),(46,.i s.kids.length),(47,.i k)]∧h=[.obj c2 [Z2 n.decls,sq1 n,nInt ln,nArm (Z6y L am s mk),.h wa4,.h wb4,.h wc4],rV wa4 L.vars,rV wb4 L.own,rV wc4 L.tok,.obj b [Z2 n.decls,sq1 n,nInt ln,nArm am,.h ga,.h gb,.h gc],rV ga L.vars,rV gb L.own,rV gc L.tok,.obj b3 (Z03 ke),.obj c0 [Z2 n.decls,sq1 n,nInt ln,nArm aO,.h ua,.h ub,.h uc],rV ua O.vars,rV ub O.own,rV uc O.tok,.obj b1 (Z02 s)]) ?_ ?_))))))
  ·refine ac (s.op==8) beq_iff_eq (fun hc7=>?_) (fun hc7=>?_)
   ·refine aE 19 (dT (fuel:=12) 19 [0,1,2,3,4,5,6] [(0,.p b 0),(3,.p b1 0),(5,Z2y (Zq n.decls s.op s.num)),(6,.i L.vars.length),(7,.p c0 0),(8,.i k),(9,.p b3 0),(10,.p c2 0),(45,Zv s.kids),(46,.i s.kids.length),(47,.i k),(57,.p c2 0),(61,nArm am),(63,nInt s.args)] [4,13] [b,b1] (dx 7 (Z0 (es:=Z8 s.args) (hv:=none) (j:=0) (sz:=1) (y:=.i x) kr om (Z9 ha) rfl) (dtk (fuel:=7) 11 [8,9,10,11] (.n 65 (.i x) (.n 66 (.i L.vars.length) (.n 67 (Z2y (Zq n.decls s.op s.num)) (.n 68 (.i k) .r)))) (dx 12 (Z0 (es:=Z3a (Zq n.decls s.op s.num)) (hv:=none) (j:=(k:Int)) (sz:=1) (y:=nInt mk) kr om (Z4o hmk) rfl) (dtk (fuel:=4) 6 [13,14] (.n 71 (.agg [.i x,.i L.vars.length,nInt mk,.b false]) .r) (do_ 15 (dc 15 [] [] [] (Zm6 am (Arm.mk x (L.vars.length:Int) mk false)) ?_)))))))
    rintro _ _ ⟨rfl,rfl⟩
    refine dtk (fuel:=1) 3 [16,17] (.n 74 (.p c2 3) .r) (do_ 18 (dS 18 0 [] [] c2 3 [nArm (am++[(Arm.mk x (L.vars.length:Int) mk false)])] [Z2 n.decls,sq1 n,nInt ln,nArm am,.h wa4,.h wb4,.h wc4] [Z2 n.decls,sq1 n,nInt ln,nArm (am++[(Arm.mk x (L.vars.length:Int) mk false)]),.h wa4,.h wb4,.h wc4] (de ?_)))
    exact ⟨[(0,.p b 0),(3,.p b1 0),(5,Z2y (Zq n.decls s.op s.num)),(6,.i L.vars.length),(7,.p c0 0),(8,.i k),(9,.p b3 0),(10,.p c2 0),(45,Zv s.kids),(46,.i s.kids.length),(47,.i k)],[.obj c2 [Z2 n.decls,sq1 n,nInt ln,nArm (Z6y L am s mk),.h wa4,.h wb4,.h wc4],rV wa4 L.vars,rV wb4 L.own,rV wc4 L.tok,.obj b [Z2 n.decls,sq1 n,nInt ln,nArm am,.h ga,.h gb,.h gc],rV ga L.vars,rV gb L.own,rV gc L.tok,.obj b3 (Z03 ke),.obj c0 [Z2 n.decls,sq1 n,nInt ln,nArm aO,.h ua,.h ub,.h uc],rV ua O.vars,rV ub O.own,rV uc O.tok,.obj b1 (Z02 s)],⟨rfl,rfl⟩,(wk [0,0,0,0,0,0,0,0,0,0,0,0,0,0] fl (e:=(ro (ls:=[Z2 n.decls,sq1 n,nInt ln,nArm (am++[(Arm.mk x (L.vars.length:Int) mk false)]),.h wa4,.h wb4,.h wc4]) (by rw [Z6y,if_pos ‹s.op=8›,hgx]) (rc (rc (rc (rc (rc (rc (rc (rc (rc (rc (rc (rc (rc rz))))))))))))))))⟩
   refine ak ?_
   exact ⟨[(0,.p b 0),(3,.p b1 0),(5,Z2y (Zq n.decls s.op s.num)),(6,.i L.vars.length),(7,.p c0 0),(8,.i k),(9,.p b3 0),(10,.p c2 0),(45,Zv s.kids),(46,.i s.kids.length),(47,.i k)],[.obj c2 [Z2 n.decls,sq1 n,nInt ln,nArm (Z6y L am s mk),.h wa4,.h wb4,.h wc4],rV wa4 L.vars,rV wb4 L.own,rV wc4 L.tok,.obj b [Z2 n.decls,sq1 n,nInt ln,nArm am,.h ga,.h gb,.h gc],rV ga L.vars,rV gb L.own,rV gc L.tok,.obj b3 (Z03 ke),.obj c0 [Z2 n.decls,sq1 n,nInt ln,nArm aO,.h ua,.h ub,.h uc],rV ua O.vars,rV ub O.own,rV uc O.tok,.obj b1 (Z02 s)],⟨rfl,rfl⟩,(wk [0,0,0,0,0,0,0,0,0,0,0,0,0,0] fl (e:=(ro (ls:=[Z2 n.decls,sq1 n,nInt ln,nArm am,.h wa4,.h wb4,.h wc4]) (by rw [Z6y,if_neg ‹¬s.op=8›]) (rc (rc (rc (rc (rc (rc (rc (rc (rc (rc (rc (rc (rc rz))))))))))))))))⟩
  rintro F h ⟨rfl,rfl⟩
  refine aq (ar (ir 2 [(0,.p b 0),(3,.p b1 0),(5,Z2y (Zq n.decls s.op s.num)),(6,.i L.vars.length),(7,.p c0 0),(9,.p b3 0),(10,.p c2 0),(45,Zv s.kids),(46,.i s.kids.length),(47,.i k),(75,Z2y (Zq n.decls s.op s.num)),(76,.i k)] (is_ (Z0 (es:=Z3a (Zq n.decls s.op s.num)) (hv:=none) (j:=(k:Int)) (sz:=1) (y:=nInt mk) kr om (Z4o hmk) rfl) (irk 1 (.n 78 (nInt mk) .r) (iw (Z4 mk) (irk 1 (.n 80 (.i 0) .r) (ie (ab 2 (al (fun m F h=>∃(j:Nat) (L3:LedB) (ka:Hd) (kb:Hd) (kc:Hd),(j≤mk.length)∧(LLen L3)∧(L3.vars.length=L.vars.length+j)∧(Z6m L3 (gI s.args 0) (mk.drop j)=kidL n.decls L s.op s.num s.args k)∧F=[(0,.p b 0),(3,.p b1 0),(5,Z2y (Zq n.decls s.op s.num)),(6,.i L.vars.length),(7,.p c0 0),(9,.p b3 0),(10,.p c2 0),(45,Zv s.kids),(46,.i s.kids.length),(47,.i k),(78,nInt mk),(79,.i mk.length),(80,.i j)]∧h=[.obj c2 [Z2 n.decls,sq1 n,nInt ln,nArm (Z6y L am s mk),.h ka,.h kb,.h kc],.obj b [Z2 n.decls,sq1 n,nInt ln,nArm am,.h ga,.h gb,.h gc],rV ga L.vars,rV gb L.own,rV gc L.tok,.obj b3 (Z03 ke),.obj c0 [Z2 n.decls,sq1 n,nInt ln,nArm aO,.h ua,.h ub,.h uc],rV ua O.vars,rV ub O.own,rV uc O.tok,.obj b1 (Z02 s),rV ka L3.vars,rV kb L3.own,rV kc L3.tok]∧m=mk.length-j) _ _ _ ⟨0,(Z9r n L s k),wa4,wb4,wc4,ob,(Zk2 hlk),(by rw [Z4m];rfl),(by rw [List.drop_zero];exact Zhv hop hmk),rfl,rfl,rfl⟩ (wk [0,3,3,3,3,3,3,3,3,3,3,0,0,0] (fq (fq (fq (fc (x:=.i 0) li fl)))) (e:=(rc (rc (rc (rc (rc (rc (rc (rc (rc (rc (rc (rv (xs:=L.vars) (by first|rw [Z4m]|rw [Z79]|rw [Z7a]) (rv (xs:=L.own) (by first|rw [Z4m]|rw [Z79]|rw [Z7a]) (rv (xs:=L.tok) (by first|rw [Z4m]|rw [Z79]|rw [Z7a]) rz)))))))))))))))) ?_)))))))))
  rintro m F h ⟨j,L3,ka,kb,kc,c1_0,c1_1,c1_2,c1_3,rfl,rfl,rfl⟩
  refine ar (irk 1 (.n 81 (.b (decide ((j:Int)<(mk.length:Int)))) .r) (ie (aq (ac (decide ((j:Int)<(mk.length:Int))) dq (fun hc8=>?_) (fun hc8=>?_)))))
  ·obtain ⟨xm,hxm⟩:=Z6 (xs:=mk) (j:=j) om
   refine ak (aq (ab 3 (ar (is_ (Z0 (es:=Z8 mk) (hv:=none) (j:=(j:Int)) (sz:=1) (y:=.i xm) kr om (Z9 hxm) rfl) (irk 2 (.n 12 (.i xm) .r) (ie (az (irk 2 (.n 84 (.p c2 0) (.n 85 (.i xm) .r)) (ic [0,10,10,10] (Zae c2 ka kb kc n L3 ln (Z6y L am s mk) xm 0 (hlk:=c1_1)) ?_)))))))))
   rintro _ _ ⟨wa5,wb5,wc5,rfl⟩
   refine ie (az (ia (((j+1:Nat):Int)) (((j:Int))+(1)) (irk 1 (.n 80 (.i (j+1:Nat)) (.p (.p (.d (.d (.d (.p (.d (.w (.w (.w .z))))))))))) (ie ?_))))
   exact ⟨_,_,_,ob,⟨j+1,(L3.grow xm 0 (gI s.args 0)),wa5,wb5,wc5,ob,(LLen.grow c1_1),(by simp [Led.grow];omega),(by rw [Z5 hxm,Z6m] at c1_3;exact c1_3),rfl,rfl,rfl⟩,(wk [0,3,3,3,3,3,3,3,3,3,3,0,0,0] (fq (fq (fq (fc (x:=.i (j+1:Nat)) li fl)))) (e:=(rc (rc (rc (rc (rc (rc (rc (rc (rc (rc (rc (rv (xs:=(L3.grow xm 0 (-1)).vars) ob (rv (xs:=(L3.grow xm 0 (-1)).own) ob (rv (xs:=(L3.grow xm 0 (-1)).tok) ob rz))))))))))))))))⟩
  have hE:L3=kidL n.decls L s.op s.num s.args k:=by rw [←c1_3,Zt om];rfl
  have hL3v:L3.vars=L.vars++mk:=by rw [hE];exact hK.2
  have hL3l:L3.vars.length=L.vars.length+mk.length:=by rw [hL3v,List.length_append]
  refine ax 2 (aq (ar (irK 3 (.n 88 (.p c2 0) (.n 90 (Z0b ke.steps) .r)) [5] [b3] (ic [0,10,10,10] (ih ke.steps c2 ka kb kc L3 (Z6y L am s mk) q vs ob (by rw [hE];exact hK.1) (by rw [hE];exact hak) (by rw [hL3v];exact hvs) (by rw [hL3v];exact Znl hnn (Zul hty hmk)) om om hsrr) ?_))))
  rintro _ _ (⟨wa6,wb6,wc6,M'2,rfl,rfl,hp7⟩|⟨rfl,rfl,hp8⟩)
  ·have hP:=hp7
   have kx:=Zg8 hn (by rw [hE];exact hK.1) hq.1 (by rw [hE];exact hak) (by rw [hL3v];exact hvs) hP
   have kl:=kx.1.len
   have hm1:(endM M'2 ke.result).own.length=vs.length:=by rw [Zfu.1,kl.own,kx.2.1]
   have hm2:(endM M'2 ke.result).tok.length=vs.length:=by rw [Zfu.2.1,kl.tok,kx.2.1]
   refine irK 5 (.n 93 (.b false) (.n 94 (.p c2 0) (.n 95 (Za ke) (.n 96 (.i L.vars.length) .r)))) [8] [b3] (ic [0,0,0,0] (Zox c2 wa6 wb6 wc6 n M'2 ln (Z6y L am s mk) ke L.vars.length (hlk:=kl) (hlb:=(by rw [kx.2.1];omega)) (hm:=(by rw [kx.2.1];omega)) (hr:=(by rw [kx.2.1];omega)) (hq:=(fun y hy=>by have h1:=kx.1.nn y hy;have h2:=kx.1.bd y hy;omega))) ?_)
   rintro _ _ (⟨rfl,rfl,hp9⟩|⟨rfl,rfl,hp10⟩)
   ·have hB:=hp9
    rw [←Zg9 (f:=endL L.vars.length ke.result) hP,hE,←Z4e] at hB
    refine irk 2 (.n 99 (.b false) .r) (ie (ac0 (ak (ab 4 (ar (irk 1 (.n 101 (.p c0 0) .r) (iQ false (irk 1 (.n 100 (.b false) .r) (ie (ac0 (aD 31 (dtK (fuel:=26) 31 [0,1,2,3,4] (.n 108 (.h wb6) (.n 109 (.i L.vars.length) .r)) [0] [c2] (dx 5 (vCut 2 wb6 ((endM M'2 ke.result).own) L.vars.length) (dtK (fuel:=20) 25 [6,7,8,9,10] (.n 114 (.h ub) (.n 115 (.i L.vars.length) .r)) [9] [c0] (dx 11 (vCut 11 ub O.own L.vars.length) (do_ 12 (dCL 12 [2,10] [] [] [rV wb6 ((endM M'2 ke.result).own),rV ub O.own] (Z1a (((endM M'2 ke.result).own).take L.vars.length) (O.own.take L.vars.length)) cl0 (gC (v:=wb6) (ys:=(endM M'2 ke.result).own) 0 L.vars.length (gC (v:=ub) (ys:=O.own) 1 L.vars.length gN)) (Z1h (Z1h Z2j)) ?_)))))))))))))))))
    rintro _ _ ⟨rfl,rfl⟩
    refine Zca [(0,.p b 0),(3,.p b1 0),(5,Z2y (Zq n.decls s.op s.num)),(6,.i L.vars.length),(7,.p c0 0),(45,Zv s.kids),(46,.i s.kids.length),(47,.i k),(104,.b ((!(decide ((((endM M'2 ke.result).own).take L.vars.length)=(O.own.take L.vars.length))))||(!(decide ((((endM M'2 ke.result).tok).take L.vars.length)=(O.tok.take L.vars.length))))))] [rV wb6 ((endM M'2 ke.result).own),rV ub O.own,.obj c2 [Z2 n.decls,sq1 n,nInt ln,nArm (Z6y L am s mk),.h wa6,.h wb6,.h wc6],rV wa6 ((endM M'2 ke.result).vars),rV wc6 ((endM M'2 ke.result).tok),.obj b [Z2 n.decls,sq1 n,nInt ln,nArm am,.h ga,.h gb,.h gc],rV ga L.vars,rV gb L.own,rV gc L.tok,.obj b3 (Z03 ke),.obj c0 [Z2 n.decls,sq1 n,nInt ln,nArm aO,.h ua,.h ub,.h uc],rV ua O.vars,rV uc O.tok,.obj b1 (Z02 s)] ?_ ?_
    ·refine dt (fuel:=16) 18 [13,14] [(0,.p b 0),(3,.p b1 0),(5,Z2y (Zq n.decls s.op s.num)),(6,.i L.vars.length),(7,.p c0 0),(10,.p c2 0),(45,Zv s.kids),(46,.i s.kids.length),(47,.i k),(119,.b (!(decide ((((endM M'2 ke.result).own).take L.vars.length)=(O.own.take L.vars.length)))))] (db (b:=(!(decide ((((endM M'2 ke.result).own).take L.vars.length)=(O.own.take L.vars.length))))) 119 (fun hb2=>?_) (fun hb2=>?_))
     ·have hp11:¬((((endM M'2 ke.result).own).take L.vars.length)=(O.own.take L.vars.length)):=((Zc dq)).1 hb2
      refine dtk (fuel:=0) 16 [15,16,17,18,19,20,21,22,23,24,25,26,27,28,29,30] (.n 104 (.b true) (.d (.w (.k (.d (.k (.k (.k .z)))))))) (de ?_)
      exact wk [0,0,0,0,0,0,0,0,0,0,0,0,0,0] (fq (fq (fc (x:=.b true) (lb (by simp only [hb2];rfl)) fl)))
     have hp12:¬(¬((((endM M'2 ke.result).own).take L.vars.length)=(O.own.take L.vars.length))):=Zd (Zc dq) hb2
     refine dtK (fuel:=11) 16 [15,16,17,18,19] (.n 123 (.h wc6) (.n 124 (.i L.vars.length) (.w (.k (.k (.d (.k (.k (.k .z))))))))) [2] [c2] (dx 20 (vCut 4 wc6 ((endM M'2 ke.result).tok) L.vars.length) (dtK (fuel:=5) 10 [21,22,23,24,25] (.n 129 (.h uc) (.n 130 (.i L.vars.length) .r)) [10] [c0] (dx 26 (vCut 12 uc O.tok L.vars.length) (do_ 27 (dCL 27 [4,11] [] [] [rV wc6 ((endM M'2 ke.result).tok),rV uc O.tok] (Z1a (((endM M'2 ke.result).tok).take L.vars.length) (O.tok.take L.vars.length)) cl0 (gC (v:=wc6) (ys:=(endM M'2 ke.result).tok) 0 L.vars.length (gC (v:=uc) (ys:=O.tok) 1 L.vars.length gN)) (Z1h (Z1h Z2j)) ?_)))))
     rintro _ _ ⟨rfl,rfl⟩
     refine dtk (fuel:=0) 3 [28,29,30] (.n 104 (.b (!(decide ((((endM M'2 ke.result).tok).take L.vars.length)=(O.tok.take L.vars.length))))) .r) (de ?_)
     exact wk [2,2,2,2,0,1,1,1,1,1,1,1,0,0] (fq (fq (fc (x:=.b (!(decide ((((endM M'2 ke.result).tok).take L.vars.length)=(O.tok.take L.vars.length))))) (lb (by simp only [hb2];rfl)) fl)))
    refine ac ((!(decide ((((endM M'2 ke.result).own).take L.vars.length)=(O.own.take L.vars.length))))||(!(decide ((((endM M'2 ke.result).tok).take L.vars.length)=(O.tok.take L.vars.length))))) (p:=(¬((((endM M'2 ke.result).own).take L.vars.length)=(O.own.take L.vars.length)))∨(¬((((endM M'2 ke.result).tok).take L.vars.length)=(O.tok.take L.vars.length)))) (Zg (Zc dq) (Zc dq)) (fun hc9=>?_) (fun hc9=>?_)
    ·refine ar (ir 1 [(4,.b false)] (ie ?_))
     exact at_ (r1 [] (.inr ⟨rfl,rfl,(by rw [hgo,d0_1];exact Zd0 (by rw [←d0_3,Z8p hke,hB];exact Zrq (hc9.imp (fun h g=>h g.symm) (fun h g=>h g.symm))))⟩))
    refine ak (az (ia (((k+1:Nat):Int)) (((k:Int))+(1)) (ir 1 [(0,.p b 0),(3,.p b1 0),(5,Z2y (Zq n.decls s.op s.num)),(6,.i L.vars.length),(7,.p c0 0),(45,Zv s.kids),(46,.i s.kids.length),(47,.i (k+1:Nat))] (ie ?_))))
    exact ⟨_,_,_,ob,(.inr ⟨k+1,c0,ua,ub,uc,O,aO,om,d0_1,d0_2,(by rw [Z8p hke,hB,Zny (fun z=>hc9 (z.imp (fun h g=>h g.symm) (fun h g=>h g.symm)))] at d0_3;exact d0_3),rfl,rfl,rfl⟩),(wk [10,10,1,9,4,4,4,4,5] (fq (fw (fr (fc (x:=.i (k+1:Nat)) li fl)))))⟩
   have hB:=hp10
   rw [←Zg9 (f:=endL L.vars.length ke.result) hP,hE,←Z4e] at hB
   refine irk 2 (.n 99 (.b true) .r) (ie (ac1 (ar (ir 1 [(4,.b false)] (ie ?_)))))
   exact at_ (r1 [] (.inr ⟨rfl,rfl,(by rw [hgo,d0_1];exact Zd0 (by rw [←d0_3,Z8p hke,hB];rfl))⟩))
  have hB:Z39 n ln (kidL n.decls L s.op s.num s.args k) L.vars.length ke=none:=by rw [Z4e,←hE,hp8];rfl
  refine irk 8 (.n 99 (.b true) .r) (ie (ac1 (ar (ir 1 [(4,.b false)] (ie ?_)))))
  exact at_ (r1 [] (.inr ⟨rfl,rfl,(by rw [hgo,d0_1];exact Zd0 (by rw [←d0_3,Z8p hke,hB];rfl))⟩))
 refine ax 0 (aD 22 (dtK (fuel:=15) 22 [0,1,2,3,4,5,6] (.n 136 (.p b 0) (.n 137 (.p b 0) (.n 141 (.h ub) (.n 142 (.i L.vars.length) .r)))) [0] [c0] (dx 7 (vCut 2 ub O.own L.vars.length) (dtK (fuel:=9) 14 [9,10,11,12,13] (.n 148 (.h uc) (.n 149 (.i L.vars.length) .r)) [0] [c0] (dx 14 (vCut 3 uc O.tok L.vars.length) (do_ 8 (dCL 8 [2] [0] [c0] [rV ub O.own] (Z9x (O.own.take L.vars.length)) cl2 (gC (v:=ub) (ys:=O.own) 0 L.vars.length gN) (Z1h Z2j) ?_)))))))
 rintro _ _ ⟨v2,rfl,rfl⟩
 refine do_ 15 (dCL 15 [4] [] [] [rV uc O.tok] (Z9x (O.tok.take L.vars.length)) cl2 (gC (v:=uc) (ys:=O.tok) 0 L.vars.length gN) (Z1h Z2j) ?_)
 rintro _ _ ⟨v3,rfl,rfl⟩
 refine dtk (fuel:=4) 6 [16,17] (.n 153 (.p b 5) .r) (do_ 18 (dS 18 6 [] [] b 5 [.h v2] [Z2 n.decls,sq1 n,nInt ln,nArm am,.h ga,.h gb,.h gc] [Z2 n.decls,sq1 n,nInt ln,nArm am,.h ga,.h v2,.h gc] (dtk (fuel:=1) 3 [19,20] (.n 155 (.p b 6) .r) (do_ 21 (dS 21 0 [] [] b 6 [.h v3] [Z2 n.decls,sq1 n,nInt ln,nArm am,.h ga,.h v2,.h gc] [Z2 n.decls,sq1 n,nInt ln,nArm am,.h ga,.h v2,.h v3] (de (ar (ir 1 [(4,.b true)] (ie ?_)))))))))
 exact at_ (r1 [0,6,2,0] (.inl ⟨ga,v2,v3,(Led.mk L.vars (O.own.take L.vars.length) L.par L.con L.fst (O.tok.take L.vars.length)),rfl,rfl,(by rw [hgo,d0_1];exact Znk (by rw [←d0_3,Zt om];rfl))⟩) (eq:=(rc (rv (xs:=L.vars) ob (rv (xs:=(O.own.take L.vars.length)) ob (rv (xs:=(O.tok.take L.vars.length)) ob rz))))))
theorem Z60 (n:Normal) (us:List Int) (s:Step) (hn:NOk n) (hty:NTy n) (hnn:∀t∈us,0≤t) (hb:us.length+4*s.sz≤1000000000) (hr:s.rng):Z3 Tryz.prog 160 [.agg [Z2 n.decls,sq1 n],nInt us,Z0g s] [] (fun r h=>∃(t:Int),r=.tup [.i t,.b (decide (0≤Z7 n us s))]∧h=[]∧(¬Z0q s.op=true→0≤Z7 n us s→t=Z7 n us s)):=
 Z4k n us s hn hty hnn hb hr fun b us2 _ h2 h3 h4=>Z8n n us2 b hn hty h4 h2 h3
theorem Zuq (b:Nat) (ga:Hd) (gb:Hd) (gc:Hd) (n:Normal) (L:LedB) (ln:List Int) (am:List Arm) (s:Step) (q:Int) (hn:NOk n:=by exact ob) (hty:NTy n:=by exact ob) (hlt:NLt n:=by exact ob) (hk:LOk n.decls L q:=by exact ob) (har:ArmR n.decls L am:=by exact ob) (hln:ln.length≤4294967296:=by exact ob) (ht:0≤Z7 n L.vars s:=by exact ob) (hnn:∀t∈L.vars,0≤t) (hb:L.vars.length+am.length+4*s.sz≤900000000:=by exact ob) (hq:0≤q∧q+4*s.sz≤999999980:=by exact ob) (hr:s.rng:=by exact ob) (ih:∀(ys:List Step) (c:Nat) (ra:Hd) (rb:Hd) (rc:Hd) (M:LedB) (a2:List Arm) (p:Int) (vs:List Int),(ssz ys<s.sz)→(LOk n.decls M p)→(ArmR n.decls M a2)→(Z10 n ys M.vars=some vs)→(∀t∈M.vars,0≤t)→(M.vars.length+a2.length+4*ssz ys≤900000000)→(0≤p∧p+4*ssz ys≤999999980)→(srng ys)→Z3 Tryz.prog 115 [.p c 0,Z0b ys] [.obj c [Z2 n.decls,sq1 n,nInt ln,nArm a2,.h ra,.h rb,.h rc],rV ra M.vars,rV rb M.own,rV rc M.tok] (fun r h=>(∃(wa:Hd) (wb:Hd) (wc:Hd) (M':LedB),r=.b true∧h=[.obj c [Z2 n.decls,sq1 n,nInt ln,nArm a2,.h wa,.h wb,.h wc],rV wa M'.vars,rV wb M'.own,rV wc M'.tok]∧Z3c n ln M ys=some M')∨(r=.b false∧h=[]∧Z3c n ln M ys=none))):Z3 Tryz.prog 163 [.p b 0,Z0g s] [.obj b [Z2 n.decls,sq1 n,nInt ln,nArm am,.h ga,.h gb,.h gc],rV ga L.vars,rV gb L.own,rV gc L.tok] (fun r h=>(∃(wa:Hd) (wb:Hd) (wc:Hd) (L':LedB),r=.b true∧h=[.obj b [Z2 n.decls,sq1 n,nInt ln,nArm am,.h wa,.h wb,.h wc],rV wa L'.vars,rV wb L'.own,rV wc L'.tok]∧Z8w n ln L s=some L')∨(r=.b false∧h=[]∧Z8w n ln L s=none)):=by
 have hlk:=hk.len
 obtain ⟨e1,e2,e3,e4,e5⟩:=hk.len
 have hf:=Z7b ht
 have hkz:=Z5m s
 have haz:=Z86 s
 have hlh:=Zx2 hlt ht
 refine enter Tryz.func163 kr (n:=58) kr kr (ar (iA (Z02 s) ?_))
 intro b1
 refine ir 1 [(0,.p b 0),(3,.p b1 0)] (ie (aq (ab 0 (ar (irK 2 (.n 9 (.i s.op) .r) [0] [b1] (ic [] (Z32 s.op) ?_))))))
 rintro _ _ ⟨rfl,rfl⟩
 refine irk 1 (.n 7 (.b (Z0q s.op)) .r) (ie (ac (Z0q s.op) Iff.rfl (fun hc1=>?_) (fun hc1=>?_)))
 ·obtain ⟨x,hxa⟩:=hf.one (.inr (.inr (by simpa [Z0q] using hc1)))
  have ha:s.args[0]? = some x:=by rw [hxa];rfl
  have hx:=hf.args x (by rw [hxa];simp)
  have hgx:=gI0 ha
  have hal:=(List.getElem?_eq_some_iff.1 ha).1
  refine aD 9 (dT (fuel:=4) 9 [0,1,2,3,4] [(11,.p b 0),(13,.i s.op),(15,nInt s.args)] [0,0] [b1,b1] (dx 5 (Z0 (es:=Z8 s.args) (hv:=none) (j:=0) (sz:=1) (y:=.i x) kr om (Z9 ha) rfl) (dtk (fuel:=2) 3 [6] (.n 17 (.i x) .r) (do_ 7 (dc 7 [1,1,1,1] [] [] (Zup b ga gb gc n L ln am s.op x q) ?_)))))
  rintro _ _ (⟨L'1,rfl,rfl,hp1⟩|⟨rfl,rfl,hp2⟩)
  ·refine dt (fuel:=0) 1 [8] [(4,.b true)] (de ?_)
   exact at_ (r1 [0,0,0,0] (.inl ⟨ga,gb,gc,L'1,rfl,rfl,(by rw [Zk3 hc1 hgx];exact hp1)⟩))
  refine dt (fuel:=0) 1 [8] [(4,.b false)] (de ?_)
  exact at_ (r1 [] (.inr ⟨rfl,rfl,(by rw [Zk3 hc1 hgx];exact hp2)⟩))
 refine ar (Z1n 8 [(0,.p b 0),(3,.p b1 0),(27,.b ((s.op==7)||(s.op==8)))] [.obj b1 (Z02 s),.obj b [Z2 n.decls,sq1 n,nInt ln,nArm am,.h ga,.h gb,.h gc],rV ga L.vars,rV gb L.own,rV gc L.tok] ?_ (fun hj1=>?_))
 ·refine ir 1 [(0,.p b 0),(3,.p b1 0),(19,.b ((s.op==7)||(s.op==8)))] (ie (ac ((s.op==7)||(s.op==8)) (p:=(s.op=7)∨(s.op=8)) (Zg beq_iff_eq beq_iff_eq) (fun hc2=>?_) (fun hc2=>?_)))
  ·refine ar (irK 2 (.n 28 (.p b 0) (.n 29 (Z0g s) .r)) [0] [b1] (ic [1,1,1,1] (Zsb b ga gb gc n L ln am s q (hnn:=ob) (ih:=ih)) ?_))
   rintro _ _ (⟨wa1,wb1,wc1,L'2,rfl,rfl,hp3⟩|⟨rfl,rfl,hp4⟩)
   ·have hP:=(Z00y (n:=n) (ln:=ln) (L:=L) hc2).trans hp3
    obtain ⟨kx,hxv⟩:=Z80 hn hk hq.1 hf hP
    refine irk 1 (.n 31 (.b false) .r) (ie (ac0 (ak (aD 15 (dtK (fuel:=6) 15 [0,1,2,3,4,5,6,7,8] (.n 44 (.agg [Z2 n.decls,sq1 n]) (.n 48 (.h wa1) (.n 49 (Z0g s) .r))) [0,0,4] [b,b,b1] (do_ 9 (dCL 9 [1] [] [] [rV wa1 L'2.vars] (Z60 n L'2.vars s ob ob (by rw [hxv];exact hnn) (by rw [hxv];omega) ob) clT (gS (gL (v:=wa1) 0 (gS gN))) (Z1h Z2j) ?_)))))))
    rintro _ _ ⟨t1,rfl,rfl,hp5⟩
    rw [hxv] at hp5
    have hte:=hp5 hc1 ht
    refine dtk (fuel:=0) 5 [10,11,12,13,14] (.n 5 (.i t1) .r) (de (ar (ir 3 [(53,.p b 0),(54,.i t1),(55,.i t1)] (iI t1 1 (ic [1,0,0,0] (Zae b wa1 wb1 wc1 n L'2 ln am t1 (min t1 1) (hlb:=(by rw [hxv];omega)) (hlk:=kx.len)) ?_)))))
    rintro _ _ ⟨wa2,wb2,wc2,rfl⟩
    refine ie (ar (ir 1 [(4,.b true)] (ie ?_)))
    exact at_ (r1 [0,0,0,0] (.inl ⟨wa2,wb2,wc2,(L'2.grow t1 (min t1 1) (-1)),rfl,rfl,(Zhw hP ht hc1 hte)⟩))
   have hP:=(Z00y (n:=n) (ln:=ln) (L:=L) hc2).trans hp4
   refine irk 1 (.n 31 (.b true) .r) (ie (ac1 (ar (ir 1 [(4,.b false)] (ie ?_)))))
   exact at_ (r1 [] (.inr ⟨rfl,rfl,(Zo6 hP)⟩))
  refine ar (irK 2 (.n 34 (.i s.op) .r) [0] [b1] (ic [] (Z7k s.op) ?_))
  rintro _ _ ⟨rfl,rfl⟩
  refine irk 1 (.n 32 (.b (Z2i s.op)) .r) (ie (ac (Z2i s.op) Iff.rfl (fun hc3=>?_) (fun hc3=>?_)))
  ·refine ar (irK 2 (.n 36 (.p b 0) (.n 37 (Z0g s) .r)) [0] [b1] (ic [1,1,1,1] (Zow b ga gb gc n L ln am s q (hlt:=hlh)) ?_))
   rintro _ _ (⟨L'3,rfl,rfl,hp6⟩|⟨rfl,rfl,hp7⟩)
   ·have hP:=(Zl7 (n:=n) (ln:=ln) (L:=L) hc1 hc2).trans hp6
    obtain ⟨kx,hxv⟩:=Z80 hn hk hq.1 hf hP
    refine irk 1 (.n 39 (.b false) .r) (ie (ac0 (ak (aD 15 (dtK (fuel:=6) 15 [0,1,2,3,4,5,6,7,8] (.n 44 (.agg [Z2 n.decls,sq1 n]) (.n 48 (.h ga) (.n 49 (Z0g s) .r))) [0,0,4] [b,b,b1] (do_ 9 (dCL 9 [1] [] [] [rV ga L'3.vars] (Z60 n L'3.vars s ob ob (by rw [hxv];exact hnn) (by rw [hxv];omega) ob) clT (gS (gL (v:=ga) 0 (gS gN))) (Z1h Z2j) ?_)))))))
    rintro _ _ ⟨t2,rfl,rfl,hp8⟩
    rw [hxv] at hp8
    have hte:=hp8 hc1 ht
    refine dtk (fuel:=0) 5 [10,11,12,13,14] (.n 5 (.i t2) .r) (de (ar (ir 3 [(53,.p b 0),(54,.i t2),(55,.i t2)] (iI t2 1 (ic [1,0,0,0] (Zae b ga gb gc n L'3 ln am t2 (min t2 1) (hlb:=(by rw [hxv];omega)) (hlk:=kx.len)) ?_)))))
    rintro _ _ ⟨wa3,wb3,wc3,rfl⟩
    refine ie (ar (ir 1 [(4,.b true)] (ie ?_)))
    exact at_ (r1 [0,0,0,0] (.inl ⟨wa3,wb3,wc3,(L'3.grow t2 (min t2 1) (-1)),rfl,rfl,(Zhw hP ht hc1 hte)⟩))
   have hP:=(Zl7 (n:=n) (ln:=ln) (L:=L) hc1 hc2).trans hp7
   refine irk 1 (.n 39 (.b true) .r) (ie (ac1 (ar (ir 1 [(4,.b false)] (ie ?_)))))
   exact at_ (r1 [] (.inr ⟨rfl,rfl,(Zo6 hP)⟩))
  have hP:=Zxl (ln:=ln) hc1 hc2 hc3 ht
  have hxv:L.vars=L.vars:=rfl
  have kx:=hk
  refine ak (aD 15 (dtK (fuel:=6) 15 [0,1,2,3,4,5,6,7,8] (.n 44 (.agg [Z2 n.decls,sq1 n]) (.n 48 (.h ga) (.n 49 (Z0g s) .r))) [1,1,0] [b,b,b1] (do_ 9 (dCL 9 [2] [] [] [rV ga L.vars] (Z60 n L.vars s ob ob (by rw [hxv];exact hnn) (by rw [hxv];omega) ob) clT (gS (gL (v:=ga) 0 (gS gN))) (Z1h Z2j) ?_))))
  rintro _ _ ⟨t3,rfl,rfl,hp9⟩
  rw [hxv] at hp9
  have hte:=hp9 hc1 ht
  refine dtk (fuel:=0) 5 [10,11,12,13,14] (.n 5 (.i t3) .r) (de (ar (ir 3 [(53,.p b 0),(54,.i t3),(55,.i t3)] (iI t3 1 (ic [2,0,1,1] (Zae b ga gb gc n L ln am t3 (min t3 1) (hlb:=(by rw [hxv];omega)) (hlk:=kx.len)) ?_)))))
  rintro _ _ ⟨wa4,wb4,wc4,rfl⟩
  refine ie (ar (ir 1 [(4,.b true)] (ie ?_)))
  exact at_ (r1 [0,0,0,0] (.inl ⟨wa4,wb4,wc4,(L.grow t3 (min t3 1) (-1)),rfl,rfl,(Zhw hP ht hc1 hte)⟩))
 refine iR 4 [(0,.p b 0),(3,.p b1 0),(23,.b (s.op==7))] [0] [b1] (ib (b:=(s.op==7)) 23 (fun hb1=>?_) (fun hb1=>?_))
 ·have hp10:s.op=7:=(beq_iff_eq).1 hb1
  refine irk 4 (.n 27 (.b true) (.d (.k (.k .z)))) ?_
  exact Zy (wk [0,0,0,0,0] (fw (fc (x:=.b true) (lb (by simp only [hb1];rfl)) fl))) hj1
 have hp11:¬(s.op=7):=Zd beq_iff_eq hb1
 refine irK 4 (.n 27 (.b (s.op==8)) (.d (.k (.k .z)))) [0] [b1] ?_
 exact Zy (wk [0,0,0,0,0] (fw (fc (x:=.b (s.op==8)) (lb (by simp only [hb1];rfl)) fl))) hj1
theorem Zkc (n:Normal) (ln:List Int) (hn:NOk n) (hty:NTy n) (hlt:NLt n) (hln:ln.length≤4294967296) (m:Nat):∀(ys:List Step) (c:Nat) (ra:Hd) (rb:Hd) (rc:Hd) (M:LedB) (a2:List Arm) (p:Int) (vs:List Int),(ssz ys<m)→(LOk n.decls M p)→(ArmR n.decls M a2)→(Z10 n ys M.vars=some vs)→(∀t∈M.vars,0≤t)→(M.vars.length+a2.length+4*ssz ys≤900000000)→(0≤p∧p+4*ssz ys≤999999980)→(srng ys)→Z3 Tryz.prog 115 [.p c 0,Z0b ys] [.obj c [Z2 n.decls,sq1 n,nInt ln,nArm a2,.h ra,.h rb,.h rc],rV ra M.vars,rV rb M.own,rV rc M.tok] (fun r h=>(∃(wa:Hd) (wb:Hd) (wc:Hd) (M':LedB),r=.b true∧h=[.obj c [Z2 n.decls,sq1 n,nInt ln,nArm a2,.h wa,.h wb,.h wc],rV wa M'.vars,rV wb M'.own,rV wc M'.tok]∧Z3c n ln M ys=some M')∨(r=.b false∧h=[]∧Z3c n ln M ys=none)):=by
 induction m with
 | zero=>intro ys c ra rb rc M a2 p vs h;omega
 | succ m ih=>
  intro ys c ra rb rc M a2 p vs h hk har ht hnn hb hp hr
  exact Zsc c ra rb rc n M ln a2 ys p vs hn hk har ht hnn hb hp hr fun s2 c ra rb rc M a2 p h1 hk har ht hnn hb hp hr=>Zuq c ra rb rc n M ln a2 s2 p hn hty hlt hk har hln ht hnn hb hp hr
   fun ys c ra rb rc M a2 p vs h2 hk har ht hnn hb hp hr=>ih ys c ra rb rc M a2 p vs om hk har ht hnn hb hp hr
theorem Zur (c:Nat) (ra:Hd) (rb:Hd) (rc:Hd) (n:Normal) (M:LedB) (ln:List Int) (a2:List Arm) (ys:List Step) (p:Int) (vs:List Int) (hn:NOk n) (hty:NTy n) (hlt:NLt n) (hln:ln.length≤4294967296) (hk:LOk n.decls M p) (har:ArmR n.decls M a2) (ht:Z10 n ys M.vars=some vs) (hnn:∀t∈M.vars,0≤t) (hb:M.vars.length+a2.length+4*ssz ys≤900000000) (hp:0≤p∧p+4*ssz ys≤999999980) (hr:srng ys):Z3 Tryz.prog 115 [.p c 0,Z0b ys] [.obj c [Z2 n.decls,sq1 n,nInt ln,nArm a2,.h ra,.h rb,.h rc],rV ra M.vars,rV rb M.own,rV rc M.tok] (fun r h=>(∃(wa:Hd) (wb:Hd) (wc:Hd) (M':LedB),r=.b true∧h=[.obj c [Z2 n.decls,sq1 n,nInt ln,nArm a2,.h wa,.h wb,.h wc],rV wa M'.vars,rV wb M'.own,rV wc M'.tok]∧Z3c n ln M ys=some M')∨(r=.b false∧h=[]∧Z3c n ln M ys=none)):=
 Zkc n ln hn hty hlt hln (ssz ys+1) ys c ra rb rc M a2 p vs om hk har ht hnn hb hp hr
theorem Z7l (n:Normal) (hz:NSz n) (hs:Z0e n=true):Z3 Tryz.prog 25 [Zi n] [] (fun r h=>r=.tup [.agg [Z2 n.decls,sq1 n],.b (Z0e n)]∧h=[]):=by
 refine (Z7x n hz).mono fun r h q=>?_
 rcases q with ⟨h1,h2,_⟩|⟨_,_,h3⟩
 ·exact ⟨h1,h2⟩
 ·rw [hs] at h3;cases h3
theorem Z02r (n:Normal) (f:Nat) (rt:Routine) (hn:NOk n:=by exact ob) (hz:NSz n:=by exact ob) (hs:Z0e n=true:=by exact ob) (hr:n.routines[f]? = some rt:=by exact ob):Z3 Tryz.prog 114 [Zi n,.i f] [] (fun r h=>∃(c:Nat) (wa:Hd) (wb:Hd) (wc:Hd),r=.p c 0∧h=[.obj c [Z2 n.decls,sq1 n,nInt rt.lent,nArm [],.h wa,.h wb,.h wc],rV wa ((newL rt).vars),rV wb ((newL rt).own),rV wc ((newL rt).tok)]):=by
 have hfl:=(List.getElem?_eq_some_iff.1 hr).1
 have hpl:=hn.params_at hr
 have hll:=hn.lent_at hr
 refine enter Tryz.func114 kr (n:=58) kr kr (ar (iA (Zh n) ?_))
 intro b1
 refine ir 1 [(1,.i f),(2,.p b1 0)] (ie (ar (irK 1 (.n 11 (Zi n) .r) [0] [b1] (ic [] (Z7l n ob ob) ?_))))
 rintro _ _ ⟨rfl,rfl⟩
 refine irk 3 (.n 13 (.agg [Z2 n.decls,sq1 n]) (.n 14 (.b (Z0e n)) .r)) (iA [nl,nl] ?_)
 intro b2
 refine iS 0 b2 0 [Z2 n.decls,sq1 n] [nl,nl] [Z2 n.decls,sq1 n] (irk 1 .r (ie (aD 10 (dtK (fuel:=6) 10 [0,1,2,3] (.n 15 (.agg [Z2 n.decls,sq1 n]) (.n 17 (nRoutine n.routines) (.n 18 (.i f) .r))) [0,1] [b2,b1] (dx 4 (Z0 (es:=Z0p n.routines) (hv:=none) (j:=(f:Int)) (sz:=5) (y:=Z0s rt) kr om (Z0v hr) rfl) (dtk (fuel:=2) 5 [5,6,7] (.n 22 (.agg [Z2 n.decls,sq1 n,nInt rt.lent,nl,nl,nl,nl]) .r) (do_ 8 (dA 8 [] [] [Z2 n.decls,sq1 n,nInt rt.lent,nl,nl,nl,nl] ?_))))))))
 intro b3
 refine Zcb (Zrz 0 b3 [Z2 n.decls,sq1 n,nInt rt.lent,nl,nl,nl,nl] [Z2 n.decls,sq1 n,nInt rt.lent,nArm [],.h hN,.h hN,.h hN] (.cons (lr _) (.cons (lr _) (.cons (lr _) (.cons (AVLe.sl _ rfl) (.cons (AVLe.hd (v:=hN)) (.cons (AVLe.hd (v:=hN)) (.cons (AVLe.hd (v:=hN)) .nil)))))))) (Zcb (tNil) (Zcb (tNil) (Zcb (tNil) (dtk (fuel:=0) 1 [9] (.n 7 (.p b3 0) .r) (de (aq (ar (irK 3 (.n 25 (nRoutine n.routines) (.n 26 (.i f) .r)) [5] [b1] (is_ (Z0 (es:=Z0p n.routines) (hv:=none) (j:=(f:Int)) (sz:=5) (y:=Z0s rt) kr om (Z0v hr) rfl) (irk 2 (.n 29 (nInt rt.params) .r) (iw (Z4 rt.params) (irk 1 (.n 31 (.i 0) .r) (ie (ab 0 (al (fun m F h=>∃(k:Nat) (L2:LedB) (ka:Hd) (kb:Hd) (kc:Hd),(k≤rt.params.length)∧(LLen L2)∧(L2.vars.length=k)∧(Z5o rt.lent (rt.params.drop k) k L2=newL rt)∧F=[(7,.p b3 0),(29,nInt rt.params),(30,.i rt.params.length),(31,.i k)]∧h=[.obj b3 [Z2 n.decls,sq1 n,nInt rt.lent,nArm [],.h ka,.h kb,.h kc],rV ka L2.vars,rV kb L2.own,rV kc L2.tok]∧m=rt.params.length-k) _ _ _ ⟨0,(Led.mk [] [] [] [] [] []),hN,hN,hN,ob,⟨rfl,rfl,rfl,rfl,rfl⟩,rfl,rfl,rfl,rfl,rfl⟩ (wk [3,0,0,0] (fw (fr (fc (x:=.i 0) li fl))) (e:=(rc (rv (xs:=[]) ob (rv (xs:=[]) ob (rv (xs:=[]) ob rz)))))) ?_)))))))))))))))
 rintro m F h ⟨k,L2,ka,kb,kc,c0_0,c0_1,c0_2,c0_3,rfl,rfl,rfl⟩
 refine ar (irk 1 (.n 32 (.b (decide ((k:Int)<(rt.params.length:Int)))) .r) (ie (aq (ac (decide ((k:Int)<(rt.params.length:Int))) dq (fun hc1=>?_) (fun hc1=>?_)))))
 ·refine ak (aq (ab 1 (ar (irk 1 (.n 33 (.i k) .r) ?_))))
  obtain ⟨x1,hx1⟩:=Z6 (xs:=rt.params) (j:=k) om
  have hgl:(L2.grow x1 0 (-1)).own.length=k+1:=by simp [Led.grow,c0_1.own,c0_2]
  refine is_ (Z0 (es:=Z8 rt.params) (hv:=none) (j:=(k:Int)) (sz:=1) (y:=.i x1) kr om (Z9 hx1) rfl) (irk 3 (.n 8 (.i k) (.n 9 (.i x1) .r)) (ie (ar (irk 2 (.n 36 (.p b3 0) (.n 37 (.i x1) .r)) (ic [0,0,0,0] (Zae b3 ka kb kc n L2 rt.lent [] x1 0) ?_)))))
  rintro _ _ ⟨wa1,wb1,wc1,rfl⟩
  refine ie (ar (Z24 [(7,.p b3 0),(8,.i k),(29,nInt rt.params),(30,.i rt.params.length),(31,.i k),(49,.b ((x1 != 0)&&(!(decide ((k:Int)∈rt.lent)))))] [.obj b3 [Z2 n.decls,sq1 n,nInt rt.lent,nArm [],.h wa1,.h wb1,.h wc1],rV wa1 ((L2.grow x1 0 (-1)).vars),rV wb1 ((L2.grow x1 0 (-1)).own),rV wc1 ((L2.grow x1 0 (-1)).tok)] ?_ ?_))
  ·refine ir 3 [(7,.p b3 0),(8,.i k),(29,nInt rt.params),(30,.i rt.params.length),(31,.i k),(41,.b (x1 != 0))] (ib (b:=(x1 != 0)) 41 (fun hb1=>?_) (fun hb1=>?_))
   ·have hp1:x1≠0:=(bne_iff_ne).1 hb1
    refine irK 5 (.n 45 (nInt rt.lent) (.n 46 (.i k) (.w (.k (.k .z))))) [0] [b3] (ic [] (Z38 rt.lent (k:Int)) ?_)
    rintro _ _ ⟨rfl,rfl⟩
    refine irk 2 (.n 49 (.b (!(decide ((k:Int)∈rt.lent)))) .r) (ie ?_)
    exact wk [0,0,0,0] (fq (fr (fc (x:=.b (!(decide ((k:Int)∈rt.lent)))) (lb (by simp only [hb1];rfl)) fl)))
   have hp2:¬(x1≠0):=Zd bne_iff_ne hb1
   refine irk 8 (.n 49 (.b false) (.d (.w (.k .z)))) (ie ?_)
   exact wk [0,0,0,0] (fq (fr (fc (x:=.b false) (lb (by simp only [hb1];rfl)) fl)))
  refine ac ((x1 != 0)&&(!(decide ((k:Int)∈rt.lent)))) (p:=(x1≠0)∧(¬((k:Int)∈rt.lent))) (Zj bne_iff_ne (Zc dq)) (fun hc2=>?_) (fun hc2=>?_)
  ·refine az (iR 5 [(7,.p b3 0),(29,nInt rt.params),(30,.i rt.params.length),(31,.i k),(53,.h wb1),(54,.i k)] [0] [b3] (is_ (vIdx 2 wb1 ((L2.grow x1 0 (-1)).own) (k:Int) k) (iVS 2 wb1 ((L2.grow x1 0 (-1)).own) k 1 (ie (az (ia (((k+1:Nat):Int)) (((k:Int))+(1)) (irk 1 (.n 31 (.i (k+1:Nat)) (.p (.p (.k (.k (.k .z)))))) (ie ?_))))))))
   exact ⟨_,_,_,ob,⟨k+1,(L2.grow x1 1 (-1)),wa1,wb1,wc1,ob,(LLen.grow c0_1),(by simp [Led.grow];omega),(by rw [Z5 hx1,Z5o] at c0_3;first|(rw [if_pos (by assumption)] at c0_3;exact c0_3)|(rw [if_neg (by assumption)] at c0_3;exact c0_3)),rfl,rfl,rfl⟩,(wk [1,1,0,0] (fw (fr (fc (x:=.i (k+1:Nat)) li fl))) (e:=(rc (rv (xs:=(L2.grow x1 0 (-1)).vars) (by first|rfl|exact Zlf (by rw [c0_1.own,c0_2])) (rv (xs:=(((L2.grow x1 0 (-1)).own).set k 1)) (by first|rfl|exact Zlf (by rw [c0_1.own,c0_2])) (rv (xs:=(L2.grow x1 0 (-1)).tok) (by first|rfl|exact Zlf (by rw [c0_1.own,c0_2])) rz))))))⟩
  refine ak (az (ia (((k+1:Nat):Int)) (((k:Int))+(1)) (ir 1 [(7,.p b3 0),(29,nInt rt.params),(30,.i rt.params.length),(31,.i (k+1:Nat))] (ie ?_))))
  exact ⟨_,_,_,ob,⟨k+1,(L2.grow x1 0 (-1)),wa1,wb1,wc1,ob,(LLen.grow c0_1),(by simp [Led.grow];omega),(by rw [Z5 hx1,Z5o] at c0_3;first|(rw [if_pos (by assumption)] at c0_3;exact c0_3)|(rw [if_neg (by assumption)] at c0_3;exact c0_3)),rfl,rfl,rfl⟩,(wk [0,0,0,0] (fw (fr (fc (x:=.i (k+1:Nat)) li fl))))⟩
 refine ax 0 (ar (ir 2 [(4,.p b3 0)] (ie ?_)))
 have hNl:L2=newL rt:=by rw [←c0_3,Zt om];rfl
 exact at_ (r1 [0,0,0,0] ⟨b3,ka,kb,kc,rfl,rfl⟩ (eq:=(rc (rv (xs:=L2.vars) (by rw [hNl]) (rv (xs:=L2.own) (by rw [hNl]) (rv (xs:=L2.tok) (by rw [hNl]) rz))))))
theorem Z94 (n:Normal) (f:Nat) (rt:Routine) (hn:NOk n:=by exact ob) (hty:NTy n:=by exact ob) (hlt:NLt n:=by exact ob) (hz:NSz n:=by exact ob) (hs:Z0e n=true:=by exact ob) (hr:n.routines[f]? = some rt:=by exact ob) (ht:0≤Zf n rt.params rt.body:=by exact ob) (hrr:rt.body.rng:=by exact ob):Z3 Tryz.prog 57 [Zi n,.i f] [] (fun r h=>r=.b (Z1y n rt)∧h=[]):=by
 have hfl:=(List.getElem?_eq_some_iff.1 hr).1
 have hpl:=hn.params_at hr
 have hll:=hn.lent_at hr
 have hrm:=List.mem_of_getElem? hr
 have hbd:=hz.body rt hrm
 have hbz:=rt.body.sz_eq
 obtain ⟨hk,hkv⟩:=Zx9 n.decls rt
 obtain ⟨vs,t0,hvs,hres,hrt⟩:=Z7e ht
 have hri:=Z4y hres
 have hsl:=Zdi hvs
 rw [rt.body.rng_eq] at hrr
 refine enter Tryz.func57 kr (n:=25) kr kr (ar (iA (Zh n) ?_))
 intro b1
 refine ir 1 [(1,.i f),(2,.p b1 0)] (ie (ar (irK 2 (.n 7 (Zi n) (.n 8 (.i f) .r)) [0] [b1] (ic [] (Z02r n f rt) ?_))))
 rintro _ _ ⟨c1,wa1,wb1,wc1,rfl,rfl⟩
 refine irk 1 (.n 5 (.p c1 0) .r) (ie (ar (irK 3 (.n 11 (nRoutine n.routines) (.n 12 (.i f) .r)) [4] [b1] (is_ (Z0 (es:=Z0p n.routines) (hv:=none) (j:=(f:Int)) (sz:=5) (y:=Z0s rt) kr om (Z0v hr) rfl) (irk 2 (.n 15 (Za rt.body) .r) (iA [nl,.i 0] ?_))))))
 intro b2
 refine iS 0 b2 0 (Z03 rt.body) [nl,.i 0] (Z03 rt.body) (ie (ar (irK 3 (.n 16 (.p c1 0) (.n 18 (Z0b rt.body.steps) .r)) [0] [b2] (ic [1,1,1,1] (Zur c1 wa1 wb1 wc1 n (newL rt) rt.lent [] rt.body.steps 1 vs ob ob ob ob hk (Zr7 rt) (by rw [hkv];exact hvs) (by rw [hkv];exact hty.params rt hrm) (by rw [hkv,List.length_nil];omega) ob ob) ?_))))
 rintro _ _ (⟨wa2,wb2,wc2,M'1,rfl,rfl,hp1⟩|⟨rfl,rfl,hp2⟩)
 ·have hP:=hp1
  have kx:=Zg8 hn hk om (Zr7 rt) (by rw [hkv];exact hvs) hP
  have kl:=kx.1.len
  refine iR 3 [(20,.b true),(21,.p c1 0),(22,Za rt.body)] [4] [b2] (ic [0,0,0,0] (Zox c1 wa2 wb2 wc2 n M'1 rt.lent [] rt.body 0 (hlk:=kl) (hlb:=(by rw [kx.2.1];omega)) (hr:=(by rw [kx.2.1];omega)) (hq:=(fun y hy=>by have h1:=kx.1.nn y hy;have h2:=kx.1.bd y hy;omega))) ?_)
  rintro _ _ (⟨rfl,rfl,hp3⟩|⟨rfl,rfl,hp4⟩)
  ·have hB:=hp3
   refine ir 2 [(4,.b true)] (ie ?_)
   exact at_ (r2 [] [.b true] ⟨rfl,rfl⟩ (lb (by rw [Zf7 hP (by rw [kl.own,kl.tok]),hB];rfl)))
  have hB:=hp4
  refine ir 2 [(4,.b false)] (ie ?_)
  exact at_ (r2 [] [.b false] ⟨rfl,rfl⟩ (lb (by rw [Zf7 hP (by rw [kl.own,kl.tok]),hB];rfl)))
 have hP:=hp2
 refine ir 6 [(4,.b false)] (ie ?_)
 exact at_ (r2 [] [.b false] ⟨rfl,rfl⟩ (lb (by rw [Znu hP])))
theorem Zfe (n:Normal) (hz:NSz n:=by exact ob) (hr:∀r∈n.routines,r.body.rng):Z3 Tryz.prog 24 [Zi n] [] (fun r h=>r=.b (Z1x n)∧h=[]):=by
 have hzl:=hz.len
 refine enter Tryz.func24 kr (n:=18) kr kr (ar (iA (Zh n) ?_))
 intro b1
 refine ir 1 [(1,.p b1 0)] (ie (aq (ar (irK 1 (.n 4 (Zi n) .r) [0] [b1] (ic [] (Z7j n (hr:=hr)) ?_)))))
 rintro _ _ ⟨rfl,rfl⟩
 refine irk 1 (.n 6 (.b (!Z05 n)) .r) (ie (ac (!Z05 n) (p:=¬(Z05 n=true)) (Zc Iff.rfl) (fun hc1=>?_) (fun hc1=>?_)))
 ·refine ar (ir 1 [(2,.b false)] (ie ?_))
  exact at_ (r2 [] [.b false] ⟨rfl,rfl⟩ (lb (by first|rfl|omega|grind [Z1x])))
 have hV:Z05 n=true:=Classical.not_not.1 hc1
 obtain ⟨hok,hall⟩:=Z4t hz hV
 have hsg:Z0e n=true:=by rw [Z05,Bool.and_eq_true] at hV;exact hV.1
 have hty:=Zd1 hsg
 have hlt:=Zl3 hsg
 refine ak (aq (ar (irK 2 (.n 8 (nRoutine n.routines) .r) [0] [b1] (iw (Z0a n.routines) (irk 1 (.n 10 (.i 0) .r) (ie (ab 0 (al (fun m F h=>∃(k:Nat),(k≤n.routines.length)∧(Z36 n (n.routines.drop k)=Z36 n n.routines)∧F=[(1,.p b1 0),(9,.i n.routines.length),(10,.i k)]∧h=[.obj b1 (Zh n)]∧m=n.routines.length-k) _ _ _ ⟨0,ob,ob,rfl,rfl,rfl⟩ (wk [0] (fw (fc (x:=.i 0) li fl))) ?_))))))))
 rintro m F h ⟨k,c0_0,c0_1,rfl,rfl,rfl⟩
 refine ar (irk 1 (.n 11 (.b (decide ((k:Int)<(n.routines.length:Int)))) .r) (ie (aq (ac (decide ((k:Int)<(n.routines.length:Int))) dq (fun hc2=>?_) (fun hc2=>?_)))))
 ·obtain ⟨rt,hrt⟩:=Z6 (xs:=n.routines) (j:=k) om
  have hrm:=List.mem_of_getElem? hrt
  refine ak (aq (ab 1 (ar (irk 2 (.n 3 (.i k) .r) (ie (ar (irK 2 (.n 13 (Zi n) (.n 14 (.i k) .r)) [0] [b1] (ic [] (Z94 n k rt (hr:=hrt) (ht:=(hall rt hrm)) (hrr:=(hr rt hrm))) ?_))))))))
  rintro _ _ ⟨rfl,rfl⟩
  refine irk 1 (.n 16 (.b (!Z1y n rt)) .r) (ie (ac (!Z1y n rt) (p:=¬(Z1y n rt=true)) (Zc Iff.rfl) (fun hc3=>?_) (fun hc3=>?_)))
  ·refine ar (ir 1 [(2,.b false)] (ie ?_))
   rw [Z5 hrt] at c0_1
   exact at_ (r2 [] [.b false] ⟨rfl,rfl⟩ (lb (by first|rfl|omega|grind [Z36,Z1x])))
  refine ak (az (ia (((k+1:Nat):Int)) (((k:Int))+(1)) (irk 1 (.n 10 (.i (k+1:Nat)) (.p (.d (.p (.d (.d (.d (.d (.k (.k .z)))))))))) (ie ?_))))
  have hdr:=Z5 hrt
  exact ⟨_,_,_,ob,⟨k+1,ob,(by rw [hdr] at c0_1;clear hdr ;grind [Z36]),rfl,rfl,rfl⟩,(wk [0] (fw (fc (x:=.i (k+1:Nat)) li fl)))⟩
 refine ax 0 (ar (ir 1 [(2,.b true)] (ie ?_)))
 try rw [Zt (xs:=n.routines) (k:=k) om] at c0_1
 exact at_ (r2 [] [.b true] ⟨rfl,rfl⟩ (lb (by first|rfl|omega|grind [Z36,Z1x])))
theorem Z69 (xs:List Int) (left:Int) (hlf:0≤left∧left≤1048576:=by exact ob) (hl:xs.length≤9223372036854775807:=by exact ob):Z3 Tryz.prog 95 [nInt xs,.i left] [] (fun r h=>r=.i (szL xs.length left)∧h=[]):=by
 refine enter Tryz.func95 kr (n:=12) kr kr (ar (ir 1 [(0,nInt xs),(1,.i left)] (ie (ar (ir 2 [(5,.i left),(6,nInt xs)] (iw (Z4 xs) (ia ((left-(xs.length:Int))) ((left)-((xs.length:Int))) (ir 1 [(1,.i (left-(xs.length:Int)))] (ie (aq (ar (ir 2 [(1,.i (left-(xs.length:Int))),(10,.b (decide ((left-(xs.length:Int))<0)))] (ie (ac (decide ((left-(xs.length:Int))<0)) dq (fun hc1=>?_) (fun hc1=>?_)))))))))))))))
 ·refine ar (ir 1 [(4,.i (-1))] (ie ?_))
  exact at_ (r2 [] [.i (-1)] ⟨rfl,rfl⟩ (li (by rw [szL,if_pos om])))
 refine ak (ar (ir 2 [(4,.i (left-(xs.length:Int)))] (ie ?_)))
 exact at_ (r2 [] [.i (left-(xs.length:Int))] ⟨rfl,rfl⟩ (li (by rw [szL,if_neg om])))
theorem Zkv (c:Con) (left:Int) (hlf:0≤left∧left≤1048576:=by exact ob) (hl:conC c≤9223372036854775807:=by exact ob):Z3 Tryz.prog 140 [aCon c,.i left] [] (fun r h=>r=.i (szL (conC c) left)∧h=[]):=by
 have hl2:=hl
 unfold conC at hl2
 refine enter Tryz.func140 kr (n:=12) kr kr (ar (iA (lCon c) ?_))
 intro b1
 refine ir 1 [(1,.i left),(2,.p b1 0)] (ie (ar (iR 3 [(6,nInt c.fields),(7,.i left)] [0] [b1] (ic [] (Z69 c.fields left) ?_))))
 rintro _ _ ⟨rfl,rfl⟩
 refine ir 1 [(1,.i (szL c.fields.length left))] (ie (aq (ar (ir 2 [(1,.i (szL c.fields.length left)),(10,.b (decide ((szL c.fields.length left)<0)))] (ie (ac (decide ((szL c.fields.length left)<0)) dq (fun hc1=>?_) (fun hc1=>?_)))))))
 ·refine ar (ir 1 [(4,.i (-1))] (ie ?_))
  exact at_ (r2 [] [.i (-1)] ⟨rfl,rfl⟩ (li (by rw [conC];unfold szL at *;split at hc1<;>omega)))
 refine ak (ar (ir 2 [(4,.i (szL c.fields.length left))] (ie ?_)))
 exact at_ (r2 [] [.i (szL c.fields.length left)] ⟨rfl,rfl⟩ (li rfl))
theorem Zig (cs:List Con) (left:Int) (hlf:0≤left∧left≤1048576:=by exact ob) (hl:Z6c cs≤9223372036854775807:=by exact ob):Z3 Tryz.prog 94 [nCon cs,.i left] [] (fun r h=>r=.i (szL (Z6c cs) left)∧h=[]):=by
 have hl2:=hl
 unfold Z6c at hl2
 refine enter Tryz.func94 kr (n:=27) kr kr (ar (ir 1 [(0,nCon cs),(1,.i left)] (ie (ar (ir 2 [(0,nCon cs),(6,.i left),(7,nCon cs)] (iw (Z0k cs) (ia ((left-(cs.length:Int))) ((left)-((cs.length:Int))) (ir 1 [(0,nCon cs),(1,.i (left-(cs.length:Int)))] (ie (aq (ar (ir 2 [(0,nCon cs),(1,.i (left-(cs.length:Int))),(11,.b (decide ((left-(cs.length:Int))<0)))] (ie (ac (decide ((left-(cs.length:Int))<0)) dq (fun hc1=>?_) (fun hc1=>?_)))))))))))))))
 ·refine ar (ir 1 [(4,.i (-1))] (ie ?_))
  exact at_ (r2 [] [.i (-1)] ⟨rfl,rfl⟩ (li (by rw [Z6c];exact Zdm hc1)))
 refine ak (aq (ar (ir 1 [(0,nCon cs),(1,.i (left-(cs.length:Int))),(5,.i 0)] (ie (ab 0 (al (fun m F h=>∃(k:Nat) (lf:Int),(k≤cs.length)∧(0≤lf∧lf≤1048576)∧(szL (Za1 (cs.drop k)) lf=szL (Z6c cs) left)∧F=[(0,nCon cs),(1,.i lf),(5,.i k)]∧h=[]∧m=cs.length-k) _ _ _ ⟨0,(left-(cs.length:Int)),ob,om,(by rw [List.drop_zero,Z6c];exact Zab hc1),rfl,rfl,rfl⟩ (wk [] (fw (fc (x:=.i 0) li fl))) ?_))))))
 rintro m F h ⟨k,lf,c0_0,c0_1,c0_2,rfl,rfl,rfl⟩
 refine aq (ar (ir 2 [(0,nCon cs),(1,.i lf),(5,.i k),(12,.i k),(13,nCon cs)] (iw (Z0k cs) (ir 1 [(0,nCon cs),(1,.i lf),(5,.i k),(15,.b (decide ((k:Int)<(cs.length:Int))))] (ie (ac (decide ((k:Int)<(cs.length:Int))) dq (fun hc2=>?_) (fun hc2=>?_)))))))
 ·refine ak (aq (ab 1 (ar (ir 2 [(0,nCon cs),(1,.i lf),(5,.i k),(18,nCon cs),(19,.i k)] ?_))))
  obtain ⟨x1,hx1⟩:=Z6 (xs:=cs) (j:=k) om
  have hcl:=Zkf hx1
  have hle:=Zdk (c:=conC x1) c0_1.1
  refine is_ (Z0 (es:=Z37 cs) (hv:=none) (j:=(k:Int)) (sz:=1) (y:=aCon x1) kr om (Z4g hx1) rfl) (ir 2 [(0,nCon cs),(5,.i k),(21,aCon x1),(22,.i lf)] (ic [] (Zkv x1 lf) ?_))
  rintro _ _ ⟨rfl,rfl⟩
  refine ir 1 [(0,nCon cs),(1,.i (szL (conC x1) lf)),(5,.i k)] (ie (ar (ir 2 [(0,nCon cs),(1,.i (szL (conC x1) lf)),(5,.i k),(25,.b (decide ((szL (conC x1) lf)<0)))] (ie (ac (decide ((szL (conC x1) lf)<0)) dq (fun hc3=>?_) (fun hc3=>?_))))))
  ·refine ar (ir 1 [(4,.i (-1))] (ie ?_))
   exact at_ (r2 [] [.i (-1)] ⟨rfl,rfl⟩ (li (Zhz (Zj2 hx1) hc3 c0_2)))
  refine ak (az (ir 1 [(0,nCon cs),(1,.i (szL (conC x1) lf)),(16,.i k)] (ia (((k+1:Nat):Int)) (((k:Int))+(1)) (ir 1 [(0,nCon cs),(1,.i (szL (conC x1) lf)),(5,.i (k+1:Nat))] (ie ?_)))))
  exact ⟨_,_,_,ob,⟨k+1,(szL (conC x1) lf),ob,om,(Zdl (left:=0) (Zj2 hx1) hc3 c0_2),rfl,rfl,rfl⟩,(wk [] (fw (fc (x:=.i (k+1:Nat)) li fl)))⟩
 refine ax 0 (ar (ir 2 [(4,.i lf)] (ie ?_)))
 exact at_ (r2 [] [.i lf] ⟨rfl,rfl⟩ (li (Zdj (Zvf om) c0_1.1 c0_2)))
theorem Zih (d:Decl) (left:Int) (hlf:0≤left∧left≤1048576:=by exact ob) (hl:Z5h d≤9223372036854775807:=by exact ob):Z3 Tryz.prog 45 [Z2s d,.i left] [] (fun r h=>r=.i (szL (Z5h d) left)∧h=[]):=by
 have hl2:=hl
 unfold Z5h at hl2
 refine enter Tryz.func45 kr (n:=12) kr kr (ar (iA (Z2g d) ?_))
 intro b1
 refine ir 1 [(1,.i left),(2,.p b1 0)] (ie (ar (iR 3 [(6,nCon d.cons),(7,.i left)] [0] [b1] (ic [] (Zig d.cons left) ?_))))
 rintro _ _ ⟨rfl,rfl⟩
 refine ir 1 [(1,.i (szL (Z6c d.cons) left))] (ie (aq (ar (ir 2 [(1,.i (szL (Z6c d.cons) left)),(10,.b (decide ((szL (Z6c d.cons) left)<0)))] (ie (ac (decide ((szL (Z6c d.cons) left)<0)) dq (fun hc1=>?_) (fun hc1=>?_)))))))
 ·refine ar (ir 1 [(4,.i (-1))] (ie ?_))
  exact at_ (r2 [] [.i (-1)] ⟨rfl,rfl⟩ (li (by rw [Z5h];unfold szL at *;split at hc1<;>omega)))
 refine ak (ar (ir 2 [(4,.i (szL (Z6c d.cons) left))] (ie ?_)))
 exact at_ (r2 [] [.i (szL (Z6c d.cons) left)] ⟨rfl,rfl⟩ (li rfl))
theorem Zh7 (cs:List Decl) (left:Int) (hlf:0≤left∧left≤1048576:=by exact ob) (hl:Z2x cs≤9223372036854775807:=by exact ob):Z3 Tryz.prog 17 [Z2 cs,.i left] [] (fun r h=>r=.i (szL (Z2x cs) left)∧h=[]):=by
 have hl2:=hl
 unfold Z2x at hl2
 refine enter Tryz.func17 kr (n:=27) kr kr (ar (ir 1 [(0,Z2 cs),(1,.i left)] (ie (ar (ir 2 [(0,Z2 cs),(6,.i left),(7,Z2 cs)] (iw (Z0c cs) (ia ((left-(cs.length:Int))) ((left)-((cs.length:Int))) (ir 1 [(0,Z2 cs),(1,.i (left-(cs.length:Int)))] (ie (aq (ar (ir 2 [(0,Z2 cs),(1,.i (left-(cs.length:Int))),(11,.b (decide ((left-(cs.length:Int))<0)))] (ie (ac (decide ((left-(cs.length:Int))<0)) dq (fun hc1=>?_) (fun hc1=>?_)))))))))))))))
 ·refine ar (ir 1 [(4,.i (-1))] (ie ?_))
  exact at_ (r2 [] [.i (-1)] ⟨rfl,rfl⟩ (li (by rw [Z2x];exact Zdm hc1)))
 refine ak (aq (ar (ir 1 [(0,Z2 cs),(1,.i (left-(cs.length:Int))),(5,.i 0)] (ie (ab 0 (al (fun m F h=>∃(k:Nat) (lf:Int),(k≤cs.length)∧(0≤lf∧lf≤1048576)∧(szL (Z7h (cs.drop k)) lf=szL (Z2x cs) left)∧F=[(0,Z2 cs),(1,.i lf),(5,.i k)]∧h=[]∧m=cs.length-k) _ _ _ ⟨0,(left-(cs.length:Int)),ob,om,(by rw [List.drop_zero,Z2x];exact Zab hc1),rfl,rfl,rfl⟩ (wk [] (fw (fc (x:=.i 0) li fl))) ?_))))))
 rintro m F h ⟨k,lf,c0_0,c0_1,c0_2,rfl,rfl,rfl⟩
 refine aq (ar (ir 2 [(0,Z2 cs),(1,.i lf),(5,.i k),(12,.i k),(13,Z2 cs)] (iw (Z0c cs) (ir 1 [(0,Z2 cs),(1,.i lf),(5,.i k),(15,.b (decide ((k:Int)<(cs.length:Int))))] (ie (ac (decide ((k:Int)<(cs.length:Int))) dq (fun hc2=>?_) (fun hc2=>?_)))))))
 ·refine ak (aq (ab 1 (ar (ir 2 [(0,Z2 cs),(1,.i lf),(5,.i k),(18,Z2 cs),(19,.i k)] ?_))))
  obtain ⟨x1,hx1⟩:=Z6 (xs:=cs) (j:=k) om
  have hcl:=Zft hx1
  have hle:=Zdk (c:=Z5h x1) c0_1.1
  refine is_ (Z0 (es:=Z0i cs) (hv:=none) (j:=(k:Int)) (sz:=3) (y:=Z2s x1) kr om (Z0z hx1) rfl) (ir 2 [(0,Z2 cs),(5,.i k),(21,Z2s x1),(22,.i lf)] (ic [] (Zih x1 lf) ?_))
  rintro _ _ ⟨rfl,rfl⟩
  refine ir 1 [(0,Z2 cs),(1,.i (szL (Z5h x1) lf)),(5,.i k)] (ie (ar (ir 2 [(0,Z2 cs),(1,.i (szL (Z5h x1) lf)),(5,.i k),(25,.b (decide ((szL (Z5h x1) lf)<0)))] (ie (ac (decide ((szL (Z5h x1) lf)<0)) dq (fun hc3=>?_) (fun hc3=>?_))))))
  ·refine ar (ir 1 [(4,.i (-1))] (ie ?_))
   exact at_ (r2 [] [.i (-1)] ⟨rfl,rfl⟩ (li (Zhz (Zgo hx1) hc3 c0_2)))
  refine ak (az (ir 1 [(0,Z2 cs),(1,.i (szL (Z5h x1) lf)),(16,.i k)] (ia (((k+1:Nat):Int)) (((k:Int))+(1)) (ir 1 [(0,Z2 cs),(1,.i (szL (Z5h x1) lf)),(5,.i (k+1:Nat))] (ie ?_)))))
  exact ⟨_,_,_,ob,⟨k+1,(szL (Z5h x1) lf),ob,om,(Zdl (left:=0) (Zgo hx1) hc3 c0_2),rfl,rfl,rfl⟩,(wk [] (fw (fc (x:=.i (k+1:Nat)) li fl)))⟩
 refine ax 0 (ar (ir 2 [(4,.i lf)] (ie ?_)))
 exact at_ (r2 [] [.i lf] ⟨rfl,rfl⟩ (li (Zdj (Zsm om) c0_1.1 c0_2)))
theorem Zyx (z:Nat) (cs:List Block) (left:Int) (hlf:0≤left∧left≤1048576:=by exact ob) (hl:bcsC cs≤9223372036854775807:=by exact ob) (hz:bsz cs≤z:=by exact ob) (ih:∀(b2:Block) (left:Int),(b2.sz≤z)→(0≤left∧left≤1048576)→(b2.cst≤9223372036854775807)→Z3 Tryz.prog 96 [Za b2,.i left] [] (fun r h=>r=.i (szL b2.cst left)∧h=[])):Z3 Tryz.prog 206 [Zv cs,.i left] [] (fun r h=>r=.i (szL (bcsC cs) left)∧h=[]):=by
 have hl2:=hl
 unfold bcsC at hl2
 refine enter Tryz.func206 kr (n:=27) kr kr (ar (ir 1 [(0,Zv cs),(1,.i left)] (ie (ar (ir 2 [(0,Zv cs),(6,.i left),(7,Zv cs)] (iw (Z0f cs) (ia ((left-(cs.length:Int))) ((left)-((cs.length:Int))) (ir 1 [(0,Zv cs),(1,.i (left-(cs.length:Int)))] (ie (aq (ar (ir 2 [(0,Zv cs),(1,.i (left-(cs.length:Int))),(11,.b (decide ((left-(cs.length:Int))<0)))] (ie (ac (decide ((left-(cs.length:Int))<0)) dq (fun hc1=>?_) (fun hc1=>?_)))))))))))))))
 ·refine ar (ir 1 [(4,.i (-1))] (ie ?_))
  exact at_ (r2 [] [.i (-1)] ⟨rfl,rfl⟩ (li (by rw [bcsC];exact Zdm hc1)))
 refine ak (aq (ar (ir 1 [(0,Zv cs),(1,.i (left-(cs.length:Int))),(5,.i 0)] (ie (ab 0 (al (fun m F h=>∃(k:Nat) (lf:Int),(k≤cs.length)∧(0≤lf∧lf≤1048576)∧(szL (bcs (cs.drop k)) lf=szL (bcsC cs) left)∧F=[(0,Zv cs),(1,.i lf),(5,.i k)]∧h=[]∧m=cs.length-k) _ _ _ ⟨0,(left-(cs.length:Int)),ob,om,(by rw [List.drop_zero,bcsC];exact Zab hc1),rfl,rfl,rfl⟩ (wk [] (fw (fc (x:=.i 0) li fl))) ?_))))))
 rintro m F h ⟨k,lf,c0_0,c0_1,c0_2,rfl,rfl,rfl⟩
 refine aq (ar (ir 2 [(0,Zv cs),(1,.i lf),(5,.i k),(12,.i k),(13,Zv cs)] (iw (Z0f cs) (ir 1 [(0,Zv cs),(1,.i lf),(5,.i k),(15,.b (decide ((k:Int)<(cs.length:Int))))] (ie (ac (decide ((k:Int)<(cs.length:Int))) dq (fun hc2=>?_) (fun hc2=>?_)))))))
 ·refine ak (aq (ab 1 (ar (ir 2 [(0,Zv cs),(1,.i lf),(5,.i k),(18,Zv cs),(19,.i k)] ?_))))
  obtain ⟨x1,hx1⟩:=Z6 (xs:=cs) (j:=k) om
  have hcl:=Zoy hx1
  have hsz:=Zma hx1
  have hle:=Zdk (c:=x1.cst) c0_1.1
  refine is_ (Z0 (es:=Z19 cs) (hv:=none) (j:=(k:Int)) (sz:=2) (y:=Za x1) kr om (Z1q hx1) rfl) (ir 2 [(0,Zv cs),(5,.i k),(21,Za x1),(22,.i lf)] (ic [] (ih x1 lf ob ob ob) ?_))
  rintro _ _ ⟨rfl,rfl⟩
  refine ir 1 [(0,Zv cs),(1,.i (szL x1.cst lf)),(5,.i k)] (ie (ar (ir 2 [(0,Zv cs),(1,.i (szL x1.cst lf)),(5,.i k),(25,.b (decide ((szL x1.cst lf)<0)))] (ie (ac (decide ((szL x1.cst lf)<0)) dq (fun hc3=>?_) (fun hc3=>?_))))))
  ·refine ar (ir 1 [(4,.i (-1))] (ie ?_))
   exact at_ (r2 [] [.i (-1)] ⟨rfl,rfl⟩ (li (Zhz (Zqk hx1) hc3 c0_2)))
  refine ak (az (ir 1 [(0,Zv cs),(1,.i (szL x1.cst lf)),(16,.i k)] (ia (((k+1:Nat):Int)) (((k:Int))+(1)) (ir 1 [(0,Zv cs),(1,.i (szL x1.cst lf)),(5,.i (k+1:Nat))] (ie ?_)))))
  exact ⟨_,_,_,ob,⟨k+1,(szL x1.cst lf),ob,om,(Zdl (left:=0) (Zqk hx1) hc3 c0_2),rfl,rfl,rfl⟩,(wk [] (fw (fc (x:=.i (k+1:Nat)) li fl)))⟩
 refine ax 0 (ar (ir 2 [(4,.i lf)] (ie ?_)))
 exact at_ (r2 [] [.i lf] ⟨rfl,rfl⟩ (li (Zdj (Z02s om) c0_1.1 c0_2)))
theorem Z04u (z:Nat) (s:Step) (left:Int) (hlf:0≤left∧left≤1048576:=by exact ob) (hl:s.cst≤9223372036854775807:=by exact ob) (hz:s.sz≤z+1:=by exact ob) (ih:∀(b2:Block) (left:Int),(b2.sz≤z)→(0≤left∧left≤1048576)→(b2.cst≤9223372036854775807)→Z3 Tryz.prog 96 [Za b2,.i left] [] (fun r h=>r=.i (szL b2.cst left)∧h=[])):Z3 Tryz.prog 179 [Z0g s,.i left] [] (fun r h=>r=.i (szL s.cst left)∧h=[]):=by
 have hse:=s.sz_eq
 have hce:=s.cst_eq
 have hle:=Zdk (c:=s.args.length) hlf.1
 have hbc:bcsC s.kids=s.kids.length+bcs s.kids:=rfl
 refine enter Tryz.func179 kr (n:=18) kr kr (ar (iA (Z02 s) ?_))
 intro b1
 refine ir 1 [(1,.i left),(2,.p b1 0)] (ie (ar (iR 3 [(2,.p b1 0),(6,nInt s.args),(7,.i left)] [0] [b1] (ic [] (Z69 s.args left) ?_))))
 rintro _ _ ⟨rfl,rfl⟩
 refine ir 1 [(1,.i (szL s.args.length left)),(2,.p b1 0)] (ie (aq (ar (ir 2 [(1,.i (szL s.args.length left)),(2,.p b1 0),(10,.b (decide ((szL s.args.length left)<0)))] (ie (ac (decide ((szL s.args.length left)<0)) dq (fun hc1=>?_) (fun hc1=>?_)))))))
 ·refine ar (ir 1 [(4,.i (-1))] (ie ?_))
  exact at_ (r2 [] [.i (-1)] ⟨rfl,rfl⟩ (li (by rw [hce,Zi0 hc1])))
 refine ak (ar (iR 3 [(12,Zv s.kids),(13,.i (szL s.args.length left))] [0] [b1] (ic [] (Zyx z s.kids (szL s.args.length left) (ih:=ih)) ?_)))
 rintro _ _ ⟨rfl,rfl⟩
 refine ir 1 [(1,.i (szL (bcsC s.kids) (szL s.args.length left)))] (ie (aq (ar (ir 2 [(1,.i (szL (bcsC s.kids) (szL s.args.length left))),(16,.b (decide ((szL (bcsC s.kids) (szL s.args.length left))<0)))] (ie (ac (decide ((szL (bcsC s.kids) (szL s.args.length left))<0)) dq (fun hc2=>?_) (fun hc2=>?_)))))))
 ·refine ar (ir 1 [(4,.i (-1))] (ie ?_))
  exact at_ (r2 [] [.i (-1)] ⟨rfl,rfl⟩ (li (by have h:=Zhy (a:=s.args.length) (b:=bcsC s.kids) (left:=left) om;rw [hce,←hbc,←h];unfold szL at *;split at hc2<;>omega)))
 refine ak (ar (ir 2 [(4,.i (szL (bcsC s.kids) (szL s.args.length left)))] (ie ?_)))
 exact at_ (r2 [] [.i (szL (bcsC s.kids) (szL s.args.length left))] ⟨rfl,rfl⟩ (li (by have h:=Zhy (a:=s.args.length) (b:=bcsC s.kids) (left:=left) om;rw [hce,←hbc,←h])))
theorem Z01j (z:Nat) (cs:List Step) (left:Int) (hlf:0≤left∧left≤1048576:=by exact ob) (hl:scsC cs≤9223372036854775807:=by exact ob) (hz:ssz cs≤z+1:=by exact ob) (ih:∀(b2:Block) (left:Int),(b2.sz≤z)→(0≤left∧left≤1048576)→(b2.cst≤9223372036854775807)→Z3 Tryz.prog 96 [Za b2,.i left] [] (fun r h=>r=.i (szL b2.cst left)∧h=[])):Z3 Tryz.prog 141 [Z0b cs,.i left] [] (fun r h=>r=.i (szL (scsC cs) left)∧h=[]):=by
 have hl2:=hl
 unfold scsC at hl2
 refine enter Tryz.func141 kr (n:=27) kr kr (ar (ir 1 [(0,Z0b cs),(1,.i left)] (ie (ar (ir 2 [(0,Z0b cs),(6,.i left),(7,Z0b cs)] (iw (Z0l cs) (ia ((left-(cs.length:Int))) ((left)-((cs.length:Int))) (ir 1 [(0,Z0b cs),(1,.i (left-(cs.length:Int)))] (ie (aq (ar (ir 2 [(0,Z0b cs),(1,.i (left-(cs.length:Int))),(11,.b (decide ((left-(cs.length:Int))<0)))] (ie (ac (decide ((left-(cs.length:Int))<0)) dq (fun hc1=>?_) (fun hc1=>?_)))))))))))))))
 ·refine ar (ir 1 [(4,.i (-1))] (ie ?_))
  exact at_ (r2 [] [.i (-1)] ⟨rfl,rfl⟩ (li (by rw [scsC];exact Zdm hc1)))
 refine ak (aq (ar (ir 1 [(0,Z0b cs),(1,.i (left-(cs.length:Int))),(5,.i 0)] (ie (ab 0 (al (fun m F h=>∃(k:Nat) (lf:Int),(k≤cs.length)∧(0≤lf∧lf≤1048576)∧(szL (scs (cs.drop k)) lf=szL (scsC cs) left)∧F=[(0,Z0b cs),(1,.i lf),(5,.i k)]∧h=[]∧m=cs.length-k) _ _ _ ⟨0,(left-(cs.length:Int)),ob,om,(by rw [List.drop_zero,scsC];exact Zab hc1),rfl,rfl,rfl⟩ (wk [] (fw (fc (x:=.i 0) li fl))) ?_))))))
 rintro m F h ⟨k,lf,c0_0,c0_1,c0_2,rfl,rfl,rfl⟩
 refine aq (ar (ir 2 [(0,Z0b cs),(1,.i lf),(5,.i k),(12,.i k),(13,Z0b cs)] (iw (Z0l cs) (ir 1 [(0,Z0b cs),(1,.i lf),(5,.i k),(15,.b (decide ((k:Int)<(cs.length:Int))))] (ie (ac (decide ((k:Int)<(cs.length:Int))) dq (fun hc2=>?_) (fun hc2=>?_)))))))
 ·refine ak (aq (ab 1 (ar (ir 2 [(0,Z0b cs),(1,.i lf),(5,.i k),(18,Z0b cs),(19,.i k)] ?_))))
  obtain ⟨x1,hx1⟩:=Z6 (xs:=cs) (j:=k) om
  have hcl:=Zq0 hx1
  have hsz:=Zo4 hx1
  have hle:=Zdk (c:=x1.cst) c0_1.1
  refine is_ (Z0 (es:=Zo cs) (hv:=none) (j:=(k:Int)) (sz:=5) (y:=Z0g x1) kr om (Z0y hx1) rfl) (ir 2 [(0,Z0b cs),(5,.i k),(21,Z0g x1),(22,.i lf)] (ic [] (Z04u z x1 lf (ih:=ih)) ?_))
  rintro _ _ ⟨rfl,rfl⟩
  refine ir 1 [(0,Z0b cs),(1,.i (szL x1.cst lf)),(5,.i k)] (ie (ar (ir 2 [(0,Z0b cs),(1,.i (szL x1.cst lf)),(5,.i k),(25,.b (decide ((szL x1.cst lf)<0)))] (ie (ac (decide ((szL x1.cst lf)<0)) dq (fun hc3=>?_) (fun hc3=>?_))))))
  ·refine ar (ir 1 [(4,.i (-1))] (ie ?_))
   exact at_ (r2 [] [.i (-1)] ⟨rfl,rfl⟩ (li (Zhz (Zrr hx1) hc3 c0_2)))
  refine ak (az (ir 1 [(0,Z0b cs),(1,.i (szL x1.cst lf)),(16,.i k)] (ia (((k+1:Nat):Int)) (((k:Int))+(1)) (ir 1 [(0,Z0b cs),(1,.i (szL x1.cst lf)),(5,.i (k+1:Nat))] (ie ?_)))))
  exact ⟨_,_,_,ob,⟨k+1,(szL x1.cst lf),ob,om,(Zdl (left:=0) (Zrr hx1) hc3 c0_2),rfl,rfl,rfl⟩,(wk [] (fw (fc (x:=.i (k+1:Nat)) li fl)))⟩
 refine ax 0 (ar (ir 2 [(4,.i lf)] (ie ?_)))
 exact at_ (r2 [] [.i lf] ⟨rfl,rfl⟩ (li (Zdj (Z04f om) c0_1.1 c0_2)))
theorem Zyw (z:Nat) (b:Block) (left:Int) (hlf:0≤left∧left≤1048576:=by exact ob) (hl:b.cst≤9223372036854775807:=by exact ob) (hz:b.sz≤z+1:=by exact ob) (ih:∀(b2:Block) (left:Int),(b2.sz≤z)→(0≤left∧left≤1048576)→(b2.cst≤9223372036854775807)→Z3 Tryz.prog 96 [Za b2,.i left] [] (fun r h=>r=.i (szL b2.cst left)∧h=[])):Z3 Tryz.prog 96 [Za b,.i left] [] (fun r h=>r=.i (szL b.cst left)∧h=[]):=by
 have hse:=b.sz_eq
 have hce:=b.cst_eq
 have hbc:scsC b.steps=b.steps.length+scs b.steps:=rfl
 refine enter Tryz.func96 kr (n:=12) kr kr (ar (iA (Z03 b) ?_))
 intro b1
 refine ir 1 [(1,.i left),(2,.p b1 0)] (ie (ar (iR 3 [(6,Z0b b.steps),(7,.i left)] [0] [b1] (ic [] (Z01j z b.steps left (ih:=ih)) ?_))))
 rintro _ _ ⟨rfl,rfl⟩
 refine ir 1 [(1,.i (szL (scsC b.steps) left))] (ie (aq (ar (ir 2 [(1,.i (szL (scsC b.steps) left)),(10,.b (decide ((szL (scsC b.steps) left)<0)))] (ie (ac (decide ((szL (scsC b.steps) left)<0)) dq (fun hc1=>?_) (fun hc1=>?_)))))))
 ·refine ar (ir 1 [(4,.i (-1))] (ie ?_))
  exact at_ (r2 [] [.i (-1)] ⟨rfl,rfl⟩ (li (by rw [hce,←hbc];unfold szL at *;split at hc1<;>omega)))
 refine ak (ar (ir 2 [(4,.i (szL (scsC b.steps) left))] (ie ?_)))
 exact at_ (r2 [] [.i (szL (scsC b.steps) left)] ⟨rfl,rfl⟩ (li (by rw [hce,←hbc])))
theorem Zo9 (m:Nat):∀(b2:Block) (left:Int),(b2.sz≤m)→(0≤left∧left≤1048576)→(b2.cst≤9223372036854775807)→Z3 Tryz.prog 96 [Za b2,.i left] [] (fun r h=>r=.i (szL b2.cst left)∧h=[]):=by
 induction m with
 | zero=>intro b left h;have:=b.sz_pos;omega
 | succ m ih=>intro b left h1 h2 h3;exact Zyw m b left h2 h3 h1 ih
theorem Z01i (b2:Block) (left:Int) (hlf:0≤left∧left≤1048576) (hl:b2.cst≤9223372036854775807):Z3 Tryz.prog 96 [Za b2,.i left] [] (fun r h=>r=.i (szL b2.cst left)∧h=[]):=
 Zo9 b2.sz b2 left (Nat.le_refl _) hlf hl
theorem Ze9 (rt:Routine) (left:Int) (hlf:0≤left∧left≤1048576:=by exact ob) (hl:rtC rt≤9223372036854775807:=by exact ob):Z3 Tryz.prog 46 [Z0s rt,.i left] [] (fun r h=>r=.i (szL (rtC rt) left)∧h=[]):=by
 have hl2:=hl
 unfold rtC at hl2
 have hle:=Zdk (c:=rt.params.length) hlf.1
 refine enter Tryz.func46 kr (n:=24) kr kr (ar (iA (Z1s rt) ?_))
 intro b1
 refine ir 1 [(1,.i left),(2,.p b1 0)] (ie (ar (iR 3 [(2,.p b1 0),(6,nInt rt.params),(7,.i left)] [0] [b1] (ic [] (Z69 rt.params left) ?_))))
 rintro _ _ ⟨rfl,rfl⟩
 refine ir 1 [(1,.i (szL rt.params.length left)),(2,.p b1 0)] (ie (aq (ar (ir 2 [(1,.i (szL rt.params.length left)),(2,.p b1 0),(10,.b (decide ((szL rt.params.length left)<0)))] (ie (ac (decide ((szL rt.params.length left)<0)) dq (fun hc1=>?_) (fun hc1=>?_)))))))
 ·refine ar (ir 1 [(4,.i (-1))] (ie ?_))
  exact at_ (r2 [] [.i (-1)] ⟨rfl,rfl⟩ (li (by rw [rtC,Zi0 hc1])))
 have h1:=Zq5 (b:=rt.lent.length) hc1
 have hle2:=Zdk (c:=rt.params.length+rt.lent.length) hlf.1
 refine ak (ar (iR 3 [(2,.p b1 0),(12,nInt rt.lent),(13,.i (szL rt.params.length left))] [0] [b1] (ic [] (Z69 rt.lent (szL rt.params.length left)) ?_)))
 rintro _ _ ⟨rfl,rfl⟩
 refine ir 1 [(1,.i (szL rt.lent.length (szL rt.params.length left))),(2,.p b1 0)] (ie (aq (ar (ir 2 [(1,.i (szL rt.lent.length (szL rt.params.length left))),(2,.p b1 0),(16,.b (decide ((szL rt.lent.length (szL rt.params.length left))<0)))] (ie (ac (decide ((szL rt.lent.length (szL rt.params.length left))<0)) dq (fun hc2=>?_) (fun hc2=>?_)))))))
 ·refine ar (ir 1 [(4,.i (-1))] (ie ?_))
  exact at_ (r2 [] [.i (-1)] ⟨rfl,rfl⟩ (li (by rw [h1] at hc2;rw [rtC,←Nat.add_assoc,Zi0 hc2])))
 have h2:=Zq5 (b:=rt.body.cst) (a:=rt.params.length+rt.lent.length) (left:=left) (by rw [←h1];exact hc2)
 refine ak (ar (iR 3 [(18,Za rt.body),(19,.i (szL rt.lent.length (szL rt.params.length left)))] [0] [b1] (ic [] (Z01i rt.body (szL rt.lent.length (szL rt.params.length left)) ob ob) ?_)))
 rintro _ _ ⟨rfl,rfl⟩
 refine ir 1 [(1,.i (szL rt.body.cst (szL rt.lent.length (szL rt.params.length left))))] (ie (aq (ar (ir 2 [(1,.i (szL rt.body.cst (szL rt.lent.length (szL rt.params.length left)))),(22,.b (decide ((szL rt.body.cst (szL rt.lent.length (szL rt.params.length left)))<0)))] (ie (ac (decide ((szL rt.body.cst (szL rt.lent.length (szL rt.params.length left)))<0)) dq (fun hc3=>?_) (fun hc3=>?_)))))))
 ·refine ar (ir 1 [(4,.i (-1))] (ie ?_))
  exact at_ (r2 [] [.i (-1)] ⟨rfl,rfl⟩ (li (by rw [h1,h2] at hc3;rw [rtC,←Nat.add_assoc];exact Zyv hc3)))
 refine ak (ar (ir 2 [(4,.i (szL rt.body.cst (szL rt.lent.length (szL rt.params.length left))))] (ie ?_)))
 exact at_ (r2 [] [.i (szL rt.body.cst (szL rt.lent.length (szL rt.params.length left)))] ⟨rfl,rfl⟩ (li (by rw [h1,h2,rtC,←Nat.add_assoc])))
theorem Zcu (cs:List Routine) (left:Int) (hlf:0≤left∧left≤1048576:=by exact ob) (hl:rtsC cs≤9223372036854775807:=by exact ob):Z3 Tryz.prog 18 [nRoutine cs,.i left] [] (fun r h=>r=.i (szL (rtsC cs) left)∧h=[]):=by
 have hl2:=hl
 unfold rtsC at hl2
 refine enter Tryz.func18 kr (n:=27) kr kr (ar (ir 1 [(0,nRoutine cs),(1,.i left)] (ie (ar (ir 2 [(0,nRoutine cs),(6,.i left),(7,nRoutine cs)] (iw (Z0a cs) (ia ((left-(cs.length:Int))) ((left)-((cs.length:Int))) (ir 1 [(0,nRoutine cs),(1,.i (left-(cs.length:Int)))] (ie (aq (ar (ir 2 [(0,nRoutine cs),(1,.i (left-(cs.length:Int))),(11,.b (decide ((left-(cs.length:Int))<0)))] (ie (ac (decide ((left-(cs.length:Int))<0)) dq (fun hc1=>?_) (fun hc1=>?_)))))))))))))))
 ·refine ar (ir 1 [(4,.i (-1))] (ie ?_))
  exact at_ (r2 [] [.i (-1)] ⟨rfl,rfl⟩ (li (by rw [rtsC];exact Zdm hc1)))
 refine ak (aq (ar (ir 1 [(0,nRoutine cs),(1,.i (left-(cs.length:Int))),(5,.i 0)] (ie (ab 0 (al (fun m F h=>∃(k:Nat) (lf:Int),(k≤cs.length)∧(0≤lf∧lf≤1048576)∧(szL (rtsS (cs.drop k)) lf=szL (rtsC cs) left)∧F=[(0,nRoutine cs),(1,.i lf),(5,.i k)]∧h=[]∧m=cs.length-k) _ _ _ ⟨0,(left-(cs.length:Int)),ob,om,(by rw [List.drop_zero,rtsC];exact Zab hc1),rfl,rfl,rfl⟩ (wk [] (fw (fc (x:=.i 0) li fl))) ?_))))))
 rintro m F h ⟨k,lf,c0_0,c0_1,c0_2,rfl,rfl,rfl⟩
 refine aq (ar (ir 2 [(0,nRoutine cs),(1,.i lf),(5,.i k),(12,.i k),(13,nRoutine cs)] (iw (Z0a cs) (ir 1 [(0,nRoutine cs),(1,.i lf),(5,.i k),(15,.b (decide ((k:Int)<(cs.length:Int))))] (ie (ac (decide ((k:Int)<(cs.length:Int))) dq (fun hc2=>?_) (fun hc2=>?_)))))))
 ·refine ak (aq (ab 1 (ar (ir 2 [(0,nRoutine cs),(1,.i lf),(5,.i k),(18,nRoutine cs),(19,.i k)] ?_))))
  obtain ⟨x1,hx1⟩:=Z6 (xs:=cs) (j:=k) om
  have hcl:=Zrn hx1
  have hle:=Zdk (c:=rtC x1) c0_1.1
  refine is_ (Z0 (es:=Z0p cs) (hv:=none) (j:=(k:Int)) (sz:=5) (y:=Z0s x1) kr om (Z0v hx1) rfl) (ir 2 [(0,nRoutine cs),(5,.i k),(21,Z0s x1),(22,.i lf)] (ic [] (Ze9 x1 lf) ?_))
  rintro _ _ ⟨rfl,rfl⟩
  refine ir 1 [(0,nRoutine cs),(1,.i (szL (rtC x1) lf)),(5,.i k)] (ie (ar (ir 2 [(0,nRoutine cs),(1,.i (szL (rtC x1) lf)),(5,.i k),(25,.b (decide ((szL (rtC x1) lf)<0)))] (ie (ac (decide ((szL (rtC x1) lf)<0)) dq (fun hc3=>?_) (fun hc3=>?_))))))
  ·refine ar (ir 1 [(4,.i (-1))] (ie ?_))
   exact at_ (r2 [] [.i (-1)] ⟨rfl,rfl⟩ (li (Zhz (Znw hx1) hc3 c0_2)))
  refine ak (az (ir 1 [(0,nRoutine cs),(1,.i (szL (rtC x1) lf)),(16,.i k)] (ia (((k+1:Nat):Int)) (((k:Int))+(1)) (ir 1 [(0,nRoutine cs),(1,.i (szL (rtC x1) lf)),(5,.i (k+1:Nat))] (ie ?_)))))
  exact ⟨_,_,_,ob,⟨k+1,(szL (rtC x1) lf),ob,om,(Zdl (left:=0) (Znw hx1) hc3 c0_2),rfl,rfl,rfl⟩,(wk [] (fw (fc (x:=.i (k+1:Nat)) li fl)))⟩
 refine ax 0 (ar (ir 2 [(4,.i lf)] (ie ?_)))
 exact at_ (r2 [] [.i lf] ⟨rfl,rfl⟩ (li (Zdj (Z014 om) c0_1.1 c0_2)))
theorem Zfj (n:Normal) (left:Int) (hlf:0≤left∧left≤1048576) (hl:Z4l n≤9223372036854775807):Z3 Tryz.prog 6 [Zi n,.i left] [] (fun r h=>r=.i (szL (Z4l n) left)∧h=[]):=by
 have hl2:=hl
 unfold Z4l at hl2
 have hle:=Zdk (c:=Z2x n.decls) hlf.1
 refine enter Tryz.func6 kr (n:=18) kr kr (ar (iA (Zh n) ?_))
 intro b1
 refine ir 1 [(1,.i left),(2,.p b1 0)] (ie (ar (iR 3 [(2,.p b1 0),(6,Z2 n.decls),(7,.i left)] [0] [b1] (ic [] (Zh7 n.decls left) ?_))))
 rintro _ _ ⟨rfl,rfl⟩
 refine ir 1 [(1,.i (szL (Z2x n.decls) left)),(2,.p b1 0)] (ie (aq (ar (ir 2 [(1,.i (szL (Z2x n.decls) left)),(2,.p b1 0),(10,.b (decide ((szL (Z2x n.decls) left)<0)))] (ie (ac (decide ((szL (Z2x n.decls) left)<0)) dq (fun hc1=>?_) (fun hc1=>?_)))))))
 ·refine ar (ir 1 [(4,.i (-1))] (ie ?_))
  exact at_ (r2 [] [.i (-1)] ⟨rfl,rfl⟩ (li (by rw [Z4l,Zi0 hc1])))
 have h1:=Zq5 (b:=rtsC n.routines) hc1
 refine ak (ar (iR 3 [(12,nRoutine n.routines),(13,.i (szL (Z2x n.decls) left))] [0] [b1] (ic [] (Zcu n.routines (szL (Z2x n.decls) left)) ?_)))
 rintro _ _ ⟨rfl,rfl⟩
 refine ir 1 [(1,.i (szL (rtsC n.routines) (szL (Z2x n.decls) left)))] (ie (aq (ar (ir 2 [(1,.i (szL (rtsC n.routines) (szL (Z2x n.decls) left))),(16,.b (decide ((szL (rtsC n.routines) (szL (Z2x n.decls) left))<0)))] (ie (ac (decide ((szL (rtsC n.routines) (szL (Z2x n.decls) left))<0)) dq (fun hc2=>?_) (fun hc2=>?_)))))))
 ·refine ar (ir 1 [(4,.i (-1))] (ie ?_))
  exact at_ (r2 [] [.i (-1)] ⟨rfl,rfl⟩ (li (by rw [h1] at hc2;rw [Z4l];exact Zyv hc2)))
 refine ak (ar (ir 2 [(4,.i (szL (rtsC n.routines) (szL (Z2x n.decls) left)))] (ie ?_)))
 exact at_ (r2 [] [.i (szL (rtsC n.routines) (szL (Z2x n.decls) left))] ⟨rfl,rfl⟩ (li (by rw [h1,Z4l])))
theorem Z68 (cs:List Int) (hl:cs.length≤1000000000:=by exact ob):Z3 Tryz.prog 128 [nInt cs,nInt cs] [] (fun r h=>r=.b true∧h=[]):=by
 refine enter Tryz.func128 kr (n:=26) kr kr (ar (ir 1 [(0,nInt cs),(1,nInt cs)] (ie (aq (ar (irk 1 (.n 6 (nInt cs) .r) (iw (Z4 cs) (irk 1 (.n 8 (nInt cs) .r) (iw (Z4 cs) (irk 1 (.n 10 (.b ((cs.length:Int) != (cs.length:Int))) .r) (ie (ac ((cs.length:Int) != (cs.length:Int)) bne_iff_ne (fun hc1=>?_) (fun hc1=>?_)))))))))))))
 ·refine ar (ir 1 [(4,.b false)] (ie ?_))
  exact at_ (r2 [] [.b false] ⟨rfl,rfl⟩ lb)
 refine ak (aq (ar (irk 1 (.n 5 (.i 0) .r) (ie (ab 0 (al (fun m F h=>∃(k:Nat),(k≤cs.length)∧F=[(0,nInt cs),(1,nInt cs),(5,.i k)]∧h=[]∧m=cs.length-k) _ _ _ ⟨0,ob,rfl,rfl,rfl⟩ (wk [] (fw (fc (x:=.i 0) li fl))) ?_))))))
 rintro m F h ⟨k,c0_0,rfl,rfl,rfl⟩
 refine aq (ar (irk 2 (.n 11 (.i k) (.n 12 (nInt cs) .r)) (iw (Z4 cs) (irk 1 (.n 14 (.b (decide ((k:Int)<(cs.length:Int)))) .r) (ie (ac (decide ((k:Int)<(cs.length:Int))) dq (fun hc2=>?_) (fun hc2=>?_)))))))
 ·refine ak (aq (ab 1 (aD 9 (dtk (fuel:=7) 9 [0,1] (.n 17 (nInt cs) (.n 18 (.i k) .r)) ?_))))
  obtain ⟨x1,hx1⟩:=Z6 (xs:=cs) (j:=k) om
  refine dx 2 (Z0 (es:=Z8 cs) (hv:=none) (j:=(k:Int)) (sz:=1) (y:=.i x1) kr om (Z9 hx1) rfl) (dtk (fuel:=3) 6 [3,4,5] (.n 20 (.i x1) (.n 21 (nInt cs) (.n 22 (.i k) .r))) (dx 6 (Z0 (es:=Z8 cs) (hv:=none) (j:=(k:Int)) (sz:=1) (y:=.i x1) kr om (Z9 hx1) rfl) (dtk (fuel:=0) 2 [7,8] (.n 25 (.b (x1 != x1)) .r) (de (ac (x1 != x1) bne_iff_ne (fun hc3=>?_) (fun hc3=>?_))))))
  ·refine ar (ir 1 [(4,.b false)] (ie ?_))
   exact at_ (r2 [] [.b false] ⟨rfl,rfl⟩ lb)
  refine ak (az (irk 1 (.n 15 (.i k) .r) (ia (((k+1:Nat):Int)) (((k:Int))+(1)) (ir 1 [(0,nInt cs),(1,nInt cs),(5,.i (k+1:Nat))] (ie ?_)))))
  exact ⟨_,_,_,ob,⟨k+1,ob,rfl,rfl,rfl⟩,(wk [] (fw (fc (x:=.i (k+1:Nat)) li fl)))⟩
 refine ax 0 (ar (ir 1 [(4,.b true)] (ie ?_)))
 exact at_ (r1 [] ⟨rfl,rfl⟩)
theorem Zku (c:Con) (hl:conC c≤1000000000:=by exact ob):Z3 Tryz.prog 168 [aCon c,aCon c] [] (fun r h=>r=.b true∧h=[]):=by
 unfold conC at hl
 refine enter Tryz.func168 kr (n:=11) kr kr (ar (iA (lCon c) ?_))
 intro b1
 refine iA (lCon c) ?_
 intro b2
 refine ir 1 [(2,.p b1 0),(3,.p b2 0)] (ie (aq (ar (iR 4 [(6,nInt c.fields),(8,nInt c.fields)] [1,0] [b1,b2] (ic [] (Z68 c.fields) ?_)))))
 rintro _ _ ⟨rfl,rfl⟩
 refine ir 1 [(10,.b false)] (ie (ac0 (ak (ar (ir 1 [(4,.b true)] (ie ?_))))))
 exact at_ (r1 [] ⟨rfl,rfl⟩)
theorem Zie (cs:List Con) (hl:Z6c cs≤1000000000:=by exact ob):Z3 Tryz.prog 127 [nCon cs,nCon cs] [] (fun r h=>r=.b true∧h=[]):=by
 have hl2:=hl
 unfold Z6c at hl2
 refine enter Tryz.func127 kr (n:=27) kr kr (ar (ir 1 [(0,nCon cs),(1,nCon cs)] (ie (aq (ar (irk 1 (.n 6 (nCon cs) .r) (iw (Z0k cs) (irk 1 (.n 8 (nCon cs) .r) (iw (Z0k cs) (irk 1 (.n 10 (.b ((cs.length:Int) != (cs.length:Int))) .r) (ie (ac ((cs.length:Int) != (cs.length:Int)) bne_iff_ne (fun hc1=>?_) (fun hc1=>?_)))))))))))))
 ·refine ar (ir 1 [(4,.b false)] (ie ?_))
  exact at_ (r2 [] [.b false] ⟨rfl,rfl⟩ lb)
 refine ak (aq (ar (irk 1 (.n 5 (.i 0) .r) (ie (ab 0 (al (fun m F h=>∃(k:Nat),(k≤cs.length)∧F=[(0,nCon cs),(1,nCon cs),(5,.i k)]∧h=[]∧m=cs.length-k) _ _ _ ⟨0,ob,rfl,rfl,rfl⟩ (wk [] (fw (fc (x:=.i 0) li fl))) ?_))))))
 rintro m F h ⟨k,c0_0,rfl,rfl,rfl⟩
 refine aq (ar (irk 2 (.n 11 (.i k) (.n 12 (nCon cs) .r)) (iw (Z0k cs) (irk 1 (.n 14 (.b (decide ((k:Int)<(cs.length:Int)))) .r) (ie (ac (decide ((k:Int)<(cs.length:Int))) dq (fun hc2=>?_) (fun hc2=>?_)))))))
 ·refine ak (aq (ab 1 (aD 10 (dtk (fuel:=8) 10 [0,1] (.n 17 (nCon cs) (.n 18 (.i k) .r)) ?_))))
  obtain ⟨x1,hx1⟩:=Z6 (xs:=cs) (j:=k) om
  have hcl:=Zkf hx1
  refine dx 2 (Z0 (es:=Z37 cs) (hv:=none) (j:=(k:Int)) (sz:=1) (y:=aCon x1) kr om (Z4g hx1) rfl) (dtk (fuel:=4) 7 [3,4,5] (.n 20 (aCon x1) (.n 21 (nCon cs) (.n 22 (.i k) .r))) (dx 6 (Z0 (es:=Z37 cs) (hv:=none) (j:=(k:Int)) (sz:=1) (y:=aCon x1) kr om (Z4g hx1) rfl) (dtk (fuel:=2) 3 [7] (.n 24 (aCon x1) .r) (do_ 8 (dc 8 [] [] [] (Zku x1) ?_)))))
  rintro _ _ ⟨rfl,rfl⟩
  refine dtk (fuel:=0) 1 [9] (.n 26 (.b false) .r) (de (ac0 (ak (az (irk 1 (.n 15 (.i k) .r) (ia (((k+1:Nat):Int)) (((k:Int))+(1)) (ir 1 [(0,nCon cs),(1,nCon cs),(5,.i (k+1:Nat))] (ie ?_))))))))
  exact ⟨_,_,_,ob,⟨k+1,ob,rfl,rfl,rfl⟩,(wk [] (fw (fc (x:=.i (k+1:Nat)) li fl)))⟩
 refine ax 0 (ar (ir 1 [(4,.b true)] (ie ?_)))
 exact at_ (r1 [] ⟨rfl,rfl⟩)
theorem Zif (d:Decl) (hl:Z5h d≤1000000000:=by exact ob):Z3 Tryz.prog 69 [Z2s d,Z2s d] [] (fun r h=>r=.b true∧h=[]):=by
 unfold Z5h at hl
 refine enter Tryz.func69 kr (n:=21) kr kr (ar (iA (Z2g d) ?_))
 intro b1
 refine iA (Z2g d) ?_
 intro b2
 refine ir 1 [(2,.p b1 0),(3,.p b2 0)] (ie (aq (ar (irK 5 (.n 9 (.b (d.frm != d.frm)) .r) [1,0] [b1,b2] (ie (ac (d.frm != d.frm) bne_iff_ne (fun hc1=>?_) (fun hc1=>?_)))))))
 ·refine ar (ir 1 [(4,.b false)] (ie ?_))
  exact at_ (r2 [] [.b false] ⟨rfl,rfl⟩ lb)
 refine ak (aq (ar (irK 5 (.n 14 (.b (d.to_ != d.to_)) .r) [1,0] [b1,b2] (ie (ac (d.to_ != d.to_) bne_iff_ne (fun hc2=>?_) (fun hc2=>?_))))))
 ·refine ar (ir 1 [(4,.b false)] (ie ?_))
  exact at_ (r2 [] [.b false] ⟨rfl,rfl⟩ lb)
 refine ak (aq (ar (iR 4 [(16,nCon d.cons),(18,nCon d.cons)] [1,0] [b1,b2] (ic [] (Zie d.cons) ?_))))
 rintro _ _ ⟨rfl,rfl⟩
 refine ir 1 [(20,.b false)] (ie (ac0 (ak (ar (ir 1 [(4,.b true)] (ie ?_))))))
 exact at_ (r1 [] ⟨rfl,rfl⟩)
theorem Zh6 (cs:List Decl) (hl:Z2x cs≤1000000000:=by exact ob):Z3 Tryz.prog 30 [Z2 cs,Z2 cs] [] (fun r h=>r=.b true∧h=[]):=by
 have hl2:=hl
 unfold Z2x at hl2
 refine enter Tryz.func30 kr (n:=27) kr kr (ar (ir 1 [(0,Z2 cs),(1,Z2 cs)] (ie (aq (ar (irk 1 (.n 6 (Z2 cs) .r) (iw (Z0c cs) (irk 1 (.n 8 (Z2 cs) .r) (iw (Z0c cs) (irk 1 (.n 10 (.b ((cs.length:Int) != (cs.length:Int))) .r) (ie (ac ((cs.length:Int) != (cs.length:Int)) bne_iff_ne (fun hc1=>?_) (fun hc1=>?_)))))))))))))
 ·refine ar (ir 1 [(4,.b false)] (ie ?_))
  exact at_ (r2 [] [.b false] ⟨rfl,rfl⟩ lb)
 refine ak (aq (ar (irk 1 (.n 5 (.i 0) .r) (ie (ab 0 (al (fun m F h=>∃(k:Nat),(k≤cs.length)∧F=[(0,Z2 cs),(1,Z2 cs),(5,.i k)]∧h=[]∧m=cs.length-k) _ _ _ ⟨0,ob,rfl,rfl,rfl⟩ (wk [] (fw (fc (x:=.i 0) li fl))) ?_))))))
 rintro m F h ⟨k,c0_0,rfl,rfl,rfl⟩
 refine aq (ar (irk 2 (.n 11 (.i k) (.n 12 (Z2 cs) .r)) (iw (Z0c cs) (irk 1 (.n 14 (.b (decide ((k:Int)<(cs.length:Int)))) .r) (ie (ac (decide ((k:Int)<(cs.length:Int))) dq (fun hc2=>?_) (fun hc2=>?_)))))))
 ·refine ak (aq (ab 1 (aD 10 (dtk (fuel:=8) 10 [0,1] (.n 17 (Z2 cs) (.n 18 (.i k) .r)) ?_))))
  obtain ⟨x1,hx1⟩:=Z6 (xs:=cs) (j:=k) om
  have hcl:=Zft hx1
  refine dx 2 (Z0 (es:=Z0i cs) (hv:=none) (j:=(k:Int)) (sz:=3) (y:=Z2s x1) kr om (Z0z hx1) rfl) (dtk (fuel:=4) 7 [3,4,5] (.n 20 (Z2s x1) (.n 21 (Z2 cs) (.n 22 (.i k) .r))) (dx 6 (Z0 (es:=Z0i cs) (hv:=none) (j:=(k:Int)) (sz:=3) (y:=Z2s x1) kr om (Z0z hx1) rfl) (dtk (fuel:=2) 3 [7] (.n 24 (Z2s x1) .r) (do_ 8 (dc 8 [] [] [] (Zif x1) ?_)))))
  rintro _ _ ⟨rfl,rfl⟩
  refine dtk (fuel:=0) 1 [9] (.n 26 (.b false) .r) (de (ac0 (ak (az (irk 1 (.n 15 (.i k) .r) (ia (((k+1:Nat):Int)) (((k:Int))+(1)) (ir 1 [(0,Z2 cs),(1,Z2 cs),(5,.i (k+1:Nat))] (ie ?_))))))))
  exact ⟨_,_,_,ob,⟨k+1,ob,rfl,rfl,rfl⟩,(wk [] (fw (fc (x:=.i (k+1:Nat)) li fl)))⟩
 refine ax 0 (ar (ir 1 [(4,.b true)] (ie ?_)))
 exact at_ (r1 [] ⟨rfl,rfl⟩)
theorem Zvv (z:Nat) (cs:List Block) (hl:bcsC cs≤1000000000:=by exact ob) (hz:bsz cs≤z:=by exact ob) (ih:∀(b2:Block),(b2.sz≤z)→(b2.cst≤1000000000)→Z3 Tryz.prog 129 [Za b2,Za b2] [] (fun r h=>r=.b true∧h=[])):Z3 Tryz.prog 220 [Zv cs,Zv cs] [] (fun r h=>r=.b true∧h=[]):=by
 have hl2:=hl
 unfold bcsC at hl2
 refine enter Tryz.func220 kr (n:=27) kr kr (ar (ir 1 [(0,Zv cs),(1,Zv cs)] (ie (aq (ar (irk 1 (.n 6 (Zv cs) .r) (iw (Z0f cs) (irk 1 (.n 8 (Zv cs) .r) (iw (Z0f cs) (irk 1 (.n 10 (.b ((cs.length:Int) != (cs.length:Int))) .r) (ie (ac ((cs.length:Int) != (cs.length:Int)) bne_iff_ne (fun hc1=>?_) (fun hc1=>?_)))))))))))))
 ·refine ar (ir 1 [(4,.b false)] (ie ?_))
  exact at_ (r2 [] [.b false] ⟨rfl,rfl⟩ lb)
 refine ak (aq (ar (irk 1 (.n 5 (.i 0) .r) (ie (ab 0 (al (fun m F h=>∃(k:Nat),(k≤cs.length)∧F=[(0,Zv cs),(1,Zv cs),(5,.i k)]∧h=[]∧m=cs.length-k) _ _ _ ⟨0,ob,rfl,rfl,rfl⟩ (wk [] (fw (fc (x:=.i 0) li fl))) ?_))))))
 rintro m F h ⟨k,c0_0,rfl,rfl,rfl⟩
 refine aq (ar (irk 2 (.n 11 (.i k) (.n 12 (Zv cs) .r)) (iw (Z0f cs) (irk 1 (.n 14 (.b (decide ((k:Int)<(cs.length:Int)))) .r) (ie (ac (decide ((k:Int)<(cs.length:Int))) dq (fun hc2=>?_) (fun hc2=>?_)))))))
 ·refine ak (aq (ab 1 (aD 10 (dtk (fuel:=8) 10 [0,1] (.n 17 (Zv cs) (.n 18 (.i k) .r)) ?_))))
  obtain ⟨x1,hx1⟩:=Z6 (xs:=cs) (j:=k) om
  have hcl:=Zoy hx1
  have hsz:=Zma hx1
  refine dx 2 (Z0 (es:=Z19 cs) (hv:=none) (j:=(k:Int)) (sz:=2) (y:=Za x1) kr om (Z1q hx1) rfl) (dtk (fuel:=4) 7 [3,4,5] (.n 20 (Za x1) (.n 21 (Zv cs) (.n 22 (.i k) .r))) (dx 6 (Z0 (es:=Z19 cs) (hv:=none) (j:=(k:Int)) (sz:=2) (y:=Za x1) kr om (Z1q hx1) rfl) (dtk (fuel:=2) 3 [7] (.n 24 (Za x1) .r) (do_ 8 (dc 8 [] [] [] (ih x1 ob ob) ?_)))))
  rintro _ _ ⟨rfl,rfl⟩
  refine dtk (fuel:=0) 1 [9] (.n 26 (.b false) .r) (de (ac0 (ak (az (irk 1 (.n 15 (.i k) .r) (ia (((k+1:Nat):Int)) (((k:Int))+(1)) (ir 1 [(0,Zv cs),(1,Zv cs),(5,.i (k+1:Nat))] (ie ?_))))))))
  exact ⟨_,_,_,ob,⟨k+1,ob,rfl,rfl,rfl⟩,(wk [] (fw (fc (x:=.i (k+1:Nat)) li fl)))⟩
 refine ax 0 (ar (ir 1 [(4,.b true)] (ie ?_)))
 exact at_ (r1 [] ⟨rfl,rfl⟩)
theorem Z038 (z:Nat) (s:Step) (hl:s.cst≤1000000000:=by exact ob) (hz:s.sz≤z+1:=by exact ob) (ih:∀(b2:Block),(b2.sz≤z)→(b2.cst≤1000000000)→Z3 Tryz.prog 129 [Za b2,Za b2] [] (fun r h=>r=.b true∧h=[])):Z3 Tryz.prog 203 [Z0g s,Z0g s] [] (fun r h=>r=.b true∧h=[]):=by
 have hse:=s.sz_eq
 have hce:=s.cst_eq
 have hbc:bcsC s.kids=s.kids.length+bcs s.kids:=rfl
 refine enter Tryz.func203 kr (n:=32) kr kr (ar (iA (Z02 s) ?_))
 intro b1
 refine iA (Z02 s) ?_
 intro b2
 refine ir 1 [(2,.p b1 0),(3,.p b2 0)] (ie (aq (ar (irK 5 (.n 9 (.b (s.op != s.op)) .r) [1,0] [b1,b2] (ie (ac (s.op != s.op) bne_iff_ne (fun hc1=>?_) (fun hc1=>?_)))))))
 ·refine ar (ir 1 [(4,.b false)] (ie ?_))
  exact at_ (r2 [] [.b false] ⟨rfl,rfl⟩ lb)
 refine ak (aq (ar (irK 5 (.n 14 (.b (s.num != s.num)) .r) [1,0] [b1,b2] (ie (ac (s.num != s.num) bne_iff_ne (fun hc2=>?_) (fun hc2=>?_))))))
 ·refine ar (ir 1 [(4,.b false)] (ie ?_))
  exact at_ (r2 [] [.b false] ⟨rfl,rfl⟩ lb)
 refine ak (aq (ar (irK 5 (.n 19 (.b (s.into != s.into)) .r) [1,0] [b1,b2] (ie (ac (s.into != s.into) bne_iff_ne (fun hc3=>?_) (fun hc3=>?_))))))
 ·refine ar (ir 1 [(4,.b false)] (ie ?_))
  exact at_ (r2 [] [.b false] ⟨rfl,rfl⟩ lb)
 refine ak (aq (ar (irK 4 (.n 21 (nInt s.args) (.n 23 (nInt s.args) .r)) [1,0] [b1,b2] (ic [] (Z68 s.args) ?_))))
 rintro _ _ ⟨rfl,rfl⟩
 refine irk 1 (.n 25 (.b false) .r) (ie (ac0 (ak (aq (ar (iR 4 [(27,Zv s.kids),(29,Zv s.kids)] [1,0] [b1,b2] (ic [] (Zvv z s.kids (ih:=ih)) ?_)))))))
 rintro _ _ ⟨rfl,rfl⟩
 refine ir 1 [(31,.b false)] (ie (ac0 (ak (ar (ir 1 [(4,.b true)] (ie ?_))))))
 exact at_ (r1 [] ⟨rfl,rfl⟩)
theorem Zzz (z:Nat) (cs:List Step) (hl:scsC cs≤1000000000:=by exact ob) (hz:ssz cs≤z+1:=by exact ob) (ih:∀(b2:Block),(b2.sz≤z)→(b2.cst≤1000000000)→Z3 Tryz.prog 129 [Za b2,Za b2] [] (fun r h=>r=.b true∧h=[])):Z3 Tryz.prog 169 [Z0b cs,Z0b cs] [] (fun r h=>r=.b true∧h=[]):=by
 have hl2:=hl
 unfold scsC at hl2
 refine enter Tryz.func169 kr (n:=27) kr kr (ar (ir 1 [(0,Z0b cs),(1,Z0b cs)] (ie (aq (ar (irk 1 (.n 6 (Z0b cs) .r) (iw (Z0l cs) (irk 1 (.n 8 (Z0b cs) .r) (iw (Z0l cs) (irk 1 (.n 10 (.b ((cs.length:Int) != (cs.length:Int))) .r) (ie (ac ((cs.length:Int) != (cs.length:Int)) bne_iff_ne (fun hc1=>?_) (fun hc1=>?_)))))))))))))
 ·refine ar (ir 1 [(4,.b false)] (ie ?_))
  exact at_ (r2 [] [.b false] ⟨rfl,rfl⟩ lb)
 refine ak (aq (ar (irk 1 (.n 5 (.i 0) .r) (ie (ab 0 (al (fun m F h=>∃(k:Nat),(k≤cs.length)∧F=[(0,Z0b cs),(1,Z0b cs),(5,.i k)]∧h=[]∧m=cs.length-k) _ _ _ ⟨0,ob,rfl,rfl,rfl⟩ (wk [] (fw (fc (x:=.i 0) li fl))) ?_))))))
 rintro m F h ⟨k,c0_0,rfl,rfl,rfl⟩
 refine aq (ar (irk 2 (.n 11 (.i k) (.n 12 (Z0b cs) .r)) (iw (Z0l cs) (irk 1 (.n 14 (.b (decide ((k:Int)<(cs.length:Int)))) .r) (ie (ac (decide ((k:Int)<(cs.length:Int))) dq (fun hc2=>?_) (fun hc2=>?_)))))))
 ·refine ak (aq (ab 1 (aD 10 (dtk (fuel:=8) 10 [0,1] (.n 17 (Z0b cs) (.n 18 (.i k) .r)) ?_))))
  obtain ⟨x1,hx1⟩:=Z6 (xs:=cs) (j:=k) om
  have hcl:=Zq0 hx1
  have hsz:=Zo4 hx1
  refine dx 2 (Z0 (es:=Zo cs) (hv:=none) (j:=(k:Int)) (sz:=5) (y:=Z0g x1) kr om (Z0y hx1) rfl) (dtk (fuel:=4) 7 [3,4,5] (.n 20 (Z0g x1) (.n 21 (Z0b cs) (.n 22 (.i k) .r))) (dx 6 (Z0 (es:=Zo cs) (hv:=none) (j:=(k:Int)) (sz:=5) (y:=Z0g x1) kr om (Z0y hx1) rfl) (dtk (fuel:=2) 3 [7] (.n 24 (Z0g x1) .r) (do_ 8 (dc 8 [] [] [] (Z038 z x1 (ih:=ih)) ?_)))))
  rintro _ _ ⟨rfl,rfl⟩
  refine dtk (fuel:=0) 1 [9] (.n 26 (.b false) .r) (de (ac0 (ak (az (irk 1 (.n 15 (.i k) .r) (ia (((k+1:Nat):Int)) (((k:Int))+(1)) (ir 1 [(0,Z0b cs),(1,Z0b cs),(5,.i (k+1:Nat))] (ie ?_))))))))
  exact ⟨_,_,_,ob,⟨k+1,ob,rfl,rfl,rfl⟩,(wk [] (fw (fc (x:=.i (k+1:Nat)) li fl)))⟩
 refine ax 0 (ar (ir 1 [(4,.b true)] (ie ?_)))
 exact at_ (r1 [] ⟨rfl,rfl⟩)
theorem Zvu (z:Nat) (b:Block) (hl:b.cst≤1000000000:=by exact ob) (hz:b.sz≤z+1:=by exact ob) (ih:∀(b2:Block),(b2.sz≤z)→(b2.cst≤1000000000)→Z3 Tryz.prog 129 [Za b2,Za b2] [] (fun r h=>r=.b true∧h=[])):Z3 Tryz.prog 129 [Za b,Za b] [] (fun r h=>r=.b true∧h=[]):=by
 have hse:=b.sz_eq
 have hce:=b.cst_eq
 have hbc:scsC b.steps=b.steps.length+scs b.steps:=rfl
 refine enter Tryz.func129 kr (n:=16) kr kr (ar (iA (Z03 b) ?_))
 intro b1
 refine iA (Z03 b) ?_
 intro b2
 refine ir 1 [(2,.p b1 0),(3,.p b2 0)] (ie (aq (ar (irK 4 (.n 6 (Z0b b.steps) (.n 8 (Z0b b.steps) .r)) [1,0] [b1,b2] (ic [] (Zzz z b.steps (ih:=ih)) ?_)))))
 rintro _ _ ⟨rfl,rfl⟩
 refine irk 1 (.n 10 (.b false) .r) (ie (ac0 (ak (aq (ar (iR 5 [(15,.b (b.result != b.result))] [1,0] [b1,b2] (ie (ac (b.result != b.result) bne_iff_ne (fun hc1=>?_) (fun hc1=>?_)))))))))
 ·refine ar (ir 1 [(4,.b false)] (ie ?_))
  exact at_ (r2 [] [.b false] ⟨rfl,rfl⟩ lb)
 refine ak (ar (ir 1 [(4,.b true)] (ie ?_)))
 exact at_ (r1 [] ⟨rfl,rfl⟩)
theorem Zmr (m:Nat):∀(b2:Block),(b2.sz≤m)→(b2.cst≤1000000000)→Z3 Tryz.prog 129 [Za b2,Za b2] [] (fun r h=>r=.b true∧h=[]):=by
 induction m with
 | zero=>intro b h;have:=b.sz_pos;omega
 | succ m ih=>intro b h1 h2;exact Zvu m b h2 h1 ih
theorem Zzy (b2:Block) (hl:b2.cst≤1000000000):Z3 Tryz.prog 129 [Za b2,Za b2] [] (fun r h=>r=.b true∧h=[]):=
 Zmr b2.sz b2 (Nat.le_refl _) hl
theorem Ze8 (rt:Routine) (hl:rtC rt≤1000000000:=by exact ob):Z3 Tryz.prog 70 [Z0s rt,Z0s rt] [] (fun r h=>r=.b true∧h=[]):=by
 unfold rtC at hl
 refine enter Tryz.func70 kr (n:=28) kr kr (ar (iA (Z1s rt) ?_))
 intro b1
 refine iA (Z1s rt) ?_
 intro b2
 refine ir 1 [(2,.p b1 0),(3,.p b2 0)] (ie (aq (ar (irK 4 (.n 6 (nInt rt.params) (.n 8 (nInt rt.params) .r)) [1,0] [b1,b2] (ic [] (Z68 rt.params) ?_)))))
 rintro _ _ ⟨rfl,rfl⟩
 refine irk 1 (.n 10 (.b false) .r) (ie (ac0 (ak (aq (ar (irK 4 (.n 12 (nInt rt.lent) (.n 14 (nInt rt.lent) .r)) [1,0] [b1,b2] (ic [] (Z68 rt.lent) ?_)))))))
 rintro _ _ ⟨rfl,rfl⟩
 refine irk 1 (.n 16 (.b false) .r) (ie (ac0 (ak (aq (ar (irK 5 (.n 21 (.b (rt.result != rt.result)) .r) [1,0] [b1,b2] (ie (ac (rt.result != rt.result) bne_iff_ne (fun hc1=>?_) (fun hc1=>?_)))))))))
 ·refine ar (ir 1 [(4,.b false)] (ie ?_))
  exact at_ (r2 [] [.b false] ⟨rfl,rfl⟩ lb)
 refine ak (aq (ar (iR 4 [(23,Za rt.body),(25,Za rt.body)] [1,0] [b1,b2] (ic [] (Zzy rt.body ob) ?_))))
 rintro _ _ ⟨rfl,rfl⟩
 refine ir 1 [(27,.b false)] (ie (ac0 (ak (ar (ir 1 [(4,.b true)] (ie ?_))))))
 exact at_ (r1 [] ⟨rfl,rfl⟩)
theorem Zct (cs:List Routine) (hl:rtsC cs≤1000000000:=by exact ob):Z3 Tryz.prog 31 [nRoutine cs,nRoutine cs] [] (fun r h=>r=.b true∧h=[]):=by
 have hl2:=hl
 unfold rtsC at hl2
 refine enter Tryz.func31 kr (n:=27) kr kr (ar (ir 1 [(0,nRoutine cs),(1,nRoutine cs)] (ie (aq (ar (irk 1 (.n 6 (nRoutine cs) .r) (iw (Z0a cs) (irk 1 (.n 8 (nRoutine cs) .r) (iw (Z0a cs) (irk 1 (.n 10 (.b ((cs.length:Int) != (cs.length:Int))) .r) (ie (ac ((cs.length:Int) != (cs.length:Int)) bne_iff_ne (fun hc1=>?_) (fun hc1=>?_)))))))))))))
 ·refine ar (ir 1 [(4,.b false)] (ie ?_))
  exact at_ (r2 [] [.b false] ⟨rfl,rfl⟩ lb)
 refine ak (aq (ar (irk 1 (.n 5 (.i 0) .r) (ie (ab 0 (al (fun m F h=>∃(k:Nat),(k≤cs.length)∧F=[(0,nRoutine cs),(1,nRoutine cs),(5,.i k)]∧h=[]∧m=cs.length-k) _ _ _ ⟨0,ob,rfl,rfl,rfl⟩ (wk [] (fw (fc (x:=.i 0) li fl))) ?_))))))
 rintro m F h ⟨k,c0_0,rfl,rfl,rfl⟩
 refine aq (ar (irk 2 (.n 11 (.i k) (.n 12 (nRoutine cs) .r)) (iw (Z0a cs) (irk 1 (.n 14 (.b (decide ((k:Int)<(cs.length:Int)))) .r) (ie (ac (decide ((k:Int)<(cs.length:Int))) dq (fun hc2=>?_) (fun hc2=>?_)))))))
 ·refine ak (aq (ab 1 (aD 10 (dtk (fuel:=8) 10 [0,1] (.n 17 (nRoutine cs) (.n 18 (.i k) .r)) ?_))))
  obtain ⟨x1,hx1⟩:=Z6 (xs:=cs) (j:=k) om
  have hcl:=Zrn hx1
  refine dx 2 (Z0 (es:=Z0p cs) (hv:=none) (j:=(k:Int)) (sz:=5) (y:=Z0s x1) kr om (Z0v hx1) rfl) (dtk (fuel:=4) 7 [3,4,5] (.n 20 (Z0s x1) (.n 21 (nRoutine cs) (.n 22 (.i k) .r))) (dx 6 (Z0 (es:=Z0p cs) (hv:=none) (j:=(k:Int)) (sz:=5) (y:=Z0s x1) kr om (Z0v hx1) rfl) (dtk (fuel:=2) 3 [7] (.n 24 (Z0s x1) .r) (do_ 8 (dc 8 [] [] [] (Ze8 x1) ?_)))))
  rintro _ _ ⟨rfl,rfl⟩
  refine dtk (fuel:=0) 1 [9] (.n 26 (.b false) .r) (de (ac0 (ak (az (irk 1 (.n 15 (.i k) .r) (ia (((k+1:Nat):Int)) (((k:Int))+(1)) (ir 1 [(0,nRoutine cs),(1,nRoutine cs),(5,.i (k+1:Nat))] (ie ?_))))))))
  exact ⟨_,_,_,ob,⟨k+1,ob,rfl,rfl,rfl⟩,(wk [] (fw (fc (x:=.i (k+1:Nat)) li fl)))⟩
 refine ax 0 (ar (ir 1 [(4,.b true)] (ie ?_)))
 exact at_ (r1 [] ⟨rfl,rfl⟩)
theorem Z9l (n:Normal) (hl:Z4l n≤1000000000):Z3 Tryz.prog 10 [Zi n,Zi n] [] (fun r h=>r=.b true∧h=[]):=by
 unfold Z4l at hl
 refine enter Tryz.func10 kr (n:=17) kr kr (ar (iA (Zh n) ?_))
 intro b1
 refine iA (Zh n) ?_
 intro b2
 refine ir 1 [(2,.p b1 0),(3,.p b2 0)] (ie (aq (ar (irK 4 (.n 6 (Z2 n.decls) (.n 8 (Z2 n.decls) .r)) [1,0] [b1,b2] (ic [] (Zh6 n.decls) ?_)))))
 rintro _ _ ⟨rfl,rfl⟩
 refine irk 1 (.n 10 (.b false) .r) (ie (ac0 (ak (aq (ar (iR 4 [(12,nRoutine n.routines),(14,nRoutine n.routines)] [1,0] [b1,b2] (ic [] (Zct n.routines) ?_)))))))
 rintro _ _ ⟨rfl,rfl⟩
 refine ir 1 [(16,.b false)] (ie (ac0 (ak (ar (ir 1 [(4,.b true)] (ie ?_))))))
 exact at_ (r1 [] ⟨rfl,rfl⟩)
theorem Zkt (s:Step) (ys:List HBlock) (kv:Value) (hl:s.args.length≤4294967296:=by exact ob):Z3 Tryz.prog 66 [Z0g s,Z1w ys kv] [] (fun r h=>∃(u:Value),r=.agg [.i s.op,.i s.num,.i s.into,oInt s.args u,Z1w ys kv]∧h=[.tail u 1]):=by
 refine enter Tryz.func66 kr (n:=12) kr kr (ar (iA (Z02 s) ?_))
 intro b1
 refine iA [.i 0,.i 0,.i 0,nl,nl] ?_
 intro b2
 refine ie (ar (iR 2 [(1,Z1w ys kv),(2,.p b1 0),(4,.p b2 0),(6,nInt s.args)] [1] [b1] (ic [] (Z8i s.args) ?_)))
 rintro _ _ ⟨v1,rfl,rfl⟩
 refine irk 2 (.n 8 (Z1w ys kv) (.n 9 (.p b1 3) .r)) (iS 2 b1 3 [oInt s.args v1] (Z02 s) [.i s.op,.i s.num,.i s.into,oInt s.args v1,Zv s.kids] (irk 1 (.n 10 (.p b1 4) .r) (iS 0 b1 4 [Z1w ys kv] [.i s.op,.i s.num,.i s.into,oInt s.args v1,Zv s.kids] [.i s.op,.i s.num,.i s.into,oInt s.args v1,Z1w ys kv] (ie (ar (irK 1 (.n 11 (.agg [.i s.op,.i s.num,.i s.into,oInt s.args v1,Z1w ys kv]) .r) [0] [b1] (iS 2 b2 0 [.i s.op,.i s.num,.i s.into,oInt s.args v1,Z1w ys kv] [.i 0,.i 0,.i 0,nl,nl] [.i s.op,.i s.num,.i s.into,oInt s.args v1,Z1w ys kv] (ie ?_))))))))
 exact at_ (r3 [2] [.agg [.i s.op,.i s.num,.i s.into,oInt s.args v1,Z1w ys kv]] [0] [(b2,b2)] ⟨v1,rfl,rfl⟩ (lr _))
theorem Zp1 (ds:List Decl) (hl_ds:ds.length≤4294967296:=by exact ob):Z3 Tryz.prog 120 [Z2 ds] [] (fun r h=>∃(v:Hd),r=.h v∧h=[rK v 3 (flat (Z0i ds))]):=by
 refine enter Tryz.func120 kr (n:=8) kr kr (ar (ir 1 [(0,Z2 ds)] (ie (aq (ar (irk 1 (.n 3 (Z2 ds) .r) (iN (Z0i ds) (fun hz1=>?_) ?_)))))))
 ·have hz1:=Zsn hz1
  refine ie (ac1 (ar (ir 1 [(2,nl)] (ie (Z2e (Zac (k:=3)) ?_)))))
  subst hz1
  exact at_ (r2 [0] [nl] ⟨hN,rfl,rfl⟩ (AVLe.hd (v:=hN)) (eq:=(rr (ls:=[]) rfl rz)))
 refine ie (ac0 (ak (ar (iKL 3 ?_))))
 intro g1
 refine irk 1 (.n 6 (Z2 ds) .r) (iKC 0 g1 3 (Z0i ds) none (Z76 _) (by simp<;>omega) ?_)
 intro v1
 refine ir 1 [(2,.h v1)] (ie ?_)
 exact at_ (r1 [0] ⟨v1,rfl,rfl⟩)
theorem Zsh (cs:List Con) (hl_cs:cs.length≤4294967296:=by exact ob):Z3 Tryz.prog 121 [nCon cs] [] (fun r h=>∃(v:Hd),r=.h v∧h=[rK v 1 (flat (Z37 cs))]):=by
 refine enter Tryz.func121 kr (n:=8) kr kr (ar (ir 1 [(0,nCon cs)] (ie (aq (ar (irk 1 (.n 3 (nCon cs) .r) (iN (Z37 cs) (fun hz1=>?_) ?_)))))))
 ·have hz1:=Zvo hz1
  refine ie (ac1 (ar (ir 1 [(2,nl)] (ie (Z2e (Zac (k:=1)) ?_)))))
  subst hz1
  exact at_ (r2 [0] [nl] ⟨hN,rfl,rfl⟩ (AVLe.hd (v:=hN)) (eq:=(rr (ls:=[]) rfl rz)))
 refine ie (ac0 (ak (ar (iKL 1 ?_))))
 intro g1
 refine irk 1 (.n 6 (nCon cs) .r) (iKC 0 g1 1 (Z37 cs) none (Zcd _) (by simp<;>omega) ?_)
 intro v1
 refine ir 1 [(2,.h v1)] (ie ?_)
 exact at_ (r1 [0] ⟨v1,rfl,rfl⟩)
theorem Zh3 (ds:List Decl) (hd:DOk ds:=by exact ob):Z3 Tryz.prog 59 [Z2 ds] [] (fun r h=>∃(ys:List HDecl) (w:Value),r=Z4w ys w∧h=[.many (Z0m ys),.tail w 3]∧ys.map HDecl.er=ds):=by
 have hdl:=hd.len
 refine enter Tryz.func59 kr (n:=46) kr kr (ar (ir 1 [(0,Z2 ds)] (ie (ar (ir 1 [(8,Z2 ds)] (ic [] (Zp1 ds) ?_))))))
 rintro _ _ ⟨v1,rfl,rfl⟩
 refine ir 1 [(3,.h v1)] (ie (aq (ar (irk 1 (.n 10 (.h v1) .r) (is_ (kLen 0 ds.length v1 3 (flat (Z0i ds)) (by rw [Zmt])) (irk 1 (.n 12 (.i 0) .r) (ie (ab 0 (Z2e (tB [] [] [] (Z0m []) (by simp [Z0j,Z01,Z0u,Z0n,Zr,Z0o,Z04,Z06,Zp,Z1v,Z0d,Z1b,Z0m,Zl,Z40,Z2f,Z0r,Zz])) (al (fun m F h=>∃(k:Nat) (v:Hd) (ys:List HDecl),(k≤ds.length)∧(ys.map HDecl.er=ds.take k)∧(ys.length=k)∧F=[(3,.h v),(10,.h v),(11,.i ds.length),(12,.i k)]∧h=[rK v 3 (flat (Z1d ys++Z0i (ds.drop k))),.many (Z0m ys)]∧m=ds.length-k) _ _ _ ⟨0,v1,[],ob,rfl,rfl,rfl,rfl,rfl⟩ (wk [1,0] (fw (fr (fc (x:=.i 0) li fl))) (e:=(rr (ls:=flat (Z0i ds)) (by rfl) (rc rz)))) ?_))))))))))
 rintro m F h ⟨k,v,ys,c0_0,c0_1,c0_2,rfl,rfl,rfl⟩
 refine ar (irk 1 (.n 13 (.b (decide ((k:Int)<(ds.length:Int)))) .r) (ie (aq (ac (decide ((k:Int)<(ds.length:Int))) dq (fun hc1=>?_) (fun hc1=>?_)))))
 ·obtain ⟨x1,hx1⟩:=Z6 (xs:=ds) (j:=k) om
  have hcl:=hd.cons_at hx1
  refine Z05v 0 ds.length (v:=v) (Zrk c0_2 c0_0) om (fun g1 c1 he1=>?_)
  subst he1
  refine ak (aq (ab 1 (ar (ir 1 [(3,.ms g1 0 ds.length c1),(10,.ms g1 0 ds.length c1),(11,.i ds.length),(12,.i k),(14,.i k)] (is_ (kIdx g1 ds.length c1 k 3 (k:Int)) (ix_ (Zwq 0 g1 ds.length c1 3 (k*3) (flat (Z1d ys++Z0i (ds.drop k))) (Z2g x1) 83 (Z2s x1) (by rw [Zjt hx1];exact Zld (by rw [Z4q,c0_2]))) (iA [.i 0,.i 0,nl] ?_)))))))
  intro b1
  refine irk 1 (.n 4 (.i k) .r) (iS 0 b1 0 (Z2g x1) [.i 0,.i 0,nl] (Z2g x1) (ie (ar (irK 4 (.n 17 (.ms g1 0 ds.length c1) (.n 18 (.i k) (.n 20 (nCon x1.cons) .r))) [0] [b1] (ic [] (Zsh x1.cons) ?_)))))
  rintro _ _ ⟨v2,rfl,rfl⟩
  refine is_ (kIdx g1 ds.length c1 k 3 (k:Int)) (irk 1 (.n 23 (.val (.pointer (some ⟨g1,k*3+2,none⟩))) .r) (iKS 2 g1 ds.length c1 3 (k*3+2) [.h v2] (flat (Z1d ys++Z0i (ds.drop k))) (flat (Z1d ys)++([.i x1.frm,.i x1.to_,.h v2]++flat (Z0i (ds.drop (k+1))))) (by rw [Zrk c0_2 c0_0];simp;omega) (by rw [Zjt hx1];exact Z013 (by rw [Z4q,c0_2])) (ie (ar (irK 2 (.n 25 (nCon x1.cons) .r) [2] [b1] (iw (Z0k x1.cons) (irk 1 (.n 27 (.i 0) .r) (ie (ab 2 (Z2e (tB [] [] [] (Z1b []) (by simp [Z0j,Z01,Z0u,Z0n,Zr,Z0o,Z04,Z06,Zp,Z1v,Z0d,Z1b,Z0m,Zl,Z40,Z2f,Z0r,Zz])) (al (fun m F h=>∃(j:Nat) (u:Hd) (zs:List HCon),(j≤x1.cons.length)∧(zs.map HCon.er=x1.cons.take j)∧(zs.length=j)∧F=[(3,.ms g1 0 ds.length c1),(4,.i k),(10,.ms g1 0 ds.length c1),(11,.i ds.length),(12,.i k),(25,nCon x1.cons),(26,.i x1.cons.length),(27,.i j)]∧h=[.many (Z0m ys),rK u 1 (flat (Z2n zs++Z37 (x1.cons.drop j))),.row (.slice (some ⟨g1,0,none⟩) ds.length c1) 3 (flat (Z1d ys)++([.i x1.frm,.i x1.to_,.h u]++flat (Z0i (ds.drop (k+1))))),.many (Z1b zs)]∧m=x1.cons.length-j) _ _ _ ⟨0,v2,[],ob,rfl,rfl,rfl,rfl,rfl⟩ (wk [4,2,1,0] (fq (fw (fr (fc (x:=.i 0) li fl)))) (e:=(rc (rr (ls:=flat (Z37 x1.cons)) (by rfl) (rc (rc rz)))))) ?_)))))))))))
  rintro m F h ⟨j,u,zs,c1_0,c1_1,c1_2,rfl,rfl,rfl⟩
  refine ar (irk 1 (.n 28 (.b (decide ((j:Int)<(x1.cons.length:Int)))) .r) (ie (aq (ac (decide ((j:Int)<(x1.cons.length:Int))) dq (fun hc2=>?_) (fun hc2=>?_)))))
  ·obtain ⟨x2,hx2⟩:=Z6 (xs:=x1.cons) (j:=j) om
   have hfl:=hd.fields_at hx1 hx2
   refine Z05v 1 x1.cons.length (v:=u) (Zrj c1_2 c1_0) om (fun g2 c2 he2=>?_)
   subst he2
   refine ak (aq (ab 3 (ar (ir 1 [(3,.ms g1 0 ds.length c1),(4,.i k),(10,.ms g1 0 ds.length c1),(11,.i ds.length),(12,.i k),(25,nCon x1.cons),(26,.i x1.cons.length),(27,.i j),(29,.i j)] (is_ (Z0 (es:=Z37 x1.cons) (hv:=none) (j:=(j:Int)) (sz:=1) (y:=aCon x2) kr om (Z4g hx2) rfl) (irk 1 (.n 31 (aCon x2) .r) (iA [nl] ?_)))))))
   intro b2
   refine irk 1 (.n 6 (.i j) .r) (iS 0 b2 0 (lCon x2) [nl] (lCon x2) (ie (aE 12 (dtk (fuel:=10) 12 [0,1] (.n 32 (.ms g1 0 ds.length c1) (.n 33 (.i k) .r)) (dx 2 (kIdx g1 ds.length c1 k 3 (k:Int)) (dtk (fuel:=8) 9 [3] (.n 35 (.val (.pointer (some ⟨g1,k*3+2,none⟩))) .r) (dx_ 4 (Zwq 3 g1 ds.length c1 3 (k*3+2) (flat (Z1d ys)++([.i x1.frm,.i x1.to_,.h ⟨some ⟨g2,0,none⟩,x1.cons.length,c2⟩]++flat (Z0i (ds.drop (k+1))))) [.h ⟨some ⟨g2,0,none⟩,x1.cons.length,c2⟩] 81 (.ms g2 0 x1.cons.length c2) (Zpu (by rw [Z4q,c0_2]))) (dtK (fuel:=4) 7 [5,6,7] (.n 37 (.i j) (.n 39 (nInt x2.fields) .r)) [0] [b2] (do_ 8 (dc 8 [] [2] [g1] (Z8i x2.fields) ?_))))))))))
   rintro _ _ ⟨v3,rfl,rfl⟩
   refine dx 9 (kIdx g2 x1.cons.length c2 j 1 (j:Int)) (dtk (fuel:=1) 2 [10] (.n 42 (.val (.pointer (some ⟨g2,j*1,none⟩))) .r) (do_ 11 (dKS 11 3 [] [] g2 x1.cons.length c2 1 (j*1) [oInt x2.fields v3] (flat (Z2n zs++Z37 (x1.cons.drop j))) (flat (Z2n zs)++([oInt x2.fields v3]++flat (Z37 (x1.cons.drop (j+1))))) (by rw [Zrj c1_2 c1_0];simp;omega) (by rw [Ztn hx2];exact Z6q (by rw [Ze1,c1_2,Nat.mul_one]) rfl) (Zcb (tB [5,1] [.many (Z1b zs),.tail v3 1] (Z1b zs++((v3,1)::[])) (Z1b (zs++[HCon.mk x2.fields v3])) (by simp [Z0j,Z01,Z0u,Z0n,Zr,Z0o,Z04,Z06,Zp,Z1v,Z0d,Z1b,Z0m,Zl,Z40,Z2f,Z0r,Zz])) (de (az (ia (((j+1:Nat):Int)) (((j:Int))+(1)) (irk 1 (.n 27 (.i (j+1:Nat)) (.p (.d (.p (.p (.d (.d (.p (.d (.p (.d (.d (.d (.p (.d (.p (.w (.k (.k (.k .z)))))))))))))))))))) (ie ?_)))))))))
   exact ⟨_,_,_,ob,⟨j+1,⟨some ⟨g2,0,none⟩,x1.cons.length,c2⟩,(zs++[HCon.mk x2.fields v3]),ob,(by rw [List.map_append,c1_1,Z1l hx2];rfl),(by simp [c1_2]),rfl,rfl,rfl⟩,(wk [3,1,2,0] (fq (fw (fr (fc (x:=.i (j+1:Nat)) li fl)))) (e:=(rc (rr (ls:=(flat (Z2n zs)++([oInt x2.fields v3]++flat (Z37 (x1.cons.drop (j+1)))))) Zxy (rr (ls:=(flat (Z1d ys)++([.i x1.frm,.i x1.to_,.h ⟨some ⟨g2,0,none⟩,x1.cons.length,c2⟩]++flat (Z0i (ds.drop (k+1)))))) ob (rc rz))))))⟩
  refine Z2e (tRow 1 u.v 1 (flat (Z2n zs++Z37 (x1.cons.drop j))) (flat (Z2n zs)) (Z011 om)) (Z2e (tFrz 0 1 (k*3+2) u.v (.slice (some ⟨g1,0,none⟩) ds.length c1) 1 3 (Z2n zs) (flat (Z1d ys)++([.i x1.frm,.i x1.to_,.h u]++flat (Z0i (ds.drop (k+1))))) (Zdy _) (by rw [List.getElem?_append_right (by rw [Z4q];omega),Z4q,c0_2];simp)) ?_)
  refine Z2e (tRow 0 (.slice (some ⟨g1,0,none⟩) ds.length c1) 3 (List.set ((flat (Z1d ys)++([.i x1.frm,.i x1.to_,.h u]++flat (Z0i (ds.drop (k+1))))):List AV) (k*3+2) (Zfk zs u.v)) (flat (Z1d ys)++([.i x1.frm,.i x1.to_,Zfk zs u.v]++flat (Z0i (ds.drop (k+1))))) (Znv (by rw [Z4q,c0_2]))) (Z2e (tB [2,2,1] [.many (Z0m ys),.many (Z1b zs),.tail u.v 1] (Z0m ys++(Z1b zs++((u.v,1)::[]))) (Z0m (ys++[HDecl.mk x1.frm x1.to_ zs u.v])) (by simp [Z0j,Z01,Z0u,Z0n,Zr,Z0o,Z04,Z06,Zp,Z1v,Z0d,Z1b,Z0m,Zl,Z40,Z2f,Z0r,Zz])) (ax 2 (az (ia (((k+1:Nat):Int)) (((k:Int))+(1)) (irk 1 (.n 12 (.i (k+1:Nat)) (.p (.d (.k (.d (.k (.k .z))))))) (ie ?_))))))
  exact ⟨_,_,_,ob,⟨k+1,(⟨some ⟨g1,0,none⟩,ds.length,c1⟩:Hd),(ys++[HDecl.mk x1.frm x1.to_ zs u.v]),ob,(by rw [List.map_append,c0_1,Z1l hx1,Zua (c1_1.trans (List.take_of_length_le om))]),(by simp [c0_2]),rfl,rfl,rfl⟩,(wk [1,0] (fw (fr (fc (x:=.i (k+1:Nat)) li fl))) (e:=(rr (ls:=(flat (Z1d ys)++([.i x1.frm,.i x1.to_,Zfk zs u.v]++flat (Z0i (ds.drop (k+1)))))) Zxz (rc rz))))⟩
 refine ax 0 (ar (ir 2 [(2,.h v)] (ie (Z2e (tRow 0 v.v 3 (flat (Z1d ys++Z0i (ds.drop k))) (flat (Z1d ys)) (Z012 om)) (kFrz 2 0 (v:=v) (Z1d ys) (Zbi _) ?_)))))
 exact at_ (r1 [1,0] ⟨ys,v.v,rfl,rfl,(by rw [c0_1,List.take_of_length_le om])⟩)
theorem Zen (ds:List Decl) (n:Nat) (hz:DSz ds:=by exact ob) (hn:n<ds.length:=by exact ob):Z3 Tryz.prog 207 [Z2 ds,.i n] [] (fun r h=>r=.b (Za2 ds n)∧h=[]):=by
 have hl_ds:ds.length≤4294967296:=by have:=hz.len;omega
 refine enter Tryz.func207 kr (n:=100) kr kr (ar (ir 1 [(0,Z2 ds),(1,.i n)] (ie (ar (irk 2 (.n 8 (Z2 ds) (.n 9 (.i n) .r)) ?_)))))
 obtain ⟨x1,hx1⟩:=Z6 (xs:=ds) (j:=n) om
 have hdo:=Z7g hx1
 have hz1:=hz.cons_at hx1
 refine is_ (Z0 (es:=Z0i ds) (hv:=none) (j:=(n:Int)) (sz:=3) (y:=Z2s x1) kr om (Z0z hx1) rfl) (irk 1 (.n 11 (Z2s x1) .r) (iA [.i 0,.i 0,nl] ?_))
 intro b1
 refine iS 0 b1 0 (Z2g x1) [.i 0,.i 0,nl] (Z2g x1) (ie (aq (ar (irK 2 (.n 13 (nCon x1.cons) .r) [0] [b1] (iw (Z0k x1.cons) (irk 1 (.n 15 (.b (decide ((x1.cons.length:Int)>0))) .r) (ie (ac (decide ((x1.cons.length:Int)>0)) dq (fun hc1=>?_) (fun hc1=>?_)))))))))
 ·refine aq (ar (irK 2 (.n 17 (nCon x1.cons) .r) [0] [b1] (iw (Z0k x1.cons) (Z1n 9 [(0,Z2 ds),(5,.p b1 0),(24,.b ((decide ((x1.cons.length:Int)>3))||(x1.frm != 0)))] [.obj b1 (Z2g x1)] ?_ (fun hj1=>?_)))))
  ·refine Z24 [(0,Z2 ds),(5,.p b1 0),(29,.b (((decide ((x1.cons.length:Int)>3))||(x1.frm != 0))||(x1.to_ != 0)))] [.obj b1 (Z2g x1)] ?_ ?_
   ·refine ir 1 [(0,Z2 ds),(5,.p b1 0),(25,.b ((decide ((x1.cons.length:Int)>3))||(x1.frm != 0)))] (ib (b:=((decide ((x1.cons.length:Int)>3))||(x1.frm != 0))) 25 (fun hb1=>?_) (fun hb1=>?_))
    ·have hp1:((x1.cons.length:Int)>3)∨(x1.frm≠0):=((Zg dq bne_iff_ne)).1 hb1
     refine irk 4 (.n 29 (.b true) (.d (.k (.k .z)))) (ie ?_)
     exact wk [0] (fw (fc (x:=.b true) (lb (by simp only [hb1];rfl)) fl))
    have hp2:¬(((x1.cons.length:Int)>3)∨(x1.frm≠0)):=Zd (Zg dq bne_iff_ne) hb1
    refine irK 4 (.n 29 (.b (x1.to_ != 0)) (.d (.k (.k .z)))) [0] [b1] (ie ?_)
    exact wk [0] (fw (fc (x:=.b (x1.to_ != 0)) (lb (by simp only [hb1];rfl)) fl))
   refine ac (((decide ((x1.cons.length:Int)>3))||(x1.frm != 0))||(x1.to_ != 0)) (p:=(((x1.cons.length:Int)>3)∨(x1.frm≠0))∨(x1.to_≠0)) (Zg (Zg dq bne_iff_ne) bne_iff_ne) (fun hc2=>?_) (fun hc2=>?_)
   ·refine ar (ir 1 [(4,.b false)] (ie ?_))
    exact at_ (r2 [] [.b false] ⟨rfl,rfl⟩ (lb (by clear hx1;first|rfl|omega|grind [Z3j])))
   refine ak (aq (ar (ir 1 [(0,Z2 ds),(5,.p b1 0),(6,.i 0)] (ie (ab 0 (al (fun m F h=>∃(k:Nat),(k≤x1.cons.length)∧(Z4a ds.length (x1.cons.drop k)=Z4a ds.length x1.cons)∧F=[(0,Z2 ds),(5,.p b1 0),(6,.i k)]∧h=[.obj b1 (Z2g x1)]∧m=x1.cons.length-k) _ _ _ ⟨0,ob,ob,rfl,rfl,rfl⟩ (wk [0] (fw (fc (x:=.i 0) li fl))) ?_))))))
   rintro m F h ⟨k,c0_0,c0_1,rfl,rfl,rfl⟩
   refine aq (ar (irK 3 (.n 30 (.i k) (.n 32 (nCon x1.cons) .r)) [0] [b1] (iw (Z0k x1.cons) (irk 1 (.n 34 (.b (decide ((k:Int)<(x1.cons.length:Int)))) .r) (ie (ac (decide ((k:Int)<(x1.cons.length:Int))) dq (fun hc3=>?_) (fun hc3=>?_)))))))
   ·refine ak (aq (ab 1 (ar (irK 3 (.n 38 (nCon x1.cons) (.n 39 (.i k) .r)) [0] [b1] ?_))))
    obtain ⟨x2,hx2⟩:=Z6 (xs:=x1.cons) (j:=k) om
    refine is_ (Z0 (es:=Z37 x1.cons) (hv:=none) (j:=(k:Int)) (sz:=1) (y:=aCon x2) kr om (Z4g hx2) rfl) (irk 2 (.n 42 (nInt x2.fields) .r) (iw (Z4 x2.fields) (Z24 [(0,Z2 ds),(5,.p b1 0),(6,.i k),(55,.b ((decide ((x2.fields.length:Int)>3))||(!Z1p ds.length x2.fields)))] [.obj b1 (Z2g x1)] ?_ ?_)))
    ·refine ir 2 [(0,Z2 ds),(5,.p b1 0),(6,.i k),(45,.b (decide ((x2.fields.length:Int)>3)))] (ib (b:=(decide ((x2.fields.length:Int)>3))) 45 (fun hb2=>?_) (fun hb2=>?_))
     ·have hp3:(x2.fields.length:Int)>3:=(dq).1 hb2
      refine irk 10 (.n 55 (.b true) (.d (.k (.k (.k .z))))) (ie ?_)
      exact wk [0] (fw (fr (fc (x:=.b true) (lb (by simp only [hb2];rfl)) fl)))
     have hp4:¬((x2.fields.length:Int)>3):=Zd dq hb2
     refine irK 4 (.n 46 (Z2 ds) (.n 48 (nCon x1.cons) (.n 49 (.i k) (.w .z)))) [0] [b1] (is_ (Z0 (es:=Z37 x1.cons) (hv:=none) (j:=(k:Int)) (sz:=1) (y:=aCon x2) kr om (Z4g hx2) rfl) (irk 2 (.n 52 (nInt x2.fields) .r) (ic [] (Z9n ds x2.fields) ?_)))
     rintro _ _ ⟨rfl,rfl⟩
     refine irk 2 (.n 55 (.b (!Z1p ds.length x2.fields)) .r) (ie ?_)
     exact wk [0] (fw (fr (fc (x:=.b (!Z1p ds.length x2.fields)) (lb (by simp only [hb2];rfl)) fl)))
    refine ac ((decide ((x2.fields.length:Int)>3))||(!Z1p ds.length x2.fields)) (p:=((x2.fields.length:Int)>3)∨(¬(Z1p ds.length x2.fields=true))) (Zg dq (Zc Iff.rfl)) (fun hc4=>?_) (fun hc4=>?_)
    ·refine ar (ir 1 [(4,.b false)] (ie ?_))
     rw [Z5 hx2] at c0_1
     exact at_ (r2 [] [.b false] ⟨rfl,rfl⟩ (lb (by clear hx1 hx2;first|rfl|omega|grind [Z4a,Z9z,Z3j])))
    refine ak (az (ir 1 [(0,Z2 ds),(5,.p b1 0),(35,.i k)] (ia (((k+1:Nat):Int)) (((k:Int))+(1)) (irk 1 (.n 6 (.i (k+1:Nat)) .r) (ie ?_)))))
    have hdr:=Z5 hx2
    exact ⟨_,_,_,ob,⟨k+1,ob,(by rw [hdr] at c0_1;clear hdr hx1 hx2;grind [Z4a,Z9z]),rfl,rfl,rfl⟩,(wk [0] (fw (fc (x:=.i (k+1:Nat)) li fl)))⟩
   refine ax 0 (ar (ir 1 [(4,.b true)] (ie ?_)))
   try rw [Zt (xs:=x1.cons) (k:=k) om] at c0_1
   exact at_ (r2 [] [.b true] ⟨rfl,rfl⟩ (lb (by clear hx1;first|rfl|omega|grind [Z4a,Z9z,Z3j])))
  refine ir 2 [(0,Z2 ds),(5,.p b1 0),(20,.b (decide ((x1.cons.length:Int)>3)))] (ib (b:=(decide ((x1.cons.length:Int)>3))) 20 (fun hb3=>?_) (fun hb3=>?_))
  ·have hp5:(x1.cons.length:Int)>3:=(dq).1 hb3
   refine irk 4 (.n 24 (.b true) (.d (.k (.k .z)))) ?_
   exact Zy (wk [0] (fw (fc (x:=.b true) (lb (by simp only [hb3];rfl)) fl))) hj1
  have hp6:¬((x1.cons.length:Int)>3):=Zd dq hb3
  refine irK 4 (.n 24 (.b (x1.frm != 0)) (.d (.k (.k .z)))) [0] [b1] ?_
  exact Zy (wk [0] (fw (fc (x:=.b (x1.frm != 0)) (lb (by simp only [hb3];rfl)) fl))) hj1
 refine ak (aq (ar (irk 1 (.n 7 (.i 0) .r) (ie (ab 2 (al (fun m F h=>∃(j:Nat),(j≤n)∧(Zcc x1 ((ds.take n).drop j)=Zcc x1 (ds.take n))∧F=[(0,Z2 ds),(1,.i n),(5,.p b1 0),(7,.i j)]∧h=[.obj b1 (Z2g x1)]∧m=n-j) _ _ _ ⟨0,ob,ob,rfl,rfl,rfl⟩ (wk [0] (fw (fr (fc (x:=.i 0) li fl)))) ?_))))))
 rintro m F h ⟨j,c1_0,c1_1,rfl,rfl,rfl⟩
 refine aq (ar (irk 3 (.n 58 (.b (decide ((j:Int)<(n:Int)))) .r) (ie (ac (decide ((j:Int)<(n:Int))) dq (fun hc5=>?_) (fun hc5=>?_)))))
 ·refine ak (aq (ab 3 (aD 27 (dtk (fuel:=25) 27 [0,1] (.n 61 (Z2 ds) (.n 62 (.i j) .r)) ?_))))
  obtain ⟨x3,hx3⟩:=Z6 (xs:=ds) (j:=j) om
  refine dx 2 (Z0 (es:=Z0i ds) (hv:=none) (j:=(j:Int)) (sz:=3) (y:=Z2s x3) kr om (Z0z hx3) rfl) (dtk (fuel:=22) 24 [3,4] (.n 65 (nCon x3.cons) .r) (dw 5 (Z0k x3.cons) (Zca [(0,Z2 ds),(1,.i n),(5,.p b1 0),(7,.i j),(87,.b (((x3.cons.length:Int)==0)&&((x3.frm==x1.frm)&&(x3.to_==x1.to_))))] [.obj b1 (Z2g x1)] ?_ ?_)))
  ·refine dt (fuel:=19) 21 [6,7] [(0,Z2 ds),(1,.i n),(5,.p b1 0),(7,.i j),(68,.b ((x3.cons.length:Int)==0))] (db (b:=((x3.cons.length:Int)==0)) 68 (fun hb4=>?_) (fun hb4=>?_))
   ·have hp7:(x3.cons.length:Int)=0:=(beq_iff_eq).1 hb4
    refine dtk (fuel:=17) 19 [8,9] (.n 69 (Z2 ds) (.n 70 (.i j) (.w (.k .z)))) (dx 10 (Z0 (es:=Z0i ds) (hv:=none) (j:=(j:Int)) (sz:=3) (y:=Z2s x3) kr om (Z0z hx3) rfl) (dtK (fuel:=9) 16 [11,12,13,14,15,16,17] (.n 78 (.b (x3.frm==x1.frm)) .r) [0] [b1] (db (b:=(x3.frm==x1.frm)) 78 (fun hb5=>?_) (fun hb5=>?_))))
    ·have hp8:x3.frm=x1.frm:=(beq_iff_eq).1 hb5
     refine dtk (fuel:=7) 9 [18,19] (.n 79 (Z2 ds) (.n 80 (.i j) (.k (.d .r)))) (dx 20 (Z0 (es:=Z0i ds) (hv:=none) (j:=(j:Int)) (sz:=3) (y:=Z2s x3) kr om (Z0z hx3) rfl) (dtK (fuel:=0) 6 [21,22,23,24,25,26] (.n 87 (.b (x3.to_==x1.to_)) .r) [0] [b1] (de ?_)))
     exact wk [0] (fq (fc (x:=.b (x3.to_==x1.to_)) (lb (by simp only [hb4,hb5];rfl)) fl))
    have hp9:¬(x3.frm=x1.frm):=Zd beq_iff_eq hb5
    refine dtk (fuel:=0) 9 [18,19,20,21,22,23,24,25,26] (.n 87 (.b false) (.k (.d .r))) (de ?_)
    exact wk [0] (fq (fc (x:=.b false) (lb (by simp only [hb4,hb5];rfl)) fl))
   have hp10:¬((x3.cons.length:Int)=0):=Zd beq_iff_eq hb4
   refine dtk (fuel:=0) 19 [8,9,10,11,12,13,14,15,16,17,18,19,20,21,22,23,24,25,26] (.n 87 (.b false) (.d (.w .z))) (de ?_)
   exact wk [0] (fq (fc (x:=.b false) (lb (by simp only [hb4];rfl)) fl))
  refine ac (((x3.cons.length:Int)==0)&&((x3.frm==x1.frm)&&(x3.to_==x1.to_))) (p:=((x3.cons.length:Int)=0)∧((x3.frm=x1.frm)∧(x3.to_=x1.to_))) (Zj beq_iff_eq (Zj beq_iff_eq beq_iff_eq)) (fun hc6=>?_) (fun hc6=>?_)
  ·refine ar (ir 1 [(4,.b false)] (ie ?_))
   rw [Z5 (show (ds.take n)[j]? = some x3 by rw [List.getElem?_take,if_pos om];exact hx3),Zcc,if_pos om] at c1_1
   exact at_ (r2 [] [.b false] ⟨rfl,rfl⟩ (lb (by clear hx1 hx3;first|rfl|omega|grind [Z3j])))
  refine ak (az (ir 1 [(0,Z2 ds),(1,.i n),(5,.p b1 0),(59,.i j)] (ia (((j+1:Nat):Int)) (((j:Int))+(1)) (hb:=(by have:=hz.len;omega)) (irk 1 (.n 7 (.i (j+1:Nat)) .r) (ie ?_)))))
  have hdr:=Z5 hx3
  exact ⟨_,_,_,ob,⟨j+1,ob,(by rw [Z5 (show (ds.take n)[j]? = some x3 by rw [List.getElem?_take,if_pos om];exact hx3),Zcc,if_neg om] at c1_1;exact c1_1),rfl,rfl,rfl⟩,(wk [0] (fw (fr (fc (x:=.i (j+1:Nat)) li fl))))⟩
 refine ax 2 (ar (irK 3 (.n 89 (.i x1.frm) (.n 90 (Z2 ds) .r)) [0] [b1] (iw (Z0c ds) (ic [] (Z0w x1.frm 0 (ds.length:Int)) ?_))))
 rintro _ _ ⟨rfl,rfl⟩
 refine Z1n 12 [(99,.b ((decide (0≤x1.frm∧x1.frm≤(ds.length:Int)))&&(decide (0≤x1.to_∧x1.to_≤(ds.length:Int)))))] [.obj b1 (Z2g x1)] ?_ (fun hj2=>?_)
 ·refine ir 1 [(4,.b ((decide (0≤x1.frm∧x1.frm≤(ds.length:Int)))&&(decide (0≤x1.to_∧x1.to_≤(ds.length:Int)))))] (ie ?_)
  rw [Zt (show (ds.take n).length≤j by rw [List.length_take];omega),Zcc] at c1_1
  exact at_ (r2 [] [.b ((decide (0≤x1.frm∧x1.frm≤(ds.length:Int)))&&(decide (0≤x1.to_∧x1.to_≤(ds.length:Int))))] ⟨rfl,rfl⟩ (lb (by clear hx1;first|rfl|omega|grind [Z3j])))
 refine ir 1 [(0,Z2 ds),(5,.p b1 0),(93,.b (decide (0≤x1.frm∧x1.frm≤(ds.length:Int))))] (ib (b:=(decide (0≤x1.frm∧x1.frm≤(ds.length:Int)))) 93 (fun hb6=>?_) (fun hb6=>?_))
 ·have hp11:0≤x1.frm∧x1.frm≤(ds.length:Int):=(dq).1 hb6
  refine irK 3 (.n 95 (.i x1.to_) (.n 96 (Z2 ds) (.k .z))) [0] [b1] (iw (Z0c ds) (ic [] (Z0w x1.to_ 0 (ds.length:Int)) ?_))
  rintro _ _ ⟨rfl,rfl⟩
  refine ir 1 [(99,.b (decide (0≤x1.to_∧x1.to_≤(ds.length:Int))))] ?_
  exact Zy (wk [0] (fc (x:=.b (decide (0≤x1.to_∧x1.to_≤(ds.length:Int)))) (lb (by simp only [hb6];rfl)) fl)) hj2
 have hp12:¬(0≤x1.frm∧x1.frm≤(ds.length:Int)):=Zd dq hb6
 refine ir 6 [(99,.b false)] ?_
 exact Zy (wk [0] (fc (x:=.b false) (lb (by simp only [hb6];rfl)) fl)) hj2
theorem Zdg (ds:List Decl) (hz:DSz ds:=by exact ob):Z3 Tryz.prog 180 [Z2 ds] [] (fun r h=>r=.b (Zw ds)∧h=[]):=by
 have hzl:=hz.len
 refine enter Tryz.func180 kr (n:=17) kr kr (ar (ir 1 [(0,Z2 ds)] (ie (aq (ar (irk 1 (.n 4 (Z2 ds) .r) (iw (Z0c ds) (irk 1 (.n 6 (.b (decide ((ds.length:Int)>4))) .r) (ie (ac (decide ((ds.length:Int)>4)) dq (fun hc1=>?_) (fun hc1=>?_)))))))))))
 ·refine ar (ir 1 [(2,.b false)] (ie ?_))
  exact at_ (r2 [] [.b false] ⟨rfl,rfl⟩ (lb (by first|rfl|omega|grind [Zw])))
 refine ak (aq (ar (irk 1 (.n 3 (.i 0) .r) (ie (ab 0 (al (fun m F h=>∃(k:Nat),(k≤ds.length)∧(Z3t ds (ds.drop k) k=Z3t ds ds 0)∧F=[(0,Z2 ds),(3,.i k)]∧h=[]∧m=ds.length-k) _ _ _ ⟨0,ob,ob,rfl,rfl,rfl⟩ (wk [] (fr (fc (x:=.i 0) li fl))) ?_))))))
 rintro m F h ⟨k,c0_0,c0_1,rfl,rfl,rfl⟩
 refine aq (ar (irk 2 (.n 7 (.i k) (.n 8 (Z2 ds) .r)) (iw (Z0c ds) (irk 1 (.n 10 (.b (decide ((k:Int)<(ds.length:Int)))) .r) (ie (ac (decide ((k:Int)<(ds.length:Int))) dq (fun hc2=>?_) (fun hc2=>?_)))))))
 ·refine ak (aq (ab 1 (ar (irk 2 (.n 13 (Z2 ds) (.n 14 (.i k) .r)) (ic [] (Zen ds k) ?_)))))
  rintro _ _ ⟨rfl,rfl⟩
  refine irk 1 (.n 16 (.b (!Za2 ds k)) .r) (ie (ac (!Za2 ds k) (p:=¬(Za2 ds k=true)) (Zc Iff.rfl) (fun hc3=>?_) (fun hc3=>?_)))
  ·refine ar (ir 1 [(2,.b false)] (ie ?_))
   try rw [Zt (xs:=ds) (k:=k) om] at c0_1
   obtain ⟨x1,hx1⟩:=Z6 (xs:=ds) (j:=k) om
   rw [Z5 hx1] at c0_1
   exact at_ (r2 [] [.b false] ⟨rfl,rfl⟩ (lb (by first|rfl|omega|grind [Z3t,Zw])))
  refine ak (az (irk 1 (.n 11 (.i k) .r) (ia (((k+1:Nat):Int)) (((k:Int))+(1)) (ir 1 [(0,Z2 ds),(3,.i (k+1:Nat))] (ie ?_)))))
  obtain ⟨x1,hx1⟩:=Z6 (xs:=ds) (j:=k) om
  have hdr:=Z5 hx1
  exact ⟨_,_,_,ob,⟨k+1,ob,(by rw [hdr] at c0_1;clear hdr ;grind [Z3t]),rfl,rfl,rfl⟩,(wk [] (fr (fc (x:=.i (k+1:Nat)) li fl)))⟩
 refine ax 0 (ar (ir 1 [(2,.b true)] (ie ?_)))
 try rw [Zt (xs:=ds) (k:=k) om] at c0_1
 exact at_ (r2 [] [.b true] ⟨rfl,rfl⟩ (lb (by first|rfl|omega|grind [Z3t,Zw])))
theorem Zin (n:Normal) (hz:n.routines.length≤4194304:=by exact ob):Z3 Tryz.prog 143 [Zi n] [] (fun r h=>r=.agg [Z2 n.decls,.sl (eSgs (n.routines.map Z5p)) none]∧h=[]):=by
 refine enter Tryz.func143 kr (n:=35) kr kr (ar (iA (Zh n) ?_))
 intro b1
 refine iA [nl,nl] ?_
 intro b2
 refine ie (ar (iR 2 [(1,.p b1 0),(2,.p b2 0),(6,Z2 n.decls)] [1] [b1] (iL (eSgs []) 0 5 ?_)))
 intro v1
 refine irk 1 (.n 8 (.agg [Z2 n.decls,.sl (eSgs []) (some v1)]) .r) (iA [nl,nl] ?_)
 intro b3
 refine iS 0 b3 0 [Z2 n.decls,.sl (eSgs []) (some v1)] [nl,nl] [Z2 n.decls,.sl (eSgs []) (some v1)] (ie (aq (ar (irk 1 (.n 4 (.i 0) .r) (ie (ab 0 (al (fun m F h=>∃(k:Nat) (v:Value),(k≤n.routines.length)∧F=[(1,.p b1 0),(2,.p b2 0),(3,.p b3 0),(4,.i k)]∧h=[.obj b3 [Z2 n.decls,.sl (eSgs ((n.routines.take k).map Z5p)) (some v)],.obj b2 [nl,nl],.obj b1 (Zh n),.tail v 5]∧m=n.routines.length-k) _ _ _ ⟨0,v1,ob,rfl,rfl,rfl⟩ (wk [0,1,1,0] (fw (fr (fc (x:=.i 0) li fl)))) ?_)))))))
 rintro m F h ⟨k,v,c0_0,rfl,rfl,rfl⟩
 refine aq (ar (irK 3 (.n 9 (.i k) (.n 11 (nRoutine n.routines) .r)) [2] [b1] (iw (Z0a n.routines) (irk 1 (.n 13 (.b (decide ((k:Int)<(n.routines.length:Int)))) .r) (ie (ac (decide ((k:Int)<(n.routines.length:Int))) dq (fun hc1=>?_) (fun hc1=>?_)))))))
 ·refine ak (aq (ab 1 (aE 19 (dtK (fuel:=14) 19 [0,1,2,3,4] (.n 17 (.sl (eSgs ((n.routines.take k).map Z5p)) (some v)) (.n 19 (nRoutine n.routines) (.n 20 (.i k) .r))) [0,2] [b3,b1] ?_))))
  obtain ⟨x1,hx1⟩:=Z6 (xs:=n.routines) (j:=k) om
  refine dx 5 (Z0 (es:=Z0p n.routines) (hv:=none) (j:=(k:Int)) (sz:=5) (y:=Z0s x1) kr om (Z0v hx1) rfl) (dtK (fuel:=8) 13 [6,7,8,9,10] (.n 23 (nInt x1.params) (.n 25 (nRoutine n.routines) (.n 26 (.i k) .r))) [2] [b1] (dx 11 (Z0 (es:=Z0p n.routines) (hv:=none) (j:=(k:Int)) (sz:=5) (y:=Z0s x1) kr om (Z0v hx1) rfl) (dtk (fuel:=4) 7 [12,13,14] (.n 30 (.agg [nInt x1.params,.i x1.result,.i 0,.i 0,.sl [] none]) .r) (do_ 15 (dL 15 [0] [b3] (eSgs [Sg.mk x1.params x1.result]) 1 5 ?_)))))
  intro v2
  refine dtk (fuel:=3) 3 [] (.n 31 (.sl (eSgs [Sg.mk x1.params x1.result]) none) (.p .r)) (do_ 16 (dp 16 4 [] [] (eSgs ((n.routines.take (k+1)).map Z5p)) (eSgs ((n.routines.take k).map Z5p)) (eSgs [Sg.mk x1.params x1.result]) v none 5 (Zqu _) (Zqu _) (Zzv _) (by simp<;>omega) (by rw [Z1l hx1];simp [eSgs,Z5p]) ?_))
  intro v3
  refine dtk (fuel:=1) 2 [17] (.n 33 (.p b3 1) .r) (do_ 18 (dS 18 2 [] [] b3 1 [.sl (eSgs ((n.routines.take (k+1)).map Z5p)) (some v3)] [Z2 n.decls,.sl (eSgs ((n.routines.take k).map Z5p)) (some v)] [Z2 n.decls,.sl (eSgs ((n.routines.take (k+1)).map Z5p)) (some v3)] (de (az (irk 1 (.n 14 (.i k) .r) (ia (((k+1:Nat):Int)) (((k:Int))+(1)) (ir 1 [(1,.p b1 0),(2,.p b2 0),(3,.p b3 0),(4,.i (k+1:Nat))] (ie ?_))))))))
  have hdr:=Z5 hx1
  exact ⟨_,_,_,ob,⟨k+1,v3,ob,rfl,rfl,rfl⟩,(wk [0,2,2,0] (fw (fr (fc (x:=.i (k+1:Nat)) li fl))))⟩
 refine ax 0 (ar (irK 1 (.n 34 (.agg [Z2 n.decls,.sl (eSgs ((n.routines.take k).map Z5p)) (some v)]) .r) [0] [b3] (iS 1 b2 0 [Z2 n.decls,.sl (eSgs ((n.routines.take k).map Z5p)) (some v)] [nl,nl] [Z2 n.decls,.sl (eSgs ((n.routines.take k).map Z5p)) (some v)] (ie ?_))))
 exact at_ (r3 [] [.agg [Z2 n.decls,.sl (eSgs ((n.routines.take k).map Z5p)) (some v)]] [0] [(b2,b2)] ⟨rfl,rfl⟩ (AVLe.agg (.cons (lr _) (.cons (AVLe.sl _ (congrArg eSgs (by rw [show k=n.routines.length by omega,List.take_length]))) .nil))))
theorem Zeq (ds:List Decl) (fs:List Sg) (hz:DSz ds:=by exact ob) (hf:∀f∈fs,f.params.length≤4194304):Z3 Tryz.prog 142 [.agg [Z2 ds,.sl (eSgs fs) none]] [] (fun r h=>r=.b (Z2v ds fs)∧h=[]):=by
 have hzl:=hz.len
 refine enter Tryz.func142 kr (n:=64) kr kr (ar (iA [Z2 ds,.sl (eSgs fs) none] ?_))
 intro b1
 refine ir 1 [(1,.p b1 0)] (ie (aq (ar (irK 2 (.n 6 (Z2 ds) .r) [0] [b1] (ic [] (Zdg ds) ?_)))))
 rintro _ _ ⟨rfl,rfl⟩
 refine Z24 [(1,.p b1 0),(15,.b ((!Zw ds)||(!(decide (1≤(fs.length:Int)∧(fs.length:Int)≤4)))))] [.obj b1 [Z2 ds,.sl (eSgs fs) none]] ?_ ?_
 ·refine ir 2 [(1,.p b1 0),(9,.b (!Zw ds))] (ib (b:=(!Zw ds)) 9 (fun hb1=>?_) (fun hb1=>?_))
  ·have hp1:¬(Zw ds=true):=((Zc Iff.rfl)).1 hb1
   refine ir 6 [(1,.p b1 0),(15,.b true)] (ie ?_)
   exact wk [0] (fr (fc (x:=.b true) (lb (by simp only [hb1];rfl)) fl))
  have hp2:¬(¬(Zw ds=true)):=Zd (Zc Iff.rfl) hb1
  refine irK 2 (.n 11 (.sl (eSgs fs) none) (.k (.k .z))) [0] [b1] (iw (Zgu fs) (ic [] (Z0w (fs.length:Int) 1 4) ?_))
  rintro _ _ ⟨rfl,rfl⟩
  refine irk 2 (.n 15 (.b (!(decide (1≤(fs.length:Int)∧(fs.length:Int)≤4)))) .r) (ie ?_)
  exact wk [0] (fr (fc (x:=.b (!(decide (1≤(fs.length:Int)∧(fs.length:Int)≤4)))) (lb (by simp only [hb1];rfl)) fl))
 refine ac ((!Zw ds)||(!(decide (1≤(fs.length:Int)∧(fs.length:Int)≤4)))) (p:=(¬(Zw ds=true))∨(¬(1≤(fs.length:Int)∧(fs.length:Int)≤4))) (Zg (Zc Iff.rfl) (Zc dq)) (fun hc1=>?_) (fun hc1=>?_)
 ·refine ar (ir 1 [(2,.b false)] (ie ?_))
  exact at_ (r2 [] [.b false] ⟨rfl,rfl⟩ (lb (by first|rfl|omega|grind [Z2v])))
 refine ak (aq (ar (ir 1 [(1,.p b1 0),(3,.i 0)] (ie (ab 0 (al (fun m F h=>∃(k:Nat),(k≤fs.length)∧(Z6s ds.length (fs.drop k)=Z6s ds.length fs)∧F=[(1,.p b1 0),(3,.i k)]∧h=[.obj b1 [Z2 ds,.sl (eSgs fs) none]]∧m=fs.length-k) _ _ _ ⟨0,ob,ob,rfl,rfl,rfl⟩ (wk [0] (fr (fc (x:=.i 0) li fl))) ?_))))))
 rintro m F h ⟨k,c0_0,c0_1,rfl,rfl,rfl⟩
 refine aq (ar (irK 3 (.n 16 (.i k) (.n 18 (.sl (eSgs fs) none) .r)) [0] [b1] (iw (Zgu fs) (irk 1 (.n 20 (.b (decide ((k:Int)<(fs.length:Int)))) .r) (ie (ac (decide ((k:Int)<(fs.length:Int))) dq (fun hc2=>?_) (fun hc2=>?_)))))))
 ·refine ak (aq (ab 1 (ar (irK 3 (.n 24 (.sl (eSgs fs) none) (.n 25 (.i k) .r)) [0] [b1] ?_))))
  obtain ⟨x1,hx1⟩:=Z6 (xs:=fs) (j:=k) om
  refine is_ (Z0 (es:=eSgs fs) (hv:=none) (j:=(k:Int)) (sz:=5) (y:=.agg [nInt x1.params,.i x1.result,.i 0,.i 0,.sl [] none]) kr om (Zkj hx1) rfl) (irk 1 (.n 27 (.agg [nInt x1.params,.i x1.result,.i 0,.i 0,.sl [] none]) .r) (iA [nl,.i 0,.i 0,.i 0,nl] ?_))
  intro b2
  refine iS 0 b2 0 [nInt x1.params,.i x1.result,.i 0,.i 0,.sl [] none] [nl,.i 0,.i 0,.i 0,nl] [nInt x1.params,.i x1.result,.i 0,.i 0,.sl [] none] (ie (ar (irK 2 (.n 29 (nInt x1.params) .r) [0] [b2] (iw (Z4 x1.params) (Z1n 12 [(1,.p b1 0),(3,.i k),(4,.p b2 0),(39,.b ((decide ((x1.params.length:Int)>3))||(!Z1p ds.length x1.params)))] [.obj b2 [nInt x1.params,.i x1.result,.i 0,.i 0,.sl [] none],.obj b1 [Z2 ds,.sl (eSgs fs) none]] ?_ (fun hj1=>?_))))))
  ·refine Z24 [(1,.p b1 0),(3,.i k),(48,.b (((decide ((x1.params.length:Int)>3))||(!Z1p ds.length x1.params))||(!(decide (0≤x1.result∧x1.result≤(ds.length:Int))))))] [.obj b2 [nInt x1.params,.i x1.result,.i 0,.i 0,.sl [] none],.obj b1 [Z2 ds,.sl (eSgs fs) none]] ?_ ?_
   ·refine ir 1 [(1,.p b1 0),(3,.i k),(4,.p b2 0),(40,.b ((decide ((x1.params.length:Int)>3))||(!Z1p ds.length x1.params)))] (ib (b:=((decide ((x1.params.length:Int)>3))||(!Z1p ds.length x1.params))) 40 (fun hb2=>?_) (fun hb2=>?_))
    ·have hp3:((x1.params.length:Int)>3)∨(¬(Z1p ds.length x1.params=true)):=((Zg dq (Zc Iff.rfl))).1 hb2
     refine irk 8 (.n 48 (.b true) (.d (.k (.k .z)))) (ie ?_)
     exact wk [0,0] (fw (fc (x:=.b true) (lb (by simp only [hb2];rfl)) fl))
    have hp4:¬(((x1.params.length:Int)>3)∨(¬(Z1p ds.length x1.params=true))):=Zd (Zg dq (Zc Iff.rfl)) hb2
    refine irK 4 (.n 42 (.i x1.result) (.n 44 (Z2 ds) (.k (.k (.k .z))))) [0,1] [b2,b1] (iw (Z0c ds) (ic [] (Z0w x1.result 0 (ds.length:Int)) ?_))
    rintro _ _ ⟨rfl,rfl⟩
    refine irk 2 (.n 48 (.b (!(decide (0≤x1.result∧x1.result≤(ds.length:Int))))) .r) (ie ?_)
    exact wk [0,0] (fw (fc (x:=.b (!(decide (0≤x1.result∧x1.result≤(ds.length:Int))))) (lb (by simp only [hb2];rfl)) fl))
   refine ac (((decide ((x1.params.length:Int)>3))||(!Z1p ds.length x1.params))||(!(decide (0≤x1.result∧x1.result≤(ds.length:Int))))) (p:=(((x1.params.length:Int)>3)∨(¬(Z1p ds.length x1.params=true)))∨(¬(0≤x1.result∧x1.result≤(ds.length:Int)))) (Zg (Zg dq (Zc Iff.rfl)) (Zc dq)) (fun hc3=>?_) (fun hc3=>?_)
   ·refine ar (ir 1 [(2,.b false)] (ie ?_))
    rw [Z5 hx1] at c0_1
    exact at_ (r2 [] [.b false] ⟨rfl,rfl⟩ (lb (by clear hx1;first|rfl|omega|grind [Z6s,Z9m,Z2v])))
   refine ak (az (ir 1 [(1,.p b1 0),(21,.i k)] (ia (((k+1:Nat):Int)) (((k:Int))+(1)) (irk 1 (.n 3 (.i (k+1:Nat)) .r) (ie ?_)))))
   have hdr:=Z5 hx1
   exact ⟨_,_,_,ob,⟨k+1,ob,(by rw [hdr] at c0_1;clear hdr hx1;grind [Z6s,Z9m]),rfl,rfl,rfl⟩,(wk [1] (fr (fc (x:=.i (k+1:Nat)) li fl)))⟩
  refine ir 2 [(1,.p b1 0),(3,.i k),(4,.p b2 0),(32,.b (decide ((x1.params.length:Int)>3)))] (ib (b:=(decide ((x1.params.length:Int)>3))) 32 (fun hb3=>?_) (fun hb3=>?_))
  ·have hp5:(x1.params.length:Int)>3:=(dq).1 hb3
   refine irk 7 (.n 39 (.b true) (.d (.k (.k (.k .z))))) ?_
   exact Zy (wk [0,0] (fw (fr (fc (x:=.b true) (lb (by simp only [hb3];rfl)) fl)))) hj1
  have hp6:¬((x1.params.length:Int)>3):=Zd dq hb3
  refine irK 4 (.n 34 (Z2 ds) (.n 36 (nInt x1.params) (.w .z))) [1,0] [b1,b2] (ic [] (Z9n ds x1.params) ?_)
  rintro _ _ ⟨rfl,rfl⟩
  refine irk 2 (.n 39 (.b (!Z1p ds.length x1.params)) .r) ?_
  exact Zy (wk [0,0] (fw (fr (fc (x:=.b (!Z1p ds.length x1.params)) (lb (by simp only [hb3];rfl)) fl)))) hj1
 refine ax 0 (ar (irK 2 (.n 50 (.sl (eSgs fs) none) .r) [0] [b1] ?_))
 obtain ⟨x2,hx2⟩:=Z6 (xs:=fs) (j:=0) om
 have hfo:=Zpc hx2
 refine is_ (Z0 (es:=eSgs fs) (hv:=none) (j:=0) (sz:=5) (y:=.agg [nInt x2.params,.i x2.result,.i 0,.i 0,.sl [] none]) kr om (Zkj hx2) rfl) (irk 2 (.n 53 (nInt x2.params) .r) (iw (Z4 x2.params) (Z1n 15 [(63,.b (((x2.params.length:Int)==0)&&(x2.result==0)))] [.obj b1 [Z2 ds,.sl (eSgs fs) none]] ?_ (fun hj2=>?_))))
 ·refine ir 1 [(2,.b (((x2.params.length:Int)==0)&&(x2.result==0)))] (ie ?_)
  try rw [Zt (xs:=fs) (k:=k) om] at c0_1
  exact at_ (r2 [] [.b (((x2.params.length:Int)==0)&&(x2.result==0))] ⟨rfl,rfl⟩ (lb (by clear hx2;first|rfl|omega|grind [Z6s,Z9m,Z2v])))
 refine ir 2 [(1,.p b1 0),(56,.b ((x2.params.length:Int)==0))] (ib (b:=((x2.params.length:Int)==0)) 56 (fun hb4=>?_) (fun hb4=>?_))
 ·have hp7:(x2.params.length:Int)=0:=(beq_iff_eq).1 hb4
  refine irK 2 (.n 58 (.sl (eSgs fs) none) (.k .z)) [0] [b1] (is_ (Z0 (es:=eSgs fs) (hv:=none) (j:=0) (sz:=5) (y:=.agg [nInt x2.params,.i x2.result,.i 0,.i 0,.sl [] none]) kr om (Zkj hx2) rfl) (ir 4 [(63,.b (x2.result==0))] ?_))
  exact Zy (wk [0] (fc (x:=.b (x2.result==0)) (lb (by simp only [hb4];rfl)) fl)) hj2
 have hp8:¬((x2.params.length:Int)=0):=Zd beq_iff_eq hb4
 refine ir 7 [(63,.b false)] ?_
 exact Zy (wk [0] (fc (x:=.b false) (lb (by simp only [hb4];rfl)) fl)) hj2
theorem Zep (ps:List Int) (ls:List Int) (hl_ps:ps.length≤4294967296:=by exact ob) (hl_ls:ls.length≤4294967296:=by exact ob):Z3 Tryz.prog 144 [nInt ps,nInt ls] [] (fun r h=>r=.b (Z3e ps ls)∧h=[]):=by
 refine enter Tryz.func144 kr (n:=47) kr kr (ar (ir 1 [(0,nInt ps),(1,nInt ls)] (ie (aq (ar (irk 1 (.n 5 (.i 0) .r) (ie (ab 0 (al (fun m F h=>∃(k:Nat),(k≤ls.length)∧(Z43 ps (ls.drop k) (if k=0 then none else ls[k-1]?)=Z3e ps ls)∧F=[(0,nInt ps),(1,nInt ls),(5,.i k)]∧h=[]∧m=ls.length-k) _ _ _ ⟨0,ob,ob,rfl,rfl,rfl⟩ (wk [] (fw (fc (x:=.i 0) li fl))) ?_)))))))))
 rintro m F h ⟨k,c0_0,c0_1,rfl,rfl,rfl⟩
 refine aq (ar (irk 2 (.n 6 (.i k) (.n 7 (nInt ls) .r)) (iw (Z4 ls) (irk 1 (.n 9 (.b (decide ((k:Int)<(ls.length:Int)))) .r) (ie (ac (decide ((k:Int)<(ls.length:Int))) dq (fun hc1=>?_) (fun hc1=>?_)))))))
 ·refine ak (aq (ab 1 (aD 35 (dtk (fuel:=33) 35 [0,1] (.n 12 (nInt ls) (.n 13 (.i k) .r)) ?_))))
  obtain ⟨x1,hx1⟩:=Z6 (xs:=ls) (j:=k) om
  refine dx 2 (Z0 (es:=Z8 ls) (hv:=none) (j:=(k:Int)) (sz:=1) (y:=.i x1) kr om (Z9 hx1) rfl) (dtk (fuel:=30) 32 [3,4] (.n 15 (.i x1) (.n 16 (nInt ps) .r)) (dw 5 (Z4 ps) (da 6 (((ps.length:Int)-1)) (((ps.length:Int))-(1)) (do_ 7 (dc 7 [] [] [] (Z0w x1 0 ((ps.length:Int)-1)) ?_)))))
  rintro _ _ ⟨rfl,rfl⟩
  refine dtk (fuel:=25) 27 [8,9] (.n 21 (.b (!(decide (0≤x1∧x1≤((ps.length:Int)-1))))) .r) (db (b:=(!(decide (0≤x1∧x1≤((ps.length:Int)-1))))) 21 (fun hb1=>?_) (fun hb1=>?_))
  ·have hp1:¬(0≤x1∧x1≤((ps.length:Int)-1)):=((Zc dq)).1 hb1
   refine dtk (fuel:=0) 25 [10,11,12,13,14,15,16,17,18,19,20,21,22,23,24,25,26,27,28,29,30,31,32,33,34] (.n 46 (.b true) (.k (.d .r))) (de (ac1 (ar (ir 1 [(4,.b false)] (ie ?_)))))
   rw [Z5 hx1] at c0_1
   exact at_ (r2 [] [.b false] ⟨rfl,rfl⟩ (lb (by have hq:=Z7z (ps:=ps) (v:=x1) (r:=ls.drop (k+1)) (prev:=if k=0 then none else ls[k-1]?);rw [←c0_1,hq];rintro ⟨q1,q2,q3⟩;first|omega|(rw [hps] at q2;exact q2 (congrArg some om))|(have:=q3 _ (by rw [if_neg om,hls]);omega))))
  have hp2:¬(¬(0≤x1∧x1≤((ps.length:Int)-1))):=Zd (Zc dq) hb1
  refine dtk (fuel:=22) 25 [10,11,12] (.n 22 (nInt ps) (.n 23 (nInt ls) (.n 24 (.i k) (.k (.d .r))))) (dx 13 (Z0 (es:=Z8 ls) (hv:=none) (j:=(k:Int)) (sz:=1) (y:=.i x1) kr om (Z9 hx1) rfl) (dtk (fuel:=20) 21 [14] (.n 26 (.i x1) .r) ?_))
  obtain ⟨x2,hx2⟩:=Z6 (xs:=ps) (j:=x1.toNat) om
  have hps:=hx2
  refine dx 15 (Z0 (es:=Z8 ps) (hv:=none) (j:=x1) (sz:=1) (y:=.i x2) kr om (Z9 hx2) rfl) (dtk (fuel:=15) 19 [16,17,18,19] (.n 31 (.b (x2==0)) .r) (db (b:=(x2==0)) 31 (fun hb2=>?_) (fun hb2=>?_)))
  ·have hp3:x2=0:=(beq_iff_eq).1 hb2
   refine dtk (fuel:=0) 15 [20,21,22,23,24,25,26,27,28,29,30,31,32,33,34] (.n 46 (.b true) (.k (.d .r))) (de (ac1 (ar (ir 1 [(4,.b false)] (ie ?_)))))
   rw [Z5 hx1] at c0_1
   exact at_ (r2 [] [.b false] ⟨rfl,rfl⟩ (lb (by have hq:=Z7z (ps:=ps) (v:=x1) (r:=ls.drop (k+1)) (prev:=if k=0 then none else ls[k-1]?);rw [←c0_1,hq];rintro ⟨q1,q2,q3⟩;first|omega|(rw [hps] at q2;exact q2 (congrArg some om))|(have:=q3 _ (by rw [if_neg om,hls]);omega))))
  have hp4:¬(x2=0):=Zd beq_iff_eq hb2
  refine dtk (fuel:=12) 15 [20,21,22] (.n 34 (.b (decide ((k:Int)>0))) (.k (.d .r))) (db (b:=(decide ((k:Int)>0))) 34 (fun hb3=>?_) (fun hb3=>?_))
  ·have hp5:(k:Int)>0:=(dq).1 hb3
   refine dtk (fuel:=10) 12 [23,24] (.n 35 (nInt ls) (.n 36 (.i k) (.k (.d .r)))) (dx 25 (Z0 (es:=Z8 ls) (hv:=none) (j:=(k:Int)) (sz:=1) (y:=.i x1) kr om (Z9 hx1) rfl) (dtk (fuel:=6) 9 [26,27,28] (.n 38 (.i x1) (.n 39 (nInt ls) (.n 40 (.i k) .r))) (da 29 (((k-1:Nat):Int)) (((k:Int))-(1)) ?_)))
   obtain ⟨x3,hx3⟩:=Z6 (xs:=ls) (j:=k-1) om
   have hls:=hx3
   refine dx 30 (Z0 (es:=Z8 ls) (hv:=none) (j:=((k-1:Nat):Int)) (sz:=1) (y:=.i x3) kr om (Z9 hx3) rfl) (dtk (fuel:=0) 4 [31,32,33,34] (.n 46 (.b (decide (x1≤x3))) .r) (de (ac (decide (x1≤x3)) dq (fun hc2=>?_) (fun hc2=>?_))))
   ·refine ar (ir 1 [(4,.b false)] (ie ?_))
    rw [Z5 hx1] at c0_1
    exact at_ (r2 [] [.b false] ⟨rfl,rfl⟩ (lb (by have hq:=Z7z (ps:=ps) (v:=x1) (r:=ls.drop (k+1)) (prev:=if k=0 then none else ls[k-1]?);rw [←c0_1,hq];rintro ⟨q1,q2,q3⟩;first|omega|(rw [hps] at q2;exact q2 (congrArg some om))|(have:=q3 _ (by rw [if_neg om,hls]);omega))))
   refine ak (az (irk 1 (.n 10 (.i k) .r) (ia (((k+1:Nat):Int)) (((k:Int))+(1)) (ir 1 [(0,nInt ps),(1,nInt ls),(5,.i (k+1:Nat))] (ie ?_)))))
   have hl1:ls[k+1-1]? = some x1:=hx1
   have hlc:(0≤x1∧x1≤(ps.length:Int)-1)∧ps[x1.toNat]?≠some 0∧(∀p,(if k=0 then none else ls[k-1]?)=some p→p<x1):=⟨by omega,by rw [hps];intro q;cases q;omega,fun p hp=>by first|(rw [if_neg om,hls] at hp;cases hp;omega)|(rw [if_pos om] at hp;cases hp)⟩
   have hdr:=Z5 hx1
   exact ⟨_,_,_,ob,⟨k+1,ob,(by have hq:=Z9a (r:=ls.drop (k+1)) hlc;rw [hdr,hq] at c0_1;rw [if_neg om,hl1];exact c0_1),rfl,rfl,rfl⟩,(wk [] (fw (fc (x:=.i (k+1:Nat)) li fl)))⟩
  have hp6:¬((k:Int)>0):=Zd dq hb3
  refine dtk (fuel:=0) 12 [23,24,25,26,27,28,29,30,31,32,33,34] (.n 46 (.b false) (.k (.d .r))) (de (ac0 (ak (az (irk 1 (.n 10 (.i k) .r) (ia (((k+1:Nat):Int)) (((k:Int))+(1)) (ir 1 [(0,nInt ps),(1,nInt ls),(5,.i (k+1:Nat))] (ie ?_))))))))
  have hl1:ls[k+1-1]? = some x1:=hx1
  have hlc:(0≤x1∧x1≤(ps.length:Int)-1)∧ps[x1.toNat]?≠some 0∧(∀p,(if k=0 then none else ls[k-1]?)=some p→p<x1):=⟨by omega,by rw [hps];intro q;cases q;omega,fun p hp=>by first|(rw [if_neg om,hls] at hp;cases hp;omega)|(rw [if_pos om] at hp;cases hp)⟩
  have hdr:=Z5 hx1
  exact ⟨_,_,_,ob,⟨k+1,ob,(by have hq:=Z9a (r:=ls.drop (k+1)) hlc;rw [hdr,hq] at c0_1;rw [if_neg om,hl1];exact c0_1),rfl,rfl,rfl⟩,(wk [] (fw (fc (x:=.i (k+1:Nat)) li fl)))⟩
 refine ax 0 (ar (ir 1 [(4,.b true)] (ie ?_)))
 try rw [Zt (xs:=ls) (k:=k) om] at c0_1
 exact at_ (r2 [] [.b true] ⟨rfl,rfl⟩ (lb (by first|rfl|omega|grind [Z43])))
theorem Z9g (n:Normal) (hz:DSz n.decls:=by exact ob) (hr:∀r∈n.routines,r.params.length≤4194304∧r.lent.length≤4194304):Z3 Tryz.prog 97 [Zi n] [] (fun r h=>r=.b (Z0e n)∧h=[]):=by
 have hzl:=hz.len
 refine enter Tryz.func97 kr (n:=35) kr kr (ar (iA (Zh n) ?_))
 intro b1
 refine ir 1 [(1,.p b1 0)] (ie (aq (ar (irK 2 (.n 5 (nRoutine n.routines) .r) [0] [b1] (iw (Z0a n.routines) (Z24 [(1,.p b1 0),(13,.b ((decide ((n.routines.length:Int)>4))||(!Z2v n.decls (n.routines.map Z5p))))] [.obj b1 (Zh n)] ?_ ?_))))))
 ·refine ir 2 [(1,.p b1 0),(8,.b (decide ((n.routines.length:Int)>4)))] (ib (b:=(decide ((n.routines.length:Int)>4))) 8 (fun hb1=>?_) (fun hb1=>?_))
  ·have hp1:(n.routines.length:Int)>4:=(dq).1 hb1
   refine ir 5 [(1,.p b1 0),(13,.b true)] (ie ?_)
   exact wk [0] (fr (fc (x:=.b true) (lb (by simp only [hb1];rfl)) fl))
  have hp2:¬((n.routines.length:Int)>4):=Zd dq hb1
  refine irK 1 (.n 9 (Zi n) (.k (.k .z))) [0] [b1] (ic [] (Zin n) ?_)
  rintro _ _ ⟨rfl,rfl⟩
  refine ic [] (Zeq n.decls (n.routines.map Z5p) (hf:=(by intro f hf;obtain ⟨r,h1,rfl⟩:=List.mem_map.1 hf;exact (hr r h1).1))) ?_
  rintro _ _ ⟨rfl,rfl⟩
  refine irk 2 (.n 13 (.b (!Z2v n.decls (n.routines.map Z5p))) .r) (ie ?_)
  exact wk [0] (fr (fc (x:=.b (!Z2v n.decls (n.routines.map Z5p))) (lb (by simp only [hb1];rfl)) fl))
 refine ac ((decide ((n.routines.length:Int)>4))||(!Z2v n.decls (n.routines.map Z5p))) (p:=((n.routines.length:Int)>4)∨(¬(Z2v n.decls (n.routines.map Z5p)=true))) (Zg dq (Zc Iff.rfl)) (fun hc1=>?_) (fun hc1=>?_)
 ·refine ar (ir 1 [(2,.b false)] (ie ?_))
  exact at_ (r2 [] [.b false] ⟨rfl,rfl⟩ (lb (by first|rfl|omega|grind [Z0e])))
 refine ak (aq (ar (ir 1 [(1,.p b1 0),(3,.i 0)] (ie (ab 0 (al (fun m F h=>∃(k:Nat),(k≤n.routines.length)∧(Z51 (n.routines.drop k)=Z51 n.routines)∧F=[(1,.p b1 0),(3,.i k)]∧h=[.obj b1 (Zh n)]∧m=n.routines.length-k) _ _ _ ⟨0,ob,ob,rfl,rfl,rfl⟩ (wk [0] (fr (fc (x:=.i 0) li fl))) ?_))))))
 rintro m F h ⟨k,c0_0,c0_1,rfl,rfl,rfl⟩
 refine aq (ar (irK 3 (.n 14 (.i k) (.n 16 (nRoutine n.routines) .r)) [0] [b1] (iw (Z0a n.routines) (irk 1 (.n 18 (.b (decide ((k:Int)<(n.routines.length:Int)))) .r) (ie (ac (decide ((k:Int)<(n.routines.length:Int))) dq (fun hc2=>?_) (fun hc2=>?_)))))))
 ·refine ak (aq (ab 1 (aD 14 (dtK (fuel:=11) 14 [0,1,2] (.n 22 (nRoutine n.routines) (.n 23 (.i k) .r)) [0] [b1] ?_))))
  obtain ⟨x1,hx1⟩:=Z6 (xs:=n.routines) (j:=k) om
  refine dx 3 (Z0 (es:=Z0p n.routines) (hv:=none) (j:=(k:Int)) (sz:=5) (y:=Z0s x1) kr om (Z0v hx1) rfl) (dtK (fuel:=5) 10 [4,5,6,7,8] (.n 26 (nInt x1.params) (.n 28 (nRoutine n.routines) (.n 29 (.i k) .r))) [0] [b1] (dx 9 (Z0 (es:=Z0p n.routines) (hv:=none) (j:=(k:Int)) (sz:=5) (y:=Z0s x1) kr om (Z0v hx1) rfl) (dtk (fuel:=2) 4 [10,11] (.n 32 (nInt x1.lent) .r) (do_ 12 (dc 12 [] [] [] (Zep x1.params x1.lent (hl_ps:=(by have:=hr _ (List.mem_of_getElem? hx1);omega)) (hl_ls:=(by have:=hr _ (List.mem_of_getElem? hx1);omega))) ?_)))))
  rintro _ _ ⟨rfl,rfl⟩
  refine dtk (fuel:=0) 1 [13] (.n 34 (.b (!Z3e x1.params x1.lent)) .r) (de (ac (!Z3e x1.params x1.lent) (p:=¬(Z3e x1.params x1.lent=true)) (Zc Iff.rfl) (fun hc3=>?_) (fun hc3=>?_)))
  ·refine ar (ir 1 [(2,.b false)] (ie ?_))
   rw [Z5 hx1] at c0_1
   exact at_ (r2 [] [.b false] ⟨rfl,rfl⟩ (lb (by clear hx1;first|rfl|omega|grind [Z51,Z0e])))
  refine ak (az (irk 1 (.n 19 (.i k) .r) (ia (((k+1:Nat):Int)) (((k:Int))+(1)) (ir 1 [(1,.p b1 0),(3,.i (k+1:Nat))] (ie ?_)))))
  have hdr:=Z5 hx1
  exact ⟨_,_,_,ob,⟨k+1,ob,(by rw [hdr] at c0_1;clear hdr hx1;grind [Z51]),rfl,rfl,rfl⟩,(wk [0] (fr (fc (x:=.i (k+1:Nat)) li fl)))⟩
 refine ax 0 (ar (ir 1 [(2,.b true)] (ie ?_)))
 try rw [Zt (xs:=n.routines) (k:=k) om] at c0_1
 exact at_ (r2 [] [.b true] ⟨rfl,rfl⟩ (lb (by first|rfl|omega|grind [Z51,Z0e])))
theorem Z1t (op:Int) :Z3 Tryz.prog 133 [.i op] [] (fun r h=>r=.b (Zx op)∧h=[]):=by
 refine enter Tryz.func133 kr (n:=5) kr kr (ar (ir 1 [(0,.i op)] (ie (ar (ir 1 [(3,.i op)] (ic [] (Z0w op 0 11) ?_))))))
 rintro _ _ ⟨rfl,rfl⟩
 refine ir 1 [(2,.b (decide (0≤op∧op≤11)))] (ie ?_)
 exact at_ (r2 [] [.b (decide (0≤op∧op≤11))] ⟨rfl,rfl⟩ (lb (by first|rfl|omega|grind [Zx])))
theorem Zil (op:Int) :Z3 Tryz.prog 182 [.i op] [] (fun r h=>r=.b (Z20 op)∧h=[]):=by
 refine enter Tryz.func182 kr (n:=21) kr kr (ar (ir 1 [(0,.i op)] (ie (ar (Z1n 6 [(0,.i op),(8,.b ((op==0)||(op==6)))] [] ?_ (fun hj1=>?_))))))
 ·refine Z1n 10 [(0,.i op),(12,.b (((op==0)||(op==6))||(op==8)))] [] ?_ (fun hj2=>?_)
  ·refine Z1n 14 [(0,.i op),(16,.b ((((op==0)||(op==6))||(op==8))||(op==9)))] [] ?_ (fun hj3=>?_)
   ·refine Z1n 18 [(20,.b (((((op==0)||(op==6))||(op==8))||(op==9))||(op==10)))] [] ?_ (fun hj4=>?_)
    ·refine ir 1 [(2,.b (((((op==0)||(op==6))||(op==8))||(op==9))||(op==10)))] (ie ?_)
     exact at_ (r2 [] [.b (((((op==0)||(op==6))||(op==8))||(op==9))||(op==10))] ⟨rfl,rfl⟩ (lb (by rw [Z20];simp only [Bool.or_assoc])))
    refine ir 1 [(0,.i op),(17,.b ((((op==0)||(op==6))||(op==8))||(op==9)))] (ib (b:=((((op==0)||(op==6))||(op==8))||(op==9))) 17 (fun hb1=>?_) (fun hb1=>?_))
    ·have hp1:(((op=0)∨(op=6))∨(op=8))∨(op=9):=((Zg (Zg (Zg beq_iff_eq beq_iff_eq) beq_iff_eq) beq_iff_eq)).1 hb1
     refine ir 3 [(20,.b true)] ?_
     exact Zy (wk [] (fc (x:=.b true) (lb (by simp only [hb1];rfl)) fl)) hj4
    have hp2:¬((((op=0)∨(op=6))∨(op=8))∨(op=9)):=Zd (Zg (Zg (Zg beq_iff_eq beq_iff_eq) beq_iff_eq) beq_iff_eq) hb1
    refine ir 3 [(20,.b (op==10))] ?_
    exact Zy (wk [] (fc (x:=.b (op==10)) (lb (by simp only [hb1];rfl)) fl)) hj4
   refine ir 1 [(0,.i op),(13,.b (((op==0)||(op==6))||(op==8)))] (ib (b:=(((op==0)||(op==6))||(op==8))) 13 (fun hb2=>?_) (fun hb2=>?_))
   ·have hp3:((op=0)∨(op=6))∨(op=8):=((Zg (Zg beq_iff_eq beq_iff_eq) beq_iff_eq)).1 hb2
    refine ir 3 [(0,.i op),(16,.b true)] ?_
    exact Zy (wk [] (fr (fc (x:=.b true) (lb (by simp only [hb2];rfl)) fl))) hj3
   have hp4:¬(((op=0)∨(op=6))∨(op=8)):=Zd (Zg (Zg beq_iff_eq beq_iff_eq) beq_iff_eq) hb2
   refine ir 3 [(0,.i op),(16,.b (op==9))] ?_
   exact Zy (wk [] (fr (fc (x:=.b (op==9)) (lb (by simp only [hb2];rfl)) fl))) hj3
  refine ir 1 [(0,.i op),(9,.b ((op==0)||(op==6)))] (ib (b:=((op==0)||(op==6))) 9 (fun hb3=>?_) (fun hb3=>?_))
  ·have hp5:(op=0)∨(op=6):=((Zg beq_iff_eq beq_iff_eq)).1 hb3
   refine ir 3 [(0,.i op),(12,.b true)] ?_
   exact Zy (wk [] (fr (fc (x:=.b true) (lb (by simp only [hb3];rfl)) fl))) hj2
  have hp6:¬((op=0)∨(op=6)):=Zd (Zg beq_iff_eq beq_iff_eq) hb3
  refine ir 3 [(0,.i op),(12,.b (op==8))] ?_
  exact Zy (wk [] (fr (fc (x:=.b (op==8)) (lb (by simp only [hb3];rfl)) fl))) hj2
 refine ir 3 [(0,.i op),(5,.b (op==0))] (ib (b:=(op==0)) 5 (fun hb4=>?_) (fun hb4=>?_))
 ·have hp7:op=0:=(beq_iff_eq).1 hb4
  refine ir 3 [(0,.i op),(8,.b true)] ?_
  exact Zy (wk [] (fr (fc (x:=.b true) (lb (by simp only [hb4];rfl)) fl))) hj1
 have hp8:¬(op=0):=Zd beq_iff_eq hb4
 refine ir 3 [(0,.i op),(8,.b (op==6))] ?_
 exact Zy (wk [] (fr (fc (x:=.b (op==6)) (lb (by simp only [hb4];rfl)) fl))) hj1
theorem Z3n (us:List Int) (args:List Int) (tys:List Int) (hl_us:us.length≤4294967296:=by exact ob) (hl_args:args.length≤4294967296:=by exact ob) (hl_tys:tys.length≤4294967296:=by exact ob):Z3 Tryz.prog 184 [nInt us,nInt args,nInt tys] [] (fun r h=>r=.b (Z1r us args tys)∧h=[]):=by
 refine enter Tryz.func184 kr (n:=42) kr kr (ar (ir 1 [(0,nInt us),(1,nInt args),(2,nInt tys)] (ie (aq (ar (irk 1 (.n 8 (nInt args) .r) (iw (Z4 args) (irk 1 (.n 10 (nInt tys) .r) (iw (Z4 tys) (irk 1 (.n 12 (.b ((args.length:Int) != (tys.length:Int))) .r) (ie (ac ((args.length:Int) != (tys.length:Int)) bne_iff_ne (fun hc1=>?_) (fun hc1=>?_)))))))))))))
 ·refine ar (ir 1 [(6,.b false)] (ie ?_))
  exact at_ (r2 [] [.b false] ⟨rfl,rfl⟩ (lb (Zoe om).symm))
 refine ak (aq (ar (irk 1 (.n 7 (.i 0) .r) (ie (ab 0 (al (fun m F h=>∃(k:Nat),(k≤args.length)∧(Z25 us (args.drop k) (tys.drop k)=Z1r us args tys)∧F=[(0,nInt us),(1,nInt args),(2,nInt tys),(7,.i k)]∧h=[]∧m=args.length-k) _ _ _ ⟨0,ob,ob,rfl,rfl,rfl⟩ (wk [] (fw (fr (fc (x:=.i 0) li fl)))) ?_))))))
 rintro m F h ⟨k,c0_0,c0_1,rfl,rfl,rfl⟩
 refine aq (ar (irk 2 (.n 13 (.i k) (.n 14 (nInt args) .r)) (iw (Z4 args) (irk 1 (.n 16 (.b (decide ((k:Int)<(args.length:Int)))) .r) (ie (ac (decide ((k:Int)<(args.length:Int))) dq (fun hc2=>?_) (fun hc2=>?_)))))))
 ·refine ak (aq (ab 1 (aD 23 (dtk (fuel:=21) 23 [0,1] (.n 19 (nInt args) (.n 20 (.i k) .r)) ?_))))
  obtain ⟨x1,hx1⟩:=Z6 (xs:=args) (j:=k) om
  refine dx 2 (Z0 (es:=Z8 args) (hv:=none) (j:=(k:Int)) (sz:=1) (y:=.i x1) kr om (Z9 hx1) rfl) (dtk (fuel:=18) 20 [3,4] (.n 22 (.i x1) (.n 23 (nInt us) .r)) (dw 5 (Z4 us) (da 6 (((us.length:Int)-1)) (((us.length:Int))-(1)) (do_ 7 (dc 7 [] [] [] (Z0w x1 0 ((us.length:Int)-1)) ?_)))))
  rintro _ _ ⟨rfl,rfl⟩
  refine dtk (fuel:=13) 15 [8,9] (.n 28 (.b (!(decide (0≤x1∧x1≤((us.length:Int)-1))))) .r) (db (b:=(!(decide (0≤x1∧x1≤((us.length:Int)-1))))) 28 (fun hb1=>?_) (fun hb1=>?_))
  ·have hp1:¬(0≤x1∧x1≤((us.length:Int)-1)):=((Zc dq)).1 hb1
   refine dtk (fuel:=0) 13 [10,11,12,13,14,15,16,17,18,19,20,21,22] (.n 41 (.b true) (.k (.d .r))) (de (ac1 (ar (ir 1 [(6,.b false)] (ie ?_)))))
   obtain ⟨y,hy⟩:=Z6 (xs:=tys) (j:=k) om
   exact at_ (r2 [] [.b false] ⟨rfl,rfl⟩ (lb (by rw [←c0_1];exact (Zod hx1 hy (by rw [Z5t hp1];simp)).symm)))
  have hp2:¬(¬(0≤x1∧x1≤((us.length:Int)-1))):=Zd (Zc dq) hb1
  refine dtk (fuel:=10) 13 [10,11,12] (.n 29 (nInt us) (.n 30 (nInt args) (.n 31 (.i k) (.k (.d .r))))) (dx 13 (Z0 (es:=Z8 args) (hv:=none) (j:=(k:Int)) (sz:=1) (y:=.i x1) kr om (Z9 hx1) rfl) (dtk (fuel:=8) 9 [14] (.n 33 (.i x1) .r) ?_))
  obtain ⟨x2,hx2⟩:=Z6 (xs:=us) (j:=x1.toNat) om
  refine dx 15 (Z0 (es:=Z8 us) (hv:=none) (j:=x1) (sz:=1) (y:=.i x2) kr om (Z9 hx2) rfl) (dtk (fuel:=4) 7 [16,17,18] (.n 35 (.i x2) (.n 36 (nInt tys) (.n 37 (.i k) .r))) ?_)
  obtain ⟨x3,hx3⟩:=Z6 (xs:=tys) (j:=k) om
  refine dx 19 (Z0 (es:=Z8 tys) (hv:=none) (j:=(k:Int)) (sz:=1) (y:=.i x3) kr om (Z9 hx3) rfl) (dtk (fuel:=0) 3 [20,21,22] (.n 41 (.b (x2 != x3)) .r) (de (ac (x2 != x3) bne_iff_ne (fun hc3=>?_) (fun hc3=>?_))))
  ·refine ar (ir 1 [(6,.b false)] (ie ?_))
   exact at_ (r2 [] [.b false] ⟨rfl,rfl⟩ (lb (by rw [←c0_1];exact (Zod hx1 hx3 (by rw [Z6v om hx2];simpa using hc3)).symm)))
  refine ak (az (irk 1 (.n 17 (.i k) .r) (ia (((k+1:Nat):Int)) (((k:Int))+(1)) (ir 1 [(0,nInt us),(1,nInt args),(2,nInt tys),(7,.i (k+1:Nat))] (ie ?_)))))
  have hdr:=Z5 hx1
  exact ⟨_,_,_,ob,⟨k+1,ob,(by rw [←c0_1];exact (Zu7 hx1 hx3 (by rw [Z6v om hx2];congr 1;omega)).symm),rfl,rfl,rfl⟩,(wk [] (fw (fr (fc (x:=.i (k+1:Nat)) li fl))))⟩
 refine ax 0 (ar (ir 1 [(6,.b true)] (ie ?_)))
 exact at_ (r2 [] [.b true] ⟨rfl,rfl⟩ (lb (by rw [←c0_1];exact (Zz3 om om).symm)))
theorem Zeo (us:List Int) (s:Step) (hl_us:us.length≤4294967296:=by exact ob):Z3 Tryz.prog 183 [nInt us,Z0g s] [] (fun r h=>r=.b (Z15 us s.op s.into)∧h=[]):=by
 refine enter Tryz.func183 kr (n:=27) kr kr (ar (iA (Z02 s) ?_))
 intro b1
 refine ir 1 [(0,nInt us),(3,.p b1 0)] (ie (aq (ar (irK 3 (.n 7 (.b (s.into==0)) .r) [0] [b1] (ie (ac (s.into==0) beq_iff_eq (fun hc1=>?_) (fun hc1=>?_)))))))
 ·refine ar (ir 1 [(4,.b true)] (ie ?_))
  exact at_ (r2 [] [.b true] ⟨rfl,rfl⟩ (lb (by rw [Z15,if_pos hc1])))
 refine ak (ar (Z1n 10 [(0,nInt us),(3,.p b1 0),(17,.b ((s.op==6)&&(decide (1≤s.into∧s.into≤(us.length:Int)))))] [.obj b1 (Z02 s)] ?_ (fun hj1=>?_)))
 ·refine ir 1 [(0,nInt us),(3,.p b1 0),(18,.b ((s.op==6)&&(decide (1≤s.into∧s.into≤(us.length:Int)))))] (ib (b:=((s.op==6)&&(decide (1≤s.into∧s.into≤(us.length:Int))))) 18 (fun hb1=>?_) (fun hb1=>?_))
  ·have hp1:(s.op=6)∧(1≤s.into∧s.into≤(us.length:Int)):=((Zj beq_iff_eq dq)).1 hb1
   refine irK 3 (.n 19 (nInt us) (.n 21 (.i s.into) (.k .z))) [0] [b1] (ia ((s.into-1)) ((s.into)-(1)) ?_)
   obtain ⟨x1,hx1⟩:=Z6 (xs:=us) (j:=(s.into-1).toNat) om
   refine is_ (Z0 (es:=Z8 us) (hv:=none) (j:=(s.into-1)) (sz:=1) (y:=.i x1) kr om (Z9 hx1) rfl) (ir 4 [(4,.b (decide (x1>0)))] (ie ?_))
   exact at_ (r2 [] [.b (decide (x1>0))] ⟨rfl,rfl⟩ (lb (by rw [Z15,if_neg hc1];first|(rw [if_pos om,Z6v om hx1];rfl)|(rw [if_pos om,Z5t om];rfl)|(rw [if_neg om])|(by_cases q:s.op=6;rw [if_pos q,Z5t om];rfl;rw [if_neg q]))))
  have hp2:¬((s.op=6)∧(1≤s.into∧s.into≤(us.length:Int))):=Zd (Zj beq_iff_eq dq) hb1
  refine ir 9 [(4,.b false)] (ie ?_)
  exact at_ (r2 [] [.b false] ⟨rfl,rfl⟩ (lb (by rw [Z15,if_neg hc1];first|(rw [if_pos om,Z6v om hx1];rfl)|(rw [if_pos om,Z5t om];rfl)|(rw [if_neg om])|(by_cases q:s.op=6;rw [if_pos q,Z5t om];rfl;rw [if_neg q]))))
 refine iR 4 [(0,nInt us),(3,.p b1 0),(11,.b (s.op==6))] [0] [b1] (ib (b:=(s.op==6)) 11 (fun hb2=>?_) (fun hb2=>?_))
 ·have hp3:s.op=6:=(beq_iff_eq).1 hb2
  refine irK 3 (.n 13 (.i s.into) (.n 14 (nInt us) (.k (.k (.k .z))))) [0] [b1] (iw (Z4 us) (ic [] (Z0w s.into 1 (us.length:Int)) ?_))
  rintro _ _ ⟨rfl,rfl⟩
  refine irk 1 (.n 17 (.b (decide (1≤s.into∧s.into≤(us.length:Int)))) .r) ?_
  exact Zy (wk [0] (fw (fc (x:=.b (decide (1≤s.into∧s.into≤(us.length:Int)))) (lb (by simp only [hb2];rfl)) fl))) hj1
 have hp4:¬(s.op=6):=Zd beq_iff_eq hb2
 refine irk 6 (.n 17 (.b false) (.d (.k (.k .z)))) ?_
 exact Zy (wk [0] (fw (fc (x:=.b false) (lb (by simp only [hb2];rfl)) fl))) hj1
theorem Zby (n:Normal) (us:List Int) (s:Step) (hn:NOk n:=by exact ob) (hl_us:us.length≤4294967296:=by exact ob) (ha:s.args.length≤1000000000:=by exact ob):Z3 Tryz.prog 186 [Zi n,nInt us,Z0g s] [] (fun r h=>r=.i (Z2l n us s.op s.num s.args)∧h=[]):=by
 have hrl:=hn.len
 have hdl:=hn.decls.len
 refine enter Tryz.func186 kr (n:=69) kr kr (ar (iA (Zh n) ?_))
 intro b1
 refine iA (Z02 s) ?_
 intro b2
 refine ir 1 [(1,nInt us),(3,.p b1 0),(5,.p b2 0)] (ie (aq (ar (irK 4 (.n 10 (.i s.num) (.n 12 (nRoutine n.routines) .r)) [0,1] [b2,b1] (iw (Z0a n.routines) (ia (((n.routines.length:Int)-1)) (((n.routines.length:Int))-(1)) (ic [] (Z0w s.num 0 ((n.routines.length:Int)-1)) ?_)))))))
 rintro _ _ ⟨rfl,rfl⟩
 refine irk 1 (.n 16 (.b (!(decide (0≤s.num∧s.num≤((n.routines.length:Int)-1))))) .r) (ie (ac (!(decide (0≤s.num∧s.num≤((n.routines.length:Int)-1)))) (p:=¬(0≤s.num∧s.num≤((n.routines.length:Int)-1))) (Zc dq) (fun hc1=>?_) (fun hc1=>?_)))
 ·refine ar (ir 1 [(6,.i (-1))] (ie ?_))
  exact at_ (r2 [] [.i (-1)] ⟨rfl,rfl⟩ (li (Zpt om).symm))
 refine ak (ar (irK 4 (.n 18 (nRoutine n.routines) (.n 20 (.i s.num) .r)) [1,0] [b1,b2] ?_))
 obtain ⟨x1,hx1⟩:=Z6 (xs:=n.routines) (j:=s.num.toNat) om
 have hrp:=hn.params_at hx1
 have hrt:=hn.lent_at hx1
 have hre:Z2l n us s.op s.num s.args=Z3d n.decls us s.op s.args x1:=Ztm om hx1
 refine is_ (Z0 (es:=Z0p n.routines) (hv:=none) (j:=s.num) (sz:=5) (y:=Z0s x1) kr om (Z0v hx1) rfl) (irk 1 (.n 22 (Z0s x1) .r) (iA [nl,nl,.i 0,nl,.i 0] ?_))
 intro b3
 refine iS 0 b3 0 (Z1s x1) [nl,nl,.i 0,nl,.i 0] (Z1s x1) (ie (ar (irK 2 (.n 24 (nInt x1.params) .r) [0] [b3] (iw (Z4 x1.params) (irk 1 (.n 8 (.i x1.params.length) .r) (ie (aq (ar (irK 3 (.n 28 (.b (s.op==9)) .r) [1] [b2] (ie (ac (s.op==9) beq_iff_eq (fun hc2=>?_) (fun hc2=>?_))))))))))))
 ·refine aq (ar (irK 5 (.n 29 (nInt us) (.n 31 (nInt s.args) (.n 33 (nInt x1.params) .r))) [1,0] [b2,b3] (ic [] (Z3n us s.args x1.params) ?_)))
  rintro _ _ ⟨rfl,rfl⟩
  refine irk 1 (.n 35 (.b (!Z1r us s.args x1.params)) .r) (ie (ac (!Z1r us s.args x1.params) (p:=¬(Z1r us s.args x1.params=true)) (Zc Iff.rfl) (fun hc3=>?_) (fun hc3=>?_)))
  ·refine ar (ir 1 [(6,.i (-1))] (ie ?_))
   exact at_ (r2 [] [.i (-1)] ⟨rfl,rfl⟩ (li (by clear hx1;first|rfl|omega|grind [Z3d,Z45])))
  refine ak (ar (iR 3 [(6,.i x1.result)] [0] [b3] (ie ?_)))
  exact at_ (r2 [] [.i x1.result] ⟨rfl,rfl⟩ (li (by clear hx1;first|rfl|omega|grind [Z3d,Z45])))
 refine ak (aq (aD 20 (Zca [(3,.p b1 0),(7,.p b3 0),(8,.i x1.params.length),(57,.b (((x1.params.length:Int)==0)||((decide ((x1.lent.length:Int)>0))||(!Z1r us s.args (x1.params.take (x1.params.length-1))))))] [.obj b3 (Z1s x1),.obj b2 (Z02 s),.obj b1 (Zh n)] ?_ ?_)))
 ·refine dt (fuel:=17) 20 [0,1,2] [(1,nInt us),(3,.p b1 0),(5,.p b2 0),(7,.p b3 0),(8,.i x1.params.length),(40,.b ((x1.params.length:Int)==0))] (db (b:=((x1.params.length:Int)==0)) 40 (fun hb1=>?_) (fun hb1=>?_))
  ·have hp1:(x1.params.length:Int)=0:=(beq_iff_eq).1 hb1
   refine dtk (fuel:=0) 17 [3,4,5,6,7,8,9,10,11,12,13,14,15,16,17,18,19] (.n 57 (.b true) (.d (.d (.k (.d (.k (.k .z))))))) (de ?_)
   exact wk [0,0,0] (fw (fr (fc (x:=.b true) (lb (by simp only [hb1];rfl)) fl)))
  have hp2:¬((x1.params.length:Int)=0):=Zd beq_iff_eq hb1
  refine dtK (fuel:=15) 17 [3,4] (.n 42 (nInt x1.lent) (.w (.k (.k .z)))) [0] [b3] (dw 5 (Z4 x1.lent) (dtk (fuel:=11) 14 [6,7,8] (.n 46 (.b (decide ((x1.lent.length:Int)>0))) .r) (db (b:=(decide ((x1.lent.length:Int)>0))) 46 (fun hb2=>?_) (fun hb2=>?_))))
  ·have hp3:(x1.lent.length:Int)>0:=(dq).1 hb2
   refine dtk (fuel:=0) 11 [9,10,11,12,13,14,15,16,17,18,19] (.n 57 (.b true) (.k (.d .r))) (de ?_)
   exact wk [0,0,0] (fw (fr (fc (x:=.b true) (lb (by simp only [hb1,hb2];rfl)) fl)))
  have hp4:¬((x1.lent.length:Int)>0):=Zd dq hb2
  refine dtK (fuel:=5) 11 [9,10,11,12,13,14] (.n 47 (nInt us) (.n 49 (nInt s.args) (.n 51 (nInt x1.params) (.n 52 (.i x1.params.length) (.k (.d .r)))))) [1,0] [b2,b3] (da 15 (((x1.params.length-1:Nat):Int)) (((x1.params.length:Int))-(1)) (dx 16 (Z63 (es:=Z8 x1.params) (hv:=none) (l:=0) (m:=((x1.params.length-1:Nat):Int)) (sz:=1) (es':=Z8 (x1.params.take (x1.params.length-1))) kr om (by simp<;>omega) (by simp<;>omega) (Z11 _) (by first|(simp only [Int.toNat_natCast,List.take_length,Z3v,Z4n];done)|(simp only [Int.toNat_natCast,List.take_length,Z3v,Z4n];rfl)|(simp [Z3v,Z4n];done))) (do_ 17 (dc 17 [] [] [] (Z3n us s.args (x1.params.take (x1.params.length-1))) ?_))))
  rintro _ _ ⟨rfl,rfl⟩
  refine dtk (fuel:=0) 2 [18,19] (.n 57 (.b (!Z1r us s.args (x1.params.take (x1.params.length-1)))) .r) (de ?_)
  exact wk [0,0,0] (fw (fr (fc (x:=.b (!Z1r us s.args (x1.params.take (x1.params.length-1)))) (lb (by simp only [hb1,hb2];rfl)) fl)))
 refine ac (((x1.params.length:Int)==0)||((decide ((x1.lent.length:Int)>0))||(!Z1r us s.args (x1.params.take (x1.params.length-1))))) (p:=((x1.params.length:Int)=0)∨(((x1.lent.length:Int)>0)∨(¬(Z1r us s.args (x1.params.take (x1.params.length-1))=true)))) (Zg beq_iff_eq (Zg dq (Zc Iff.rfl))) (fun hc4=>?_) (fun hc4=>?_)
 ·refine ar (ir 1 [(6,.i (-1))] (ie ?_))
  exact at_ (r2 [] [.i (-1)] ⟨rfl,rfl⟩ (li (by clear hx1;first|rfl|omega|grind [Z3d,Z45])))
 refine ak (aD 12 (dT (fuel:=7) 12 [0,1,2,3,4] [(7,.p b3 0),(59,Z2 n.decls),(61,nInt x1.params),(62,.i x1.params.length)] [2,0] [b1,b3] (da 5 (((x1.params.length-1:Nat):Int)) (((x1.params.length:Int))-(1)) ?_)))
 obtain ⟨x2,hx2⟩:=Z6 (xs:=x1.params) (j:=x1.params.length-1) om
 have hgl:=Zjb hx2
 refine dx 6 (Z0 (es:=Z8 x1.params) (hv:=none) (j:=((x1.params.length-1:Nat):Int)) (sz:=1) (y:=.i x2) kr om (Z9 hx2) rfl) (dtK (fuel:=2) 5 [7,8,9] (.n 65 (.i x2) (.n 67 (.i x1.result) .r)) [0] [b3] (do_ 10 (dc 10 [] [] [] (Zhr n.decls x2 x1.result) ?_)))
 rintro _ _ ⟨rfl,rfl⟩
 refine dt (fuel:=0) 1 [11] [(6,.i (Z2a n.decls x2 x1.result))] (de ?_)
 exact at_ (r2 [] [.i (Z2a n.decls x2 x1.result)] ⟨rfl,rfl⟩ (li (by clear hx1 hx2;first|rfl|omega|grind [Z3d,Z45])))
theorem Zay (n:Normal) (us:List Int) (s:Step) (hn:NOk n:=by exact ob) (hl_us:us.length≤4294967296:=by exact ob) (ha:s.args.length≤1000000000:=by exact ob):Z3 Tryz.prog 188 [Zi n,nInt us,Z0g s] [] (fun r h=>r=.i (Z1z n.decls us s.op s.args)∧h=[]):=by
 have hdk:=hn.decls
 refine enter Tryz.func188 kr (n:=52) kr kr (ar (iA (Zh n) ?_))
 intro b1
 refine iA (Z02 s) ?_
 intro b2
 refine ir 1 [(1,nInt us),(3,.p b1 0),(5,.p b2 0)] (ie (aq (ar (irK 2 (.n 8 (nInt s.args) .r) [0] [b2] (iw (Z4 s.args) (irk 2 (.n 11 (.b ((s.args.length:Int) != 1)) .r) (ib (b:=((s.args.length:Int) != 1)) 11 (fun hb1=>?_) (fun hb1=>?_))))))))
 ·have hp1:(s.args.length:Int)≠1:=(bne_iff_ne).1 hb1
  refine irk 20 (.n 31 (.b true) (.k (.d .r))) (ie (ac1 (ar (ir 1 [(6,.i (-1))] (ie ?_)))))
  exact at_ (r2 [] [.i (-1)] ⟨rfl,rfl⟩ (li (by first|assumption|omega|rfl|(rw [Z55 om])|(rw [Z56 (Zfd om hx1) om])|(rw [Z5u (Zfd om hx1) om hx2];clear hx1 hx2;grind))))
 have hp2:¬((s.args.length:Int)≠1):=Zd bne_iff_ne hb1
 refine irK 2 (.n 13 (nInt s.args) (.k (.d .r))) [0] [b2] ?_
 obtain ⟨x1,hx1⟩:=Z6 (xs:=s.args) (j:=0) om
 refine is_ (Z0 (es:=Z8 s.args) (hv:=none) (j:=0) (sz:=1) (y:=.i x1) kr om (Z9 hx1) rfl) (irk 2 (.n 15 (.i x1) (.n 16 (nInt us) .r)) (iw (Z4 us) (ia (((us.length:Int)-1)) (((us.length:Int))-(1)) (ic [] (Z0w x1 0 ((us.length:Int)-1)) ?_))))
 rintro _ _ ⟨rfl,rfl⟩
 refine irk 3 (.n 22 (.b (!(decide (0≤x1∧x1≤((us.length:Int)-1))))) .r) (ib (b:=(!(decide (0≤x1∧x1≤((us.length:Int)-1))))) 22 (fun hb2=>?_) (fun hb2=>?_))
 ·have hp3:¬(0≤x1∧x1≤((us.length:Int)-1)):=((Zc dq)).1 hb2
  refine irk 9 (.n 31 (.b true) (.k (.d .r))) (ie (ac1 (ar (ir 1 [(6,.i (-1))] (ie ?_)))))
  exact at_ (r2 [] [.i (-1)] ⟨rfl,rfl⟩ (li (by first|assumption|omega|rfl|(rw [Z55 om])|(rw [Z56 (Zfd om hx1) om])|(rw [Z5u (Zfd om hx1) om hx2];clear hx1 hx2;grind))))
 have hp4:¬(¬(0≤x1∧x1≤((us.length:Int)-1))):=Zd (Zc dq) hb2
 refine irK 3 (.n 23 (nInt us) (.n 25 (nInt s.args) (.k (.d .r)))) [0] [b2] (is_ (Z0 (es:=Z8 s.args) (hv:=none) (j:=0) (sz:=1) (y:=.i x1) kr om (Z9 hx1) rfl) (irk 1 (.n 27 (.i x1) .r) ?_))
 obtain ⟨x2,hx2⟩:=Z6 (xs:=us) (j:=x1.toNat) om
 refine is_ (Z0 (es:=Z8 us) (hv:=none) (j:=x1) (sz:=1) (y:=.i x2) kr om (Z9 hx2) rfl) (irk 3 (.n 31 (.b (x2==0)) .r) (ie (ac (x2==0) beq_iff_eq (fun hc1=>?_) (fun hc1=>?_))))
 ·refine ar (ir 1 [(6,.i (-1))] (ie ?_))
  exact at_ (r2 [] [.i (-1)] ⟨rfl,rfl⟩ (li (by first|assumption|omega|rfl|(rw [Z55 om])|(rw [Z56 (Zfd om hx1) om])|(rw [Z5u (Zfd om hx1) om hx2];clear hx1 hx2;grind))))
 refine ak (aq (aD 20 (Zca [(51,.b ((s.op != 14)&&((s.op != 15)&&Z00 n.decls x2)))] [.obj b2 (Z02 s),.obj b1 (Zh n)] ?_ ?_)))
 ·refine dT (fuel:=16) 20 [0,1,2,3] [(1,nInt us),(3,.p b1 0),(5,.p b2 0),(35,.b (s.op != 14))] [0] [b2] (db (b:=(s.op != 14)) 35 (fun hb3=>?_) (fun hb3=>?_))
  ·have hp5:s.op≠14:=(bne_iff_ne).1 hb3
   refine dtK (fuel:=11) 16 [4,5,6,7,8] (.n 40 (.b (s.op != 15)) (.d (.k (.k (.k .z))))) [0] [b2] (db (b:=(s.op != 15)) 40 (fun hb4=>?_) (fun hb4=>?_))
   ·have hp6:s.op≠15:=(bne_iff_ne).1 hb4
    refine dT (fuel:=6) 11 [9,10,11,12,13] [(40,.b true),(42,Z2 n.decls),(43,nInt us),(45,nInt s.args)] [1,0] [b1,b2] (dx 14 (Z0 (es:=Z8 s.args) (hv:=none) (j:=0) (sz:=1) (y:=.i x1) kr om (Z9 hx1) rfl) (dtk (fuel:=4) 5 [15] (.n 47 (.i x1) .r) (dx 16 (Z0 (es:=Z8 us) (hv:=none) (j:=x1) (sz:=1) (y:=.i x2) kr om (Z9 hx2) rfl) (dtk (fuel:=2) 3 [17] (.n 49 (.i x2) .r) (do_ 18 (dc 18 [] [] [] (Zaa n.decls x2 (hd:=(by first|assumption|omega|rfl|(rw [Z55 om])|(rw [Z56 (Zfd om hx1) om])|(rw [Z5u (Zfd om hx1) om hx2];clear hx1 hx2;grind)))) ?_))))))
    rintro _ _ ⟨rfl,rfl⟩
    refine dt (fuel:=0) 1 [19] [(51,.b (Z00 n.decls x2))] (de ?_)
    exact wk [0,0] (fc (x:=.b (Z00 n.decls x2)) (lb (by simp only [hb3,hb4];rfl)) fl)
   have hp7:¬(s.op≠15):=Zd bne_iff_ne hb4
   refine dt (fuel:=0) 11 [9,10,11,12,13,14,15,16,17,18,19] [(51,.b false)] (de ?_)
   exact wk [0,0] (fc (x:=.b false) (lb (by simp only [hb3,hb4];rfl)) fl)
  have hp8:¬(s.op≠14):=Zd bne_iff_ne hb3
  refine dt (fuel:=0) 16 [4,5,6,7,8,9,10,11,12,13,14,15,16,17,18,19] [(51,.b false)] (de ?_)
  exact wk [0,0] (fc (x:=.b false) (lb (by simp only [hb3];rfl)) fl)
 refine ac ((s.op != 14)&&((s.op != 15)&&Z00 n.decls x2)) (p:=(s.op≠14)∧((s.op≠15)∧(Z00 n.decls x2=true))) (Zj bne_iff_ne (Zj bne_iff_ne Iff.rfl)) (fun hc2=>?_) (fun hc2=>?_)
 ·refine ar (ir 1 [(6,.i (-1))] (ie ?_))
  exact at_ (r2 [] [.i (-1)] ⟨rfl,rfl⟩ (li (by first|assumption|omega|rfl|(rw [Z55 om])|(rw [Z56 (Zfd om hx1) om])|(rw [Z5u (Zfd om hx1) om hx2];clear hx1 hx2;grind))))
 refine ak (ar (ir 1 [(6,.i 0)] (ie ?_)))
 exact at_ (r2 [] [.i 0] ⟨rfl,rfl⟩ (li (by first|assumption|omega|rfl|(rw [Z55 om])|(rw [Z56 (Zfd om hx1) om])|(rw [Z5u (Zfd om hx1) om hx2];clear hx1 hx2;grind))))
theorem Z9o (n:Normal) (us:List Int) (s:Step) (hn:NOk n:=by exact ob) (hop:s.op=7∨s.op=8:=by exact ob) (hb:us.length+4*s.sz≤1000000000:=by exact ob) (ih:∀(b:Block) (us:List Int),(b.sz<s.sz)→(us.length+4*b.sz≤1000000000)→Z3 Tryz.prog 98 [Zi n,nInt us,Za b] [] (fun r h=>r=.i (Zf n us b)∧h=[])):Z3 Tryz.prog 185 [Zi n,nInt us,Z0g s] [] (fun r h=>r=.i (Z3o n us s.op s.num s.kids)∧h=[]):=by
 have hdk:=hn.decls
 have hkz:=Z5m s
 refine enter Tryz.func185 kr (n:=71) kr kr (ar (iA (Zh n) ?_))
 intro b1
 refine iA (Z02 s) ?_
 intro b2
 refine ir 1 [(1,nInt us),(3,.p b1 0),(5,.p b2 0)] (ie (ar (irK 4 (.n 14 (Z2 n.decls) (.n 16 (.i s.num) .r)) [1,0] [b1,b2] (ic [] (Z8e n.decls s.num) ?_))))
 rintro _ _ ⟨v1,rfl,rfl⟩
 refine irk 1 (.n 7 (oInt (Zb n.decls s.num) v1) .r) (ie (ar (irk 1 (.n 18 (oInt (Zb n.decls s.num) v1) .r) (io (.i (((Zb n.decls s.num).length:Nat):Int)) (.i (((Z8 (Zb n.decls s.num)).length:Nat):Int)) (li (by rw [Z4])) (irk 1 (.n 8 (.i (((Zb n.decls s.num).length:Nat):Int)) .r) (ie (aq (ar (irK 3 (.n 22 (.b (s.op==7)) .r) [1] [b2] (ie (Z6a (fun F h=>F=[(1,nInt us),(3,.p b1 0),(5,.p b2 0),(7,nInt (Zb n.decls s.num)),(8,.i (((Zq n.decls s.op s.num).length:Nat):Int))]∧h=[.obj b2 (Z02 s),.obj b1 (Zh n)]) ?_ ?_)))))))))))
 ·refine ac (s.op==7) beq_iff_eq (fun hc1=>?_) (fun hc1=>?_)
  ·refine az (ir 1 [(1,nInt us),(3,.p b1 0),(5,.p b2 0),(7,oInt (Zb n.decls s.num) v1),(8,.i 2)] (ie ?_))
   exact ⟨[(1,nInt us),(3,.p b1 0),(5,.p b2 0),(7,nInt (Zb n.decls s.num)),(8,.i (((Zq n.decls s.op s.num).length:Nat):Int))],[.obj b2 (Z02 s),.obj b1 (Zh n)],⟨rfl,rfl⟩,(wk [1,1] (fw (fr (fc (x:=oInt (Zb n.decls s.num) v1) (AVLe.forget _ _) (fc (x:=.i 2) (li (by rw [Zq,if_pos hc1];rfl)) fl)))))⟩
  refine ak ?_
  exact ⟨[(1,nInt us),(3,.p b1 0),(5,.p b2 0),(7,nInt (Zb n.decls s.num)),(8,.i (((Zq n.decls s.op s.num).length:Nat):Int))],[.obj b2 (Z02 s),.obj b1 (Zh n)],⟨rfl,rfl⟩,(wk [1,1] (fw (fr (fc (x:=oInt (Zb n.decls s.num) v1) (AVLe.forget _ _) (fc (x:=.i (((Zb n.decls s.num).length:Nat):Int)) (li (by rw [Zq,if_neg hc1,List.length_map])) fl)))))⟩
 rintro F h ⟨rfl,rfl⟩
 refine aq (ar (Z24 [(1,nInt us),(3,.p b1 0),(5,.p b2 0),(7,nInt (Zb n.decls s.num)),(8,.i (((Zq n.decls s.op s.num).length:Nat):Int)),(31,.b (((((Zq n.decls s.op s.num).length:Nat):Int)==0)||((s.kids.length:Int) != (((Zq n.decls s.op s.num).length:Nat):Int))))] [.obj b2 (Z02 s),.obj b1 (Zh n)] ?_ ?_))
 ·refine ir 3 [(1,nInt us),(3,.p b1 0),(5,.p b2 0),(7,nInt (Zb n.decls s.num)),(8,.i (((Zq n.decls s.op s.num).length:Nat):Int)),(25,.b ((((Zq n.decls s.op s.num).length:Nat):Int)==0))] (ib (b:=((((Zq n.decls s.op s.num).length:Nat):Int)==0)) 25 (fun hb1=>?_) (fun hb1=>?_))
  ·have hp1:(((Zq n.decls s.op s.num).length:Nat):Int)=0:=(beq_iff_eq).1 hb1
   refine irk 6 (.n 31 (.b true) (.d (.w (.k .z)))) (ie ?_)
   exact wk [0,0] (fq (fr (fc (x:=.b true) (lb (by simp only [hb1];rfl)) fl)))
  have hp2:¬((((Zq n.decls s.op s.num).length:Nat):Int)=0):=Zd beq_iff_eq hb1
  refine irK 2 (.n 27 (Zv s.kids) (.w (.k (.k .z)))) [0] [b2] (iw (Z0f s.kids) (irk 3 (.n 31 (.b ((s.kids.length:Int) != (((Zq n.decls s.op s.num).length:Nat):Int))) .r) (ie ?_)))
  exact wk [0,0] (fq (fr (fc (x:=.b ((s.kids.length:Int) != (((Zq n.decls s.op s.num).length:Nat):Int))) (lb (by simp only [hb1];rfl)) fl)))
 refine ac (((((Zq n.decls s.op s.num).length:Nat):Int)==0)||((s.kids.length:Int) != (((Zq n.decls s.op s.num).length:Nat):Int))) (p:=((((Zq n.decls s.op s.num).length:Nat):Int)=0)∨((s.kids.length:Int)≠(((Zq n.decls s.op s.num).length:Nat):Int))) (Zg beq_iff_eq bne_iff_ne) (fun hc2=>?_) (fun hc2=>?_)
 ·refine ar (ir 1 [(6,.i (-1))] (ie ?_))
  exact at_ (r2 [] [.i (-1)] ⟨rfl,rfl⟩ (li (by rw [Z3o,if_pos om])))
 refine ak (ar (ir 1 [(1,nInt us),(3,.p b1 0),(5,.p b2 0),(7,nInt (Zb n.decls s.num)),(8,.i (((Zq n.decls s.op s.num).length:Nat):Int)),(9,.i 0)] (ie (aq (ar (irk 1 (.n 10 (.i 0) .r) (ie (ab 0 (al (fun m F h=>∃(k:Nat) (t:Int),(k≤s.kids.length)∧(Z1k n us (s.kids.drop k) ((Zq n.decls s.op s.num).drop k) (decide (k=0)) t=Z1k n us s.kids (Zq n.decls s.op s.num) true 0)∧F=[(1,nInt us),(3,.p b1 0),(5,.p b2 0),(7,nInt (Zb n.decls s.num)),(8,.i (((Zq n.decls s.op s.num).length:Nat):Int)),(9,.i t),(10,.i k)]∧h=[.obj b2 (Z02 s),.obj b1 (Zh n)]∧m=s.kids.length-k) _ _ _ ⟨0,0,ob,(by rfl),rfl,rfl,rfl⟩ (wk [0,0] (fq (fw (fc (x:=.i 0) li fl)))) ?_)))))))))
 rintro m F h ⟨k,t,c0_0,c0_1,rfl,rfl,rfl⟩
 refine aq (ar (irk 3 (.n 34 (.b (decide ((k:Int)<(((Zq n.decls s.op s.num).length:Nat):Int)))) .r) (ie (ac (decide ((k:Int)<(((Zq n.decls s.op s.num).length:Nat):Int))) dq (fun hc3=>?_) (fun hc3=>?_)))))
 ·refine ak (aq (ab 1 (ar (irk 2 (.n 11 (nInt us) .r) (ie (aq (ar (irK 3 (.n 40 (.b (s.op==8)) .r) [0] [b2] (ie (Z6a (fun F h=>∃(m:List Int),((Zq n.decls s.op s.num)[k]? = some m)∧F=[(1,nInt us),(3,.p b1 0),(5,.p b2 0),(7,nInt (Zb n.decls s.num)),(8,.i (((Zq n.decls s.op s.num).length:Nat):Int)),(9,.i t),(10,.i k),(11,nInt (us++m))]∧h=[.obj b2 (Z02 s),.obj b1 (Zh n)]) ?_ ?_))))))))))
  ·refine ac (s.op==8) beq_iff_eq (fun hc4=>?_) (fun hc4=>?_)
   ·refine aE 10 (dT (fuel:=5) 10 [0,1,2,3,4] [(1,nInt us),(3,.p b1 0),(5,.p b2 0),(7,nInt (Zb n.decls s.num)),(8,.i (((Zq n.decls s.op s.num).length:Nat):Int)),(9,.i t),(10,.i k),(11,nInt us),(41,nInt us),(43,Z2 n.decls),(44,nInt (Zb n.decls s.num)),(45,.i k)] [1] [b1] ?_)
    obtain ⟨x1,hx1⟩:=Z6 (xs:=Zb n.decls s.num) (j:=k) (by rw [Zq,if_neg om,List.length_map] at hc3;omega)
    refine dx 5 (Z0 (es:=Z8 (Zb n.decls s.num)) (hv:=none) (j:=(k:Int)) (sz:=1) (y:=.i x1) kr om (Z9 hx1) rfl) (dtk (fuel:=3) 4 [6] (.n 47 (.i x1) .r) (do_ 7 (dc 7 [] [] [] (Z3y n.decls x1) ?_)))
    rintro _ _ ⟨rfl,rfl⟩
    refine do_ 8 (dc 8 [] [] [] (Zik us (Z1 n.decls x1) (hl:=(by have:=Z13 hdk x1;omega))) ?_)
    rintro _ _ ⟨v2,rfl,rfl⟩
    refine dtk (fuel:=0) 1 [9] (.n 11 (oInt (us++(Z1 n.decls x1)) v2) (.p (.p (.d (.p (.w (.k (.k (.k .z))))))))) (de ?_)
    exact ⟨[(1,nInt us),(3,.p b1 0),(5,.p b2 0),(7,nInt (Zb n.decls s.num)),(8,.i (((Zq n.decls s.op s.num).length:Nat):Int)),(9,.i t),(10,.i k),(11,nInt (us++(Z1 n.decls x1)))],[.obj b2 (Z02 s),.obj b1 (Zh n)],⟨(Z1 n.decls x1),(by rw [show s.op=8 from hc4];exact Zs9 hx1),rfl,rfl⟩,(wk [1,1] fl)⟩
   refine ak ?_
   exact ⟨[(1,nInt us),(3,.p b1 0),(5,.p b2 0),(7,nInt (Zb n.decls s.num)),(8,.i (((Zq n.decls s.op s.num).length:Nat):Int)),(9,.i t),(10,.i k),(11,nInt (us++[]))],[.obj b2 (Z02 s),.obj b1 (Zh n)],⟨[],(by rw [Zq,if_pos om];have:k=0∨k=1:=(by rw [Zq,if_pos om] at hc3;simp at hc3;omega);rcases this with rfl|rfl<;>rfl),rfl,rfl⟩,(wk [0,0] (fq (fw (fr (fc (x:=nInt us) (AVLe.sl _ (congrArg Z8 (by simp))) fl)))))⟩
  rintro F h ⟨m,k3_0,rfl,rfl⟩
  refine aD 9 (dT (fuel:=4) 9 [0,1,2,3,4] [(1,nInt us),(3,.p b1 0),(5,.p b2 0),(7,nInt (Zb n.decls s.num)),(8,.i (((Zq n.decls s.op s.num).length:Nat):Int)),(9,.i t),(10,.i k),(50,Zi n),(51,nInt (us++m)),(53,Zv s.kids),(54,.i k)] [1,0] [b1,b2] ?_)
  obtain ⟨x2,hx2⟩:=Z6 (xs:=s.kids) (j:=k) om
  have hks:=Z9k hx2
  have hm3:=Z8h hdk k3_0
  refine dx 5 (Z0 (es:=Z19 s.kids) (hv:=none) (j:=(k:Int)) (sz:=2) (y:=Za x2) kr om (Z1q hx2) rfl) (dtk (fuel:=2) 3 [6] (.n 56 (Za x2) .r) (do_ 7 (dc 7 [] [] [] (ih x2 (us++m) ob (by simp only [List.length_append];omega)) ?_)))
  rintro _ _ ⟨rfl,rfl⟩
  refine dtk (fuel:=0) 1 [8] (.n 12 (.i (Zf n (us++m) x2)) .r) (de (aq (ar (Z24 [(1,nInt us),(3,.p b1 0),(5,.p b2 0),(7,nInt (Zb n.decls s.num)),(8,.i (((Zq n.decls s.op s.num).length:Nat):Int)),(10,.i k),(12,.i (Zf n (us++m) x2)),(68,.b ((decide ((Zf n (us++m) x2)<0))||((decide ((k:Int)>0))&&((Zf n (us++m) x2) != t))))] [.obj b2 (Z02 s),.obj b1 (Zh n)] ?_ ?_))))
  ·refine ir 3 [(1,nInt us),(3,.p b1 0),(5,.p b2 0),(7,nInt (Zb n.decls s.num)),(8,.i (((Zq n.decls s.op s.num).length:Nat):Int)),(9,.i t),(10,.i k),(12,.i (Zf n (us++m) x2)),(60,.b (decide ((Zf n (us++m) x2)<0)))] (ib (b:=(decide ((Zf n (us++m) x2)<0))) 60 (fun hb2=>?_) (fun hb2=>?_))
   ·have hp3:(Zf n (us++m) x2)<0:=(dq).1 hb2
    refine irk 8 (.n 68 (.b true) (.d (.w (.k (.d (.k (.k .z))))))) (ie ?_)
    exact wk [0,0] (fq (fw (fr (fc (x:=.b true) (lb (by simp only [hb2];rfl)) fl))))
   have hp4:¬((Zf n (us++m) x2)<0):=Zd dq hb2
   refine irk 3 (.n 63 (.b (decide ((k:Int)>0))) (.w (.w (.k .z)))) (ib (b:=(decide ((k:Int)>0))) 63 (fun hb3=>?_) (fun hb3=>?_))
   ·have hp5:(k:Int)>0:=(dq).1 hb3
    refine irk 5 (.n 68 (.b ((Zf n (us++m) x2) != t)) (.k (.d .r))) (ie ?_)
    exact wk [0,0] (fq (fw (fr (fc (x:=.b ((Zf n (us++m) x2) != t)) (lb (by simp only [hb2,hb3];rfl)) fl))))
   have hp6:¬((k:Int)>0):=Zd dq hb3
   refine irk 5 (.n 68 (.b false) (.k (.d .r))) (ie ?_)
   exact wk [0,0] (fq (fw (fr (fc (x:=.b false) (lb (by simp only [hb2,hb3];rfl)) fl))))
  refine ac ((decide ((Zf n (us++m) x2)<0))||((decide ((k:Int)>0))&&((Zf n (us++m) x2) != t))) (p:=((Zf n (us++m) x2)<0)∨(((k:Int)>0)∧((Zf n (us++m) x2)≠t))) (Zg dq (Zj dq bne_iff_ne)) (fun hc5=>?_) (fun hc5=>?_)
  ·refine ar (ir 1 [(6,.i (-1))] (ie ?_))
   exact at_ (r2 [] [.i (-1)] ⟨rfl,rfl⟩ (li (by rw [Z3o,if_neg om,←c0_1];exact (Zr2 hx2 k3_0 hc5).symm)))
  refine ak (az (ir 2 [(1,nInt us),(3,.p b1 0),(5,.p b2 0),(7,nInt (Zb n.decls s.num)),(8,.i (((Zq n.decls s.op s.num).length:Nat):Int)),(9,.i (Zf n (us++m) x2)),(10,.i k)] (ie (az (irk 1 (.n 35 (.i k) .r) (ia (((k+1:Nat):Int)) (((k:Int))+(1)) (irk 1 (.n 10 (.i (k+1:Nat)) (.p (.d (.w (.k (.k .z)))))) (ie ?_))))))))
  exact ⟨_,_,_,ob,⟨k+1,Zf n (us++m) x2,ob,(by rw [←c0_1];exact (Zna hx2 k3_0 hc5).symm),rfl,rfl,rfl⟩,(wk [0,0] (fq (fw (fc (x:=.i (k+1:Nat)) li fl))))⟩
 refine ax 0 (ar (ir 2 [(6,.i t)] (ie ?_)))
 exact at_ (r2 [] [.i t] ⟨rfl,rfl⟩ (li (by rw [Z3o,if_neg om,←c0_1];exact (Zr3 om).symm)))
end Go.Abs
