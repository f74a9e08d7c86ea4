/-
  FnExactReuseUptoSaid: the law FnExactReuse returns true at every argument of bulk at most 1048576, and the argument reads behind the call as it read before.
-/
import Derived.Test.YtjneabekegkopaaGreatReuE
import Derived.Test.YtjneabekegkopaaGreatRows
import Derived.WalkKit
import Derived.ProofKit
import Derived.OpenShut
import Derived.JoinedCond
import Derived.ReadAgain
set_option linter.all false
set_option linter.unusedVariables false
set_option linter.unusedSimpArgs false
set_option linter.unusedSectionVars false
set_option maxRecDepth 10000
set_option maxHeartbeats 4000000
namespace Go.Abs
open Go.Proofs
theorem Z7p (b:Block) (hz:b.sz≤1000000000:=by exact ob):Z3 Tryz.prog 176 [Za b] [] (fun r h=>r=.i (((Zm b.steps):Nat):Int)∧h=[]):=by
 have hbz:=Z4d b
 refine enter Tryz.func176 kr (n:=21) kr kr (ar (iA (Z03 b) ?_))
 intro b1
 refine ir 1 [(1,.p b1 0)] (ie (ar (irk 1 (.n 3 (.i 0) .r) (ie (aq (ab 0 (al (fun m F h=>∃(k:Nat),(k≤b.steps.length)∧(k+Zm (b.steps.drop k)=Zm b.steps)∧F=[(1,.p b1 0),(3,.i k)]∧h=[.obj b1 (Z03 b)]∧m=b.steps.length-k) _ _ _ ⟨0,ob,(by simp),rfl,rfl,rfl⟩ (wk [0] (fr (fc (x:=.i 0) li fl))) ?_)))))))
 rintro m F h ⟨k,c0_0,c0_1,rfl,rfl,rfl⟩
 refine aq (ar (irK 3 (.n 4 (.i k) (.n 6 (Z0b b.steps) .r)) [0] [b1] (iw (Z0l b.steps) (irk 2 (.n 9 (.b (decide ((k:Int)<(b.steps.length:Int)))) .r) (ib (b:=(decide ((k:Int)<(b.steps.length:Int)))) 9 (fun hb1=>?_) (fun hb1=>?_))))))
 ·have hp1:(k:Int)<(b.steps.length:Int):=(dq).1 hb1
  refine irK 3 (.n 11 (Z0b b.steps) (.n 12 (.i k) (.k (.d .r)))) [0] [b1] ?_
  obtain ⟨x1,hx1⟩:=Z6 (xs:=b.steps) (j:=k) om
  refine is_ (Z0 (es:=Zo b.steps) (hv:=none) (j:=(k:Int)) (sz:=5) (y:=Z0g x1) kr om (Z0y hx1) rfl) (irk 2 (.n 15 (.i x1.op) .r) (ic [] (Z82 x1.op) ?_))
  rintro _ _ ⟨rfl,rfl⟩
  refine irk 1 (.n 17 (.b (Z0q x1.op)) .r) (ie (ac (Z0q x1.op) Iff.rfl (fun hc1=>?_) (fun hc1=>?_)))
  ·refine ak (ab 1 (az (irk 1 (.n 18 (.i k) .r) (ia (((k+1:Nat):Int)) (((k:Int))+(1)) (ir 1 [(1,.p b1 0),(3,.i (k+1:Nat))] (ie ?_))))))
   exact ⟨_,_,_,ob,⟨k+1,ob,(Zji hx1 hc1 c0_1),rfl,rfl,rfl⟩,(wk [0] (fr (fc (x:=.i (k+1:Nat)) li fl)))⟩
  refine ax 0 (ar (ir 2 [(2,.i k)] (ie ?_)))
  exact at_ (r2 [] [.i k] ⟨rfl,rfl⟩ (li (by have:=Zjj hx1 hc1 c0_1;omega)))
 have hp2:¬((k:Int)<(b.steps.length:Int)):=Zd dq hb1
 refine irk 8 (.n 17 (.b false) (.k (.d .r))) (ie (ac0 (ax 0 (ar (ir 2 [(2,.i k)] (ie ?_))))))
 exact at_ (r2 [] [.i k] ⟨rfl,rfl⟩ (li (by have:=Znc om c0_1;omega)))
theorem Zhs (b:Block) (mm:Nat) (op:Int) (x:Int) (hm:mm≤b.steps.length:=by exact ob) (ha:∀s∈b.steps.take mm,s.op=op→∃a,s.args=[a]) (hz:b.sz≤1000000000:=by exact ob):Z3 Tryz.prog 177 [Za b,.i mm,.i op,.i x] [] (fun r h=>r=.i (atF op x (b.steps.take mm) 0)∧h=[]):=by
 have hbz:=Z4d b
 refine enter Tryz.func177 kr (n:=36) kr kr (ar (iA (Z03 b) ?_))
 intro b1
 refine ir 1 [(1,.i mm),(2,.i op),(3,.i x),(4,.p b1 0)] (ie (aq (ar (irk 1 (.n 9 (.i 0) .r) (ie (ab 0 (al (fun m F h=>∃(k:Nat),(k≤mm)∧(atF op x ((b.steps.take mm).drop k) k=atF op x (b.steps.take mm) 0)∧F=[(1,.i mm),(2,.i op),(3,.i x),(4,.p b1 0),(9,.i k)]∧h=[.obj b1 (Z03 b)]∧m=mm-k) _ _ _ ⟨0,ob,(by simp),rfl,rfl,rfl⟩ (wk [0] (fq (fc (x:=.i 0) li fl))) ?_)))))))
 rintro m F h ⟨k,c0_0,c0_1,rfl,rfl,rfl⟩
 refine aq (ar (irk 3 (.n 12 (.b (decide ((k:Int)<(mm:Int)))) .r) (ie (ac (decide ((k:Int)<(mm:Int))) dq (fun hc1=>?_) (fun hc1=>?_)))))
 ·refine ak (aq (ab 1 (ar (irK 3 (.n 16 (Z0b b.steps) (.n 17 (.i k) .r)) [0] [b1] ?_))))
  obtain ⟨x1,hx1⟩:=Z6 (xs:=b.steps) (j:=k) om
  have hxt:(b.steps.take mm)[k]? = some x1:=by rw [List.getElem?_take_of_lt om];exact hx1
  have hxm:=List.mem_of_getElem? hxt
  refine is_ (Z0 (es:=Zo b.steps) (hv:=none) (j:=(k:Int)) (sz:=5) (y:=Z0g x1) kr om (Z0y hx1) rfl) (irk 5 (.n 23 (.b (x1.op==op)) .r) (ib (b:=(x1.op==op)) 23 (fun hb1=>?_) (fun hb1=>?_)))
  ·have hp1:x1.op=op:=(beq_iff_eq).1 hb1
   refine irK 3 (.n 25 (Z0b b.steps) (.n 26 (.i k) (.k (.d .r)))) [0] [b1] (is_ (Z0 (es:=Zo b.steps) (hv:=none) (j:=(k:Int)) (sz:=5) (y:=Z0g x1) kr om (Z0y hx1) rfl) (irk 2 (.n 29 (nInt x1.args) .r) ?_))
   obtain ⟨x2,hx2⟩:=Z6 (xs:=x1.args) (j:=0) (by obtain ⟨a,ha2⟩:=ha x1 hxm (by assumption);rw [ha2];simp)
   have hg0:=gI0 hx2
   refine is_ (Z0 (es:=Z8 x1.args) (hv:=none) (j:=0) (sz:=1) (y:=.i x2) kr om (Z9 hx2) rfl) (irk 4 (.n 34 (.b (x2==x)) .r) (ie (ac (x2==x) beq_iff_eq (fun hc2=>?_) (fun hc2=>?_))))
   ·refine ar (ir 2 [(8,.i k)] (ie ?_))
    exact at_ (r2 [] [.i k] ⟨rfl,rfl⟩ (li (by have h:=Zqj hxt ⟨by assumption,by rw [hg0];assumption⟩ c0_1;omega)))
   refine ak (az (irk 1 (.n 13 (.i k) .r) (ia (((k+1:Nat):Int)) (((k:Int))+(1)) (ir 1 [(1,.i mm),(2,.i op),(3,.i x),(4,.p b1 0),(9,.i (k+1:Nat))] (ie ?_)))))
   exact ⟨_,_,_,ob,⟨k+1,ob,(Zkb hxt (fun z=>hc2 (by rw [←hg0];exact z.2)) c0_1),rfl,rfl,rfl⟩,(wk [0] (fq (fc (x:=.i (k+1:Nat)) li fl)))⟩
  have hp2:¬(x1.op=op):=Zd beq_iff_eq hb1
  refine irk 11 (.n 34 (.b false) (.k (.d .r))) (ie (ac0 (ak (az (irk 1 (.n 13 (.i k) .r) (ia (((k+1:Nat):Int)) (((k:Int))+(1)) (ir 1 [(1,.i mm),(2,.i op),(3,.i x),(4,.p b1 0),(9,.i (k+1:Nat))] (ie ?_))))))))
  exact ⟨_,_,_,ob,⟨k+1,ob,(Zkb hxt (fun z=>absurd z.1 (by assumption)) c0_1),rfl,rfl,rfl⟩,(wk [0] (fq (fc (x:=.i (k+1:Nat)) li fl)))⟩
 refine ax 0 (ar (ir 1 [(8,.i (-1))] (ie ?_)))
 exact at_ (r2 [] [.i (-1)] ⟨rfl,rfl⟩ (li (by have h:=Zum (by rw [List.length_take];omega) c0_1;omega)))
theorem Zty (b:Block) (frm0:Nat) (many:Nat) (hm:frm0≤b.steps.length:=by exact ob) (hz:b.sz≤1000000000:=by exact ob):Z3 Tryz.prog 205 [Za b,.i frm0,.i many] [] (fun r h=>r=.i (conF many (b.steps.drop frm0) frm0)∧h=[]):=by
 have hbz:=Z4d b
 refine enter Tryz.func205 kr (n:=44) kr kr (ar (iA (Z03 b) ?_))
 intro b1
 refine ir 1 [(1,.i frm0),(2,.i many),(3,.p b1 0)] (ie (aq (ar (irk 2 (.n 7 (.i frm0) .r) (ie (ab 0 (al (fun m F h=>∃(k:Nat),(k≤b.steps.length)∧(conF many (b.steps.drop k) k=conF many (b.steps.drop frm0) frm0)∧F=[(2,.i many),(3,.p b1 0),(7,.i k)]∧h=[.obj b1 (Z03 b)]∧m=b.steps.length-k) _ _ _ ⟨frm0,ob,rfl,rfl,rfl,rfl⟩ (wk [0] fl) ?_)))))))
 rintro m F h ⟨k,c0_0,c0_1,rfl,rfl,rfl⟩
 refine aq (ar (irK 3 (.n 9 (.i k) (.n 11 (Z0b b.steps) .r)) [0] [b1] (iw (Z0l b.steps) (irk 1 (.n 13 (.b (decide ((k:Int)<(b.steps.length:Int)))) .r) (ie (ac (decide ((k:Int)<(b.steps.length:Int))) dq (fun hc1=>?_) (fun hc1=>?_)))))))
 ·refine ak (aq (ab 1 (ar (irK 3 (.n 17 (Z0b b.steps) (.n 18 (.i k) .r)) [0] [b1] ?_))))
  obtain ⟨x1,hx1⟩:=Z6 (xs:=b.steps) (j:=k) om
  refine is_ (Z0 (es:=Zo b.steps) (hv:=none) (j:=(k:Int)) (sz:=5) (y:=Z0g x1) kr om (Z0y hx1) rfl) (Z1n 16 [(2,.i many),(3,.p b1 0),(7,.i k),(31,.b ((x1.op==6)&&(x1.into==0)))] [.obj b1 (Z03 b)] ?_ (fun hj1=>?_))
  ·refine Z24 [(2,.i many),(3,.p b1 0),(7,.i k),(42,.b (((x1.op==6)&&(x1.into==0))&&((x1.args.length:Int)==(many:Int))))] [.obj b1 (Z03 b)] ?_ ?_
   ·refine ir 1 [(2,.i many),(3,.p b1 0),(7,.i k),(32,.b ((x1.op==6)&&(x1.into==0)))] (ib (b:=((x1.op==6)&&(x1.into==0))) 32 (fun hb1=>?_) (fun hb1=>?_))
    ·have hp1:(x1.op=6)∧(x1.into=0):=((Zj beq_iff_eq beq_iff_eq)).1 hb1
     refine irK 3 (.n 34 (Z0b b.steps) (.n 35 (.i k) (.w .z))) [0] [b1] (is_ (Z0 (es:=Zo b.steps) (hv:=none) (j:=(k:Int)) (sz:=5) (y:=Z0g x1) kr om (Z0y hx1) rfl) (irk 2 (.n 38 (nInt x1.args) .r) (iw (Z4 x1.args) (irk 3 (.n 42 (.b ((x1.args.length:Int)==(many:Int))) .r) (ie ?_)))))
     exact wk [0] (fw (fr (fc (x:=.b ((x1.args.length:Int)==(many:Int))) (lb (by simp only [hb1];rfl)) fl)))
    have hp2:¬((x1.op=6)∧(x1.into=0)):=Zd (Zj beq_iff_eq beq_iff_eq) hb1
    refine irk 10 (.n 42 (.b false) (.d (.k (.k (.k .z))))) (ie ?_)
    exact wk [0] (fw (fr (fc (x:=.b false) (lb (by simp only [hb1];rfl)) fl)))
   refine ac (((x1.op==6)&&(x1.into==0))&&((x1.args.length:Int)==(many:Int))) (p:=((x1.op=6)∧(x1.into=0))∧((x1.args.length:Int)=(many:Int))) (Zj (Zj beq_iff_eq beq_iff_eq) beq_iff_eq) (fun hc2=>?_) (fun hc2=>?_)
   ·refine ar (ir 2 [(6,.i k)] (ie ?_))
    exact at_ (r2 [] [.i k] ⟨rfl,rfl⟩ (li (by have h:=Zmf hx1 (show conB many x1 from ⟨hc2.1,by omega⟩) c0_1;omega)))
   refine ak (az (ir 1 [(2,.i many),(3,.p b1 0),(14,.i k)] (ia (((k+1:Nat):Int)) (((k:Int))+(1)) (irk 1 (.n 7 (.i (k+1:Nat)) .r) (ie ?_)))))
   exact ⟨_,_,_,ob,⟨k+1,ob,(Zme hx1 (fun z=>hc2 ⟨z.1,by have:=z.2;omega⟩) c0_1),rfl,rfl,rfl⟩,(wk [0] (fw (fc (x:=.i (k+1:Nat)) li fl)))⟩
  refine ir 4 [(2,.i many),(3,.p b1 0),(7,.i k),(23,.b (x1.op==6))] (ib (b:=(x1.op==6)) 23 (fun hb2=>?_) (fun hb2=>?_))
  ·have hp3:x1.op=6:=(beq_iff_eq).1 hb2
   refine irK 3 (.n 25 (Z0b b.steps) (.n 26 (.i k) (.w .z))) [0] [b1] (is_ (Z0 (es:=Zo b.steps) (hv:=none) (j:=(k:Int)) (sz:=5) (y:=Z0g x1) kr om (Z0y hx1) rfl) (irk 4 (.n 31 (.b (x1.into==0)) .r) ?_))
   exact Zy (wk [0] (fw (fr (fc (x:=.b (x1.into==0)) (lb (by simp only [hb2];rfl)) fl)))) hj1
  have hp4:¬(x1.op=6):=Zd beq_iff_eq hb2
  refine irk 8 (.n 31 (.b false) (.d (.k (.k (.k .z))))) ?_
  exact Zy (wk [0] (fw (fr (fc (x:=.b false) (lb (by simp only [hb2];rfl)) fl)))) hj1
 refine ax 0 (ar (ir 1 [(6,.i (-1))] (ie ?_)))
 exact at_ (r2 [] [.i (-1)] ⟨rfl,rfl⟩ (li (by have h:=Zqq om c0_1;omega)))
theorem Zkg (b:Block) (hz:b.sz≤1000000000):Z3 Tryz.prog 193 [Za b] [] (fun r h=>∃(v:Hd),r=.agg [.h v,.i b.result]∧h=[rK v 5 (flat (Zo b.steps))]):=by
 have hbz:=Z4d b
 refine enter Tryz.func193 kr (n:=28) kr kr (ar (iA (Z03 b) ?_))
 intro b1
 refine iA [nl,.i 0] ?_
 intro b2
 refine ie (ar (iKL 5 ?_))
 intro g1
 refine iR 3 [(1,.p b1 0),(2,.p b2 0),(8,.agg [.ms g1 0 0 0,.i b.result])] [2] [b1] (iA [nl,.i 0] ?_)
 intro b3
 refine iS 0 b3 0 [.ms g1 0 0 0,.i b.result] [nl,.i 0] [.ms g1 0 0 0,.i b.result] (ie (aq (ar (irk 1 (.n 4 (.i 0) .r) (ie (ab 0 (al (fun m F h=>∃(k:Nat) (v:Hd),(k≤b.steps.length)∧F=[(1,.p b1 0),(2,.p b2 0),(3,.p b3 0),(4,.i k)]∧h=[.obj b3 [.h v,.i b.result],.obj b2 [nl,.i 0],.obj b1 (Z03 b),rK v 5 (flat (Zo (b.steps.take k)))]∧m=b.steps.length-k) _ _ _ ⟨0,(⟨some ⟨g1,0,none⟩,0,0⟩:Hd),ob,rfl,rfl,rfl⟩ (wk [0,1,1,0] (fw (fr (fc (x:=.i 0) li fl))) (e:=(rc (rc (rc (rr (ls:=[]) ob rz)))))) ?_)))))))
 rintro m F h ⟨k,v,c0_0,rfl,rfl,rfl⟩
 refine aq (ar (irK 3 (.n 9 (.i k) (.n 11 (Z0b b.steps) .r)) [2] [b1] (iw (Z0l b.steps) (irk 1 (.n 13 (.b (decide ((k:Int)<(b.steps.length:Int)))) .r) (ie (ac (decide ((k:Int)<(b.steps.length:Int))) dq (fun hc1=>?_) (fun hc1=>?_)))))))
 ·refine ak (aq (ab 1 (aE 12 (dtK (fuel:=7) 12 [0,1,2,3,4] (.n 17 (.h v) (.n 19 (Z0b b.steps) (.n 20 (.i k) .r))) [0,2] [b3,b1] ?_))))
  obtain ⟨x1,hx1⟩:=Z6 (xs:=b.steps) (j:=k) om
  have hss:=Zhx hx1
  refine dx 5 (Z0 (es:=Zo b.steps) (hv:=none) (j:=(k:Int)) (sz:=5) (y:=Z0g x1) kr om (Z0y hx1) rfl) (dtk (fuel:=5) 6 [6] (.n 22 (Z0g x1) .r) (do_ 7 (dc 7 [] [0] [b3] (Zfo x1) ?_)))
  rintro _ _ ⟨rfl,rfl⟩
  refine do_ 8 (dL 8 [0] [b3] [Z0g x1] 1 5 ?_)
  intro v1
  refine dtk (fuel:=3) 3 [] (.n 24 (.sl [Z0g x1] none) (.p .r)) (do_ 9 (dKA 9 4 k [] [] v 5 (flat (Zo (b.steps.take k))) [Z0g x1] none (by rw [Z4h,List.length_take,Nat.min_eq_left om]) (Z98 rfl) rfl (List.cons_ne_nil _ _) (by simp<;>omega) ?_))
  intro v2
  refine dtk (fuel:=1) 2 [10] (.n 26 (.p b3 0) .r) (do_ 11 (dS 11 2 [] [] b3 0 [.h v2] [.h v,.i b.result] [.h v2,.i b.result] (de (az (irk 1 (.n 14 (.i k) .r) (ia (((k+1:Nat):Int)) (((k:Int))+(1)) (ir 1 [(1,.p b1 0),(2,.p b2 0),(3,.p b3 0),(4,.i (k+1:Nat))] (ie ?_))))))))
  exact ⟨_,_,_,ob,⟨k+1,v2,ob,rfl,rfl,rfl⟩,(wk [0,2,2,0] (fw (fr (fc (x:=.i (k+1:Nat)) li fl))) (e:=(rc (rc (rc (rr (ls:=flat (Zo (b.steps.take k))++flat [Z0g x1]) (Zsy hx1) rz))))))⟩
 refine ax 0 (ar (irK 1 (.n 27 (.agg [.h v,.i b.result]) .r) [0] [b3] (iS 1 b2 0 [.h v,.i b.result] [nl,.i 0] [.h v,.i b.result] (ie ?_))))
 exact at_ (r3 [3] [.agg [.h v,.i b.result]] [0] [(b2,b2)] ⟨v,rfl,rfl⟩ (lr _) (eq:=(rr (ls:=flat (Zo (b.steps.take k))) (by rw [List.take_of_length_le om]) rz)))
theorem Zmk (b:Block) (hz:b.sz≤1000000000:=by exact ob) (h0:0<b.steps.length:=by exact ob):Z3 Tryz.prog 193 [Za b] [] (fun r h=>∃(g:Nat) (c:Nat),r=.agg [.ms g 0 b.steps.length c,.i b.result]∧h=[.row (.slice (some ⟨g,0,none⟩) b.steps.length c) 5 (flat (Zo b.steps))]):=(Zkg b hz).form (T:=fun v=>.agg [.h v,.i b.result]) (m:=b.steps.length) (Z4h _) om h0
theorem Zll (ds:List Decl) (b:Block) (x:Int) (many:Nat) (hw:wB ds b:=by exact ob) (hx:0≤x∧x≤900000000:=by exact ob) (hz:b.sz≤1000000000:=by exact ob):Z3 Tryz.prog 175 [Za b,.i x,.i many] [] (fun r h=>r=Za (reuA b x many)∧h=[]):=by
 have hbz:=Z4d b
 have hbs:=(Zlv b).1 hw
 have hrl:=Zan b.steps
 refine enter Tryz.func175 kr (n:=57) kr kr (ar (iA (Z03 b) ?_))
 intro b1
 refine iA [nl,.i 0] ?_
 intro b2
 refine ie (aD 6 (dT (fuel:=3) 6 [0,1,3] [(1,.i x),(2,.i many),(3,.p b1 0),(6,.p b2 0),(11,Za b),(12,Za b),(14,.i x)] [1,1] [b1,b1] (do_ 2 (dc 2 [] [1] [b1] (Z7p b) ?_))))
 rintro _ _ ⟨rfl,rfl⟩
 refine do_ 4 (dc 4 [] [] [] (Zhs b (Zm b.steps) 16 x (ha:=(fun s hs h16=>Zok (Zs4 hbs s (List.mem_of_mem_take hs) (by rw [h16];rfl))))) ?_)
 rintro _ _ ⟨rfl,rfl⟩
 refine dtk (fuel:=0) 1 [5] (.n 7 (.i (atF 16 x (b.steps.take (Zm b.steps)) 0)) .r) (de (aD 6 (dtK (fuel:=3) 6 [0,1,3] (.n 16 (Za b) (.n 17 (Za b) (.n 19 (.i many) .r))) [1,1] [b1,b1] (do_ 2 (dc 2 [] [1] [b1] (Z7p b) ?_)))))
 rintro _ _ ⟨rfl,rfl⟩
 refine do_ 4 (dc 4 [] [] [] (Zty b (Zm b.steps) many) ?_)
 rintro _ _ ⟨rfl,rfl⟩
 refine dtk (fuel:=0) 1 [5] (.n 8 (.i (conF many (b.steps.drop (Zm b.steps)) (Zm b.steps))) .r) (de (aq (ar (Z24 [(1,.i x),(3,.p b1 0),(6,.p b2 0),(7,.i (atF 16 x (b.steps.take (Zm b.steps)) 0)),(8,.i (conF many (b.steps.drop (Zm b.steps)) (Zm b.steps))),(26,.b ((decide ((atF 16 x (b.steps.take (Zm b.steps)) 0)<0))||(decide ((conF many (b.steps.drop (Zm b.steps)) (Zm b.steps))<0))))] [.obj b2 [nl,.i 0],.obj b1 (Z03 b)] ?_ ?_))))
 ·refine ir 3 [(1,.i x),(3,.p b1 0),(6,.p b2 0),(7,.i (atF 16 x (b.steps.take (Zm b.steps)) 0)),(8,.i (conF many (b.steps.drop (Zm b.steps)) (Zm b.steps))),(23,.b (decide ((atF 16 x (b.steps.take (Zm b.steps)) 0)<0)))] (ib (b:=(decide ((atF 16 x (b.steps.take (Zm b.steps)) 0)<0))) 23 (fun hb1=>?_) (fun hb1=>?_))
  ·have hp1:(atF 16 x (b.steps.take (Zm b.steps)) 0)<0:=(dq).1 hb1
   refine irk 3 (.n 26 (.b true) (.d (.w (.k .z)))) (ie ?_)
   exact wk [0,0] (fq (fr (fc (x:=.b true) (lb (by simp only [hb1];rfl)) fl)))
  have hp2:¬((atF 16 x (b.steps.take (Zm b.steps)) 0)<0):=Zd dq hb1
  refine irk 3 (.n 26 (.b (decide ((conF many (b.steps.drop (Zm b.steps)) (Zm b.steps))<0))) (.d (.w (.k .z)))) (ie ?_)
  exact wk [0,0] (fq (fr (fc (x:=.b (decide ((conF many (b.steps.drop (Zm b.steps)) (Zm b.steps))<0))) (lb (by simp only [hb1];rfl)) fl)))
 refine ac ((decide ((atF 16 x (b.steps.take (Zm b.steps)) 0)<0))||(decide ((conF many (b.steps.drop (Zm b.steps)) (Zm b.steps))<0))) (p:=((atF 16 x (b.steps.take (Zm b.steps)) 0)<0)∨((conF many (b.steps.drop (Zm b.steps)) (Zm b.steps))<0)) (Zg dq dq) (fun hc1=>?_) (fun hc1=>?_)
 ·refine ar (iR 1 [(6,.p b2 0),(27,Za b)] [1] [b1] (iS 0 b2 0 (Z03 b) [nl,.i 0] (Z03 b) (ie ?_)))
  exact at_ (r3 [] [Za b] [0] [(b2,b2)] ⟨rfl,rfl⟩ (AVLe.agg (.cons (AVLe.sl _ (congrArg Zo (Zxv hc1).symm)) (.cons li .nil))))
 obtain ⟨o1,o2,so,o3,o4⟩:=Z6i (xs:=b.steps) (x:=x) (fun z=>hc1 (.inl z))
 obtain ⟨p1,p2,sc,p3,p4,p5⟩:=Z5g (xs:=b.steps) (many:=many) (fun z=>hc1 (.inr z))
 rw [show Z4b b.steps x=(atF 16 x (b.steps.take (Zm b.steps)) 0) from rfl] at o1 o2
 rw [show Z3g b.steps many=(conF many (b.steps.drop (Zm b.steps)) (Zm b.steps)) from rfl] at p1 p2
 refine ak (ar (iR 1 [(1,.i x),(6,.p b2 0),(7,.i (atF 16 x (b.steps.take (Zm b.steps)) 0)),(8,.i (conF many (b.steps.drop (Zm b.steps)) (Zm b.steps))),(28,Za b)] [1] [b1] (ic [] (Zmk b) ?_)))
 rintro _ _ ⟨g1,c1,rfl,rfl⟩
 refine iA [nl,.i 0] ?_
 intro b3
 refine iS 0 b3 0 [.ms g1 0 b.steps.length c1,.i b.result] [nl,.i 0] [.ms g1 0 b.steps.length c1,.i b.result] (ie (aD 7 (dtK (fuel:=3) 7 [0,1,2,3] (.n 31 (.ms g1 0 b.steps.length c1) (.n 32 (.i (atF 16 x (b.steps.take (Zm b.steps)) 0)) (.n 33 (.i x) .r))) [0] [b3] (do_ 4 (dc 4 [] [0] [b3] (Zlj 17 x) ?_)))))
 rintro _ _ ⟨rfl,rfl⟩
 refine dx 5 (kIdx g1 b.steps.length c1 ((atF 16 x (b.steps.take (Zm b.steps)) 0).toNat) 5 (atF 16 x (b.steps.take (Zm b.steps)) 0)) (do_ 6 (dKS 6 1 [] [] g1 b.steps.length c1 5 (((atF 16 x (b.steps.take (Zm b.steps)) 0).toNat)*5) (Z02 (cntS 17 x)) (flat (Zo b.steps)) (flat (Zo (b.steps.set (atF 16 x (b.steps.take (Zm b.steps)) 0).toNat (cntS 17 x)))) (by have:(Z02 (cntS 17 x)).length=5:=rfl;rw [Z4h];omega) (Zmv o3) (de (ar (irK 3 (.n 37 (.ms g1 0 b.steps.length c1) (.n 38 (.i (conF many (b.steps.drop (Zm b.steps)) (Zm b.steps))) .r)) [1] [b3] (is_ (kIdx g1 b.steps.length c1 ((conF many (b.steps.drop (Zm b.steps)) (Zm b.steps)).toNat) 5 (conF many (b.steps.drop (Zm b.steps)) (Zm b.steps))) (ix_ (Zwq 0 g1 b.steps.length c1 5 (((conF many (b.steps.drop (Zm b.steps)) (Zm b.steps)).toNat)*5) (flat (Zo (b.steps.set (atF 16 x (b.steps.take (Zm b.steps)) 0).toNat (cntS 17 x)))) (Z02 sc) 94 (Z0g sc) (Zw0 (Zap hc1 p3))) (iA [.i 0,.i 0,.i 0,nl,nl] ?_))))))))
 intro b4
 refine iS 0 b4 0 (Z02 sc) [.i 0,.i 0,.i 0,nl,nl] (Z02 sc) (ie (ar (irK 8 (.n 42 (.ms g1 0 b.steps.length c1) (.n 43 (.i (conF many (b.steps.drop (Zm b.steps)) (Zm b.steps))) (.n 45 (.i sc.op) (.n 47 (.i sc.num) (.n 48 (.i x) .r))))) [2,0,0] [b3,b4,b4] (ia ((1+x)) ((1)+(x)) (irK 5 (.n 54 (.agg [.i sc.op,.i sc.num,.i (1+x),nInt sc.args,Zv sc.kids]) .r) [0,0] [b4,b4] (is_ (kIdx g1 b.steps.length c1 ((conF many (b.steps.drop (Zm b.steps)) (Zm b.steps)).toNat) 5 (conF many (b.steps.drop (Zm b.steps)) (Zm b.steps))) (iKS 1 g1 b.steps.length c1 5 (((conF many (b.steps.drop (Zm b.steps)) (Zm b.steps)).toNat)*5) [.i sc.op,.i sc.num,.i (1+x),nInt sc.args,Zv sc.kids] (flat (Zo (b.steps.set (atF 16 x (b.steps.take (Zm b.steps)) 0).toNat (cntS 17 x)))) (flat (Zo ((b.steps.set (atF 16 x (b.steps.take (Zm b.steps)) 0).toNat (cntS 17 x)).set (conF many (b.steps.drop (Zm b.steps)) (Zm b.steps)).toNat (Z73 (1+x) sc)))) (by rw [Z4h,List.length_set];simp only [List.length_cons,List.length_nil];omega) (Zmv (t:=Z73 (1+x) sc) (Zap hc1 p3)) (Z4v (tOFr 0 1 0 (.slice (some ⟨g1,0,none⟩) b.steps.length c1) 5 b3 (Zo ((b.steps.set (atF 16 x (b.steps.take (Zm b.steps)) 0).toNat (cntS 17 x)).set (conF many (b.steps.drop (Zm b.steps)) (Zm b.steps)).toNat (Z73 (1+x) sc))) [.ms g1 0 b.steps.length c1,.i b.result] (Z57 _) rfl) (ie (ar (irK 1 (.n 56 (.agg [Z5c ((b.steps.set (atF 16 x (b.steps.take (Zm b.steps)) 0).toNat (cntS 17 x)).set (conF many (b.steps.drop (Zm b.steps)) (Zm b.steps)).toNat (Z73 (1+x) sc)) (.slice (some ⟨g1,0,none⟩) b.steps.length c1),.i b.result]) .r) [0] [b3] (iS 3 b2 0 [Z5c ((b.steps.set (atF 16 x (b.steps.take (Zm b.steps)) 0).toNat (cntS 17 x)).set (conF many (b.steps.drop (Zm b.steps)) (Zm b.steps)).toNat (Z73 (1+x) sc)) (.slice (some ⟨g1,0,none⟩) b.steps.length c1),.i b.result] [nl,.i 0] [Z5c ((b.steps.set (atF 16 x (b.steps.take (Zm b.steps)) 0).toNat (cntS 17 x)).set (conF many (b.steps.drop (Zm b.steps)) (Zm b.steps)).toNat (Z73 (1+x) sc)) (.slice (some ⟨g1,0,none⟩) b.steps.length c1),.i b.result] (ie ?_)))))))))))))
 exact at_ (r3 [] [.agg [Z5c ((b.steps.set (atF 16 x (b.steps.take (Zm b.steps)) 0).toNat (cntS 17 x)).set (conF many (b.steps.drop (Zm b.steps)) (Zm b.steps)).toNat (Z73 (1+x) sc)) (.slice (some ⟨g1,0,none⟩) b.steps.length c1),.i b.result]] [0] [(b2,b2)] ⟨rfl,rfl⟩ (AVLe.agg (.cons (AVLe.sl _ (congrArg Zo (Zrh hc1 p5))) (.cons li .nil))))
theorem Zq2 (xs:List Int) (y:Int) (hl:xs.length≤1000000000:=by exact ob):Z3 Tryz.prog 178 [nInt xs,.i y] [] (fun r h=>∃(ys:List Int),r=nInt ys∧h=[]∧(ys.length≤xs.length+1∧∀z,z∈ys↔z∈xs∨z=y)):=by
 refine enter Tryz.func178 kr (n:=49) kr kr (ar (ir 1 [(0,nInt xs),(1,.i y)] (ie (ar (iL (Z8 []) 0 1 ?_)))))
 intro v1
 refine irk 1 (.n 5 (oInt [] v1) .r) (ie (ar (irk 1 (.n 6 (.b false) .r) (ie (aq (ar (irk 1 (.n 7 (.i 0) .r) (ie (ab 0 (al (fun m F h=>∃(k:Nat) (acc:List Int) (d:Bool) (v:Value),(k≤xs.length)∧(InsI xs y k acc d)∧F=[(0,nInt xs),(1,.i y),(5,oInt acc v),(6,.b d),(7,.i k)]∧h=[.tail v 1]∧m=xs.length-k) _ _ _ ⟨0,[],false,v1,ob,(InsI.zero xs y),rfl,rfl,rfl⟩ (wk [0] (fq (fc (x:=.i 0) li fl))) ?_))))))))))
 rintro m F h ⟨k,acc,d,v,c0_0,c0_1,rfl,rfl,rfl⟩
 refine aq (ar (irk 2 (.n 9 (.i k) (.n 10 (nInt xs) .r)) (iw (Z4 xs) (irk 1 (.n 12 (.b (decide ((k:Int)<(xs.length:Int)))) .r) (ie (ac (decide ((k:Int)<(xs.length:Int))) dq (fun hc1=>?_) (fun hc1=>?_)))))))
 ·obtain ⟨x1,hx1⟩:=Z6 (xs:=xs) (j:=k) om
  have hil:acc.length≤k+1:=Nat.le_trans c0_1.len (by split<;>omega)
  refine ak (aq (ab 1 (aq (ar (Z24 [(0,nInt xs),(1,.i y),(5,oInt acc v),(6,.b d),(7,.i k),(24,.b ((!d)&&(decide (x1≥y))))] [.tail v 1] ?_ ?_)))))
  ·refine ir 3 [(0,nInt xs),(1,.i y),(5,oInt acc v),(6,.b d),(7,.i k),(17,.b (!d))] (ib (b:=(!d)) 17 (fun hb1=>?_) (fun hb1=>?_))
   ·have hp1:¬(d=true):=((Zc Iff.rfl)).1 hb1
    refine irk 2 (.n 18 (nInt xs) (.n 19 (.i k) (.w (.k (.k .z))))) (is_ (Z0 (es:=Z8 xs) (hv:=none) (j:=(k:Int)) (sz:=1) (y:=.i x1) kr om (Z9 hx1) rfl) (irk 4 (.n 24 (.b (decide (x1≥y))) .r) (ie ?_)))
    exact wk [0] (fq (fr (fc (x:=.b (decide (x1≥y))) (lb (by simp only [hb1];rfl)) fl)))
   have hp2:¬(¬(d=true)):=Zd (Zc Iff.rfl) hb1
   refine irk 7 (.n 24 (.b false) (.d (.w (.k .z)))) (ie ?_)
   exact wk [0] (fq (fr (fc (x:=.b false) (lb (by simp only [hb1];rfl)) fl)))
  refine Z6a (fun F h=>∃(acc2:List Int) (d2:Bool) (w:Value),((acc2=acc∧d2=d)∨(acc2=acc++[y]∧d2=true∧¬d=true)∨(acc2=acc∧d2=true∧x1=y))∧(acc2.length≤acc.length+1)∧F=[(0,nInt xs),(1,.i y),(5,oInt acc2 w),(6,.b d2),(7,.i k)]∧h=[.tail w 1]) ?_ ?_
  ·refine ac ((!d)&&(decide (x1≥y))) (p:=(¬(d=true))∧(x1≥y)) (Zj (Zc Iff.rfl) dq) (fun hc2=>?_) (fun hc2=>?_)
   ·refine aq (ar (ir 2 [(0,nInt xs),(1,.i y),(5,oInt acc v),(7,.i k),(25,nInt xs),(26,.i k)] (is_ (Z0 (es:=Z8 xs) (hv:=none) (j:=(k:Int)) (sz:=1) (y:=.i x1) kr om (Z9 hx1) rfl) (irk 3 (.n 30 (.b (decide (x1>y))) .r) (ie (Z6a (fun F h=>∃(w3:Value),F=[(0,nInt xs),(1,.i y),(5,oInt (if x1>y then (acc++[y]) else acc) w3),(7,.i k)]∧h=[.tail w3 1]) ?_ ?_))))))
    ·refine ac (decide (x1>y)) dq (fun hc3=>?_) (fun hc3=>?_)
     ·refine az (ir 2 [(0,nInt xs),(1,.i y),(7,.i k),(31,oInt acc v),(32,.i y)] (iL (Z8 [y]) 1 1 ?_))
      intro v2
      refine irk 0 (.n 33 (nInt [y]) (.p .r)) (ip 1 (Z8 (acc++[y])) (Z8 acc) (Z8 [y]) v none 1 (Z11 _) (Z11 _) (Z3u _) (by simp<;>omega) (by simp [Z29,Z8]) ?_)
      intro v3
      refine irk 1 (.n 5 (oInt (acc++[y]) v3) .r) (ie ?_)
      exact ⟨[(0,nInt xs),(1,.i y),(5,oInt (if x1>y then (acc++[y]) else acc) v3),(7,.i k)],[.tail v3 1],⟨v3,rfl,rfl⟩,(wk [0] (fw (fc (x:=oInt (acc++[y]) v3) (AVLe.slh _ (congrArg Z8 (by first|rfl|(rw [if_pos hc3])|(rw [if_neg hc3])|(simp [hc3];done)|(rw [Bool.eq_iff_iff];simp [hc3];done)|omega))) fl)))⟩
     refine ak ?_
     exact ⟨[(0,nInt xs),(1,.i y),(5,oInt (if x1>y then (acc++[y]) else acc) v),(7,.i k)],[.tail v 1],⟨v,rfl,rfl⟩,(wk [0] (fw (fc (x:=oInt acc v) (AVLe.slh _ (congrArg Z8 (by first|rfl|(rw [if_pos hc3])|(rw [if_neg hc3])|(simp [hc3];done)|(rw [Bool.eq_iff_iff];simp [hc3];done)|omega))) fl)))⟩
    rintro F h ⟨w3,rfl,rfl⟩
    refine az (ir 1 [(0,nInt xs),(1,.i y),(5,oInt (if x1>y then (acc++[y]) else acc) w3),(6,.b true),(7,.i k)] (ie ?_))
    exact ⟨[(0,nInt xs),(1,.i y),(5,oInt (if x1>y then (acc++[y]) else acc) w3),(6,.b true),(7,.i k)],[.tail w3 1],⟨(if x1>y then (acc++[y]) else acc),true,w3,(if h:x1>y then (by rw [if_pos h];exact .inr (.inl ⟨rfl,rfl,hc2.1⟩)) else (by rw [if_neg h];exact .inr (.inr ⟨rfl,rfl,by have:=hc2.2;omega⟩))),(by split<;>simp),rfl,rfl⟩,(wk [0] fl)⟩
   refine ak ?_
   exact ⟨[(0,nInt xs),(1,.i y),(5,oInt acc v),(6,.b d),(7,.i k)],[.tail v 1],⟨acc,d,v,(.inl ⟨rfl,rfl⟩),ob,rfl,rfl⟩,(wk [0] fl)⟩
  rintro F h ⟨acc2,d2,w,k1_0,k1_1,rfl,rfl⟩
  refine az (ir 3 [(0,nInt xs),(1,.i y),(6,.b d2),(7,.i k),(35,oInt acc2 w),(36,nInt xs),(37,.i k)] (is_ (Z0 (es:=Z8 xs) (hv:=none) (j:=(k:Int)) (sz:=1) (y:=.i x1) kr om (Z9 hx1) rfl) (irk 1 (.n 39 (.i x1) .r) (iL (Z8 [x1]) 1 1 ?_))))
  intro v4
  refine irk 0 (.n 40 (nInt [x1]) (.p .r)) (ip 1 (Z8 (acc2++[x1])) (Z8 acc2) (Z8 [x1]) w none 1 (Z11 _) (Z11 _) (Z3u _) (by simp<;>omega) (by simp [Z29,Z8]) ?_)
  intro v5
  refine irk 1 (.n 5 (oInt (acc2++[x1]) v5) .r) (ie (az (irk 1 (.n 13 (.i k) .r) (ia (((k+1:Nat):Int)) (((k:Int))+(1)) (irk 1 (.n 7 (.i (k+1:Nat)) (.p (.d (.k (.p (.d (.d (.p (.k (.k (.k .z))))))))))) (ie ?_))))))
  exact ⟨_,_,_,ob,⟨k+1,(acc2++[x1]),d2,v5,ob,(c0_1.go hx1 k1_0),rfl,rfl,rfl⟩,(wk [0] (fq (fc (x:=.i (k+1:Nat)) li fl)))⟩
 have hil:acc.length≤k+1:=Nat.le_trans c0_1.len (by split<;>omega)
 refine ax 0 (aq (ar (irk 2 (.n 43 (.b (!d)) .r) (ie (Z6a (fun F h=>∃(w4:Value),F=[(5,oInt (if d=true then acc else (acc++[y])) w4)]∧h=[.tail w4 1]) ?_ ?_)))))
 ·refine ac (!d) (p:=¬(d=true)) (Zc Iff.rfl) (fun hc4=>?_) (fun hc4=>?_)
  ·refine az (ir 2 [(44,oInt acc v),(45,.i y)] (iL (Z8 [y]) 1 1 ?_))
   intro v6
   refine irk 0 (.n 46 (nInt [y]) (.p .r)) (ip 1 (Z8 (acc++[y])) (Z8 acc) (Z8 [y]) v none 1 (Z11 _) (Z11 _) (Z3u _) (by simp<;>omega) (by simp [Z29,Z8]) ?_)
   intro v7
   refine ir 1 [(5,oInt (acc++[y]) v7)] (ie ?_)
   exact ⟨[(5,oInt (if d=true then acc else (acc++[y])) v7)],[.tail v7 1],⟨v7,rfl,rfl⟩,(wk [0] (fc (x:=oInt (acc++[y]) v7) (AVLe.slh _ (congrArg Z8 (by first|rfl|(rw [if_pos hc4])|(rw [if_neg hc4])|(simp [hc4];done)|(rw [Bool.eq_iff_iff];simp [hc4];done)|omega))) fl))⟩
  refine ak ?_
  exact ⟨[(5,oInt (if d=true then acc else (acc++[y])) v)],[.tail v 1],⟨v,rfl,rfl⟩,(wk [0] (fc (x:=oInt acc v) (AVLe.slh _ (congrArg Z8 (by first|rfl|(rw [if_pos hc4])|(rw [if_neg hc4])|(simp [hc4];done)|(rw [Bool.eq_iff_iff];simp [hc4];done)|omega))) fl))⟩
 rintro F h ⟨w4,rfl,rfl⟩
 refine ar (ir 2 [(4,oInt (if d=true then acc else (acc++[y])) w4)] (ie ?_))
 exact at_ (r2 [] [oInt (if d=true then acc else (acc++[y])) w4] ⟨(if d=true then acc else (acc++[y])),rfl,rfl,(if hd:d=true then (by rw [if_pos hd];exact (c0_1.fin om).1 hd) else (by rw [if_neg hd];exact (c0_1.fin om).2 hd))⟩ (AVLe.forget _ _))
theorem Zdf (n:Normal) (s:Step) (j:Nat) (kept:List Int) (kd:Block) (hn:NOk n) (hws:wS n.decls s) (hkd:s.kids[j]? = some kd) (hnk:nrB kd) (hK:kept.length+s.sz≤900000000) (ih:∀(b2:Block) (K2:List Int),(wB n.decls b2)→(nrk b2)→(K2.length+b2.sz≤900000000)→(b2.sz<s.sz)→Z3 Tryz.prog 85 [Zi n,Za b2,nInt K2] [] (fun r h=>r=Za (ruB n.decls K2 b2)∧h=[])):Z3 Tryz.prog 138 [Zi n,Z0g s,.i j,nInt kept] [] (fun r h=>r=Za (ruK n.decls kept s.op s.num s.args j kd)∧h=[]):=by
 have hdk:=hn.decls
 have hks:=Z9k hkd
 have hwk:=Z02f hws hkd
 have haz:=Z86 s
 have hjl:=(List.getElem?_eq_some_iff.1 hkd).1
 refine enter Tryz.func138 kr (n:=65) kr kr (ar (iA (Zh n) ?_))
 intro b1
 refine iA (Z02 s) ?_
 intro b2
 refine iA [nl,.i 0] ?_
 intro b3
 refine ie (aq (ar (iR 3 [(2,.i j),(3,nInt kept),(4,.p b1 0),(5,.p b2 0),(8,.p b3 0),(14,.b (s.op != 8))] [1] [b2] (ie (ac (s.op != 8) bne_iff_ne (fun hc1=>?_) (fun hc1=>?_))))))
 ·refine aD 9 (dtK (fuel:=5) 9 [0,1,2,3] (.n 15 (Zi n) (.n 17 (Zv s.kids) (.n 18 (.i j) .r))) [2,1] [b1,b2] (dx 4 (Z0 (es:=Z19 s.kids) (hv:=none) (j:=(j:Int)) (sz:=2) (y:=Za kd) kr om (Z1q hkd) rfl) (dtk (fuel:=2) 4 [5,6] (.n 20 (Za kd) (.n 21 (nInt kept) .r)) (do_ 7 (dc 7 [] [] [] (ih kd kept (by first|exact hwk|exact k1_1) (by first|exact Zpp hnk|exact k1_2) ob ob) ?_)))))
  rintro _ _ ⟨rfl,rfl⟩
  refine do_ 8 (dS 8 0 [] [] b3 0 (Z03 (ruB n.decls kept kd)) [nl,.i 0] (Z03 (ruB n.decls kept kd)) (de ?_))
  have hE:=Zef (ds:=n.decls) (kept:=kept) (op:=s.op) (num:=s.num) (args:=s.args) (j:=j) (kd:=kd) (fun z=>hc1 z.1)
  exact at_ (r3 [] [Za (ruB n.decls kept kd)] [0] [(b3,b3)] ⟨rfl,rfl⟩ (AVLe.agg (.cons (AVLe.sl _ (congrArg Zo (by rw [hE]))) (.cons (li (by rw [hE])) .nil))))
 refine ak (ar (irK 2 (.n 24 (nInt s.args) .r) [1] [b2] ?_))
 obtain ⟨x1,hx1⟩:=Z6 (xs:=s.args) (j:=0) (by obtain ⟨⟨a,ha2,_⟩,_⟩:=Z9i hws om;rw [ha2];simp)
 have hg1:=gI0 hx1
 have hxb:0≤x1∧x1≤900000000:=by obtain ⟨⟨a,ha2,ha3⟩,_⟩:=Z9i hws om;rw [ha2] at hg1;have:a=x1:=hg1;omega
 refine is_ (Z0 (es:=Z8 s.args) (hv:=none) (j:=0) (sz:=1) (y:=.i x1) kr om (Z9 hx1) rfl) (irk 2 (.n 9 (.i x1) .r) (ie (ar (irK 3 (.n 28 (Zv s.kids) (.n 29 (.i j) .r)) [1] [b2] (is_ (Z0 (es:=Z19 s.kids) (hv:=none) (j:=(j:Int)) (sz:=2) (y:=Za kd) kr om (Z1q hkd) rfl) (irk 1 (.n 31 (Za kd) .r) (iA [nl,.i 0] ?_)))))))
 intro b4
 refine iS 0 b4 0 (Z03 kd) [nl,.i 0] (Z03 kd) (ie (aq (ar (irk 2 (.n 32 (nInt kept) (.n 33 (.i x1) .r)) (ic [] (Z83 kept x1) ?_)))))
 rintro _ _ ⟨rfl,rfl⟩
 refine irk 1 (.n 35 (.b (!(decide (x1∈kept)))) .r) (ie (Z6a (fun F h=>∃(B2:Block) (K2:List Int),(ruB n.decls K2 B2=ruK n.decls kept s.op s.num s.args j kd)∧(wB n.decls B2)∧(nrk B2)∧(B2.sz≤kd.sz)∧(K2.length≤kept.length+1)∧F=[(3,nInt K2),(4,.p b1 0),(8,.p b3 0),(10,.p b4 0)]∧h=[.obj b4 (Z03 B2),.obj b3 [nl,.i 0],.obj b1 (Zh n)]) ?_ ?_))
 ·refine ac (!(decide (x1∈kept))) (p:=¬(x1∈kept)) (Zc dq) (fun hc2=>?_) (fun hc2=>?_)
  ·refine aD 16 (dT (fuel:=7) 16 [0,1,2,3,4,5,6,7,9] [(3,nInt kept),(4,.p b1 0),(8,.p b3 0),(9,.i x1),(10,.p b4 0),(36,Za kd),(37,.i x1),(39,Z2 n.decls),(41,Z2 n.decls),(43,.i s.num),(45,.i j)] [0,3,3,2] [b4,b1,b1,b2] (do_ 8 (dc 8 [] [3,0] [b1,b4] (Z8e n.decls s.num) ?_)))
   rintro _ _ ⟨v1,rfl,rfl⟩
   obtain ⟨x2,hx2⟩:=Z6 (xs:=Zb n.decls s.num) (j:=j) (by have h:=(Z9i hws om).2;omega)
   have hfl:(Z3w n.decls s.num j).length=(Z1 n.decls x2).length:=by rw [Zbk (by rw [List.getElem?_map,hx2];rfl)]
   have hcf:=Z13 hdk x2
   refine dx 10 (Z0 (es:=Z8 (Zb n.decls s.num)) (hv:=some v1) (j:=(j:Int)) (sz:=1) (y:=.i x2) kr om (Z9 hx2) rfl) (dtk (fuel:=4) 5 [11] (.n 47 (.i x2) .r) (do_ 12 (dc 12 [] [0] [b4] (Z3y n.decls x2) ?_)))
   rintro _ _ ⟨rfl,rfl⟩
   refine dn 13 (.i (((Z1 n.decls x2).length:Nat):Int)) (.i (((Z8 (Z1 n.decls x2)).length:Nat):Int)) (li (by rw [Z4])) (do_ 14 (dc 14 [] [] [] (Zll n.decls kd x1 ((Z1 n.decls x2).length) (hw:=hwk) (hx:=hxb)) ?_))
   rintro _ _ ⟨rfl,rfl⟩
   have hwr:=Z02c (x:=x1) (many:=(Z1 n.decls x2).length) hwk
   have hsr:=Z047 (x:=x1) (many:=(Z1 n.decls x2).length) hwk
   refine do_ 15 (dS 15 1 [] [] b4 0 (Z03 (reuA kd x1 ((Z1 n.decls x2).length))) (Z03 kd) (Z03 (reuA kd x1 ((Z1 n.decls x2).length))) (de (ar (irK 1 (.n 51 (Za (reuA kd x1 ((Z1 n.decls x2).length))) .r) [0] [b4] (ic [] (Z7p (reuA kd x1 ((Z1 n.decls x2).length))) ?_)))))
   rintro _ _ ⟨rfl,rfl⟩
   refine irk 1 (.n 11 (.i (((Zm (reuA kd x1 ((Z1 n.decls x2).length)).steps):Nat):Int)) .r) (ie (ar (irK 3 (.n 53 (Za (reuA kd x1 ((Z1 n.decls x2).length))) (.n 54 (.i (((Zm (reuA kd x1 ((Z1 n.decls x2).length)).steps):Nat):Int)) (.n 55 (.i x1) .r))) [0] [b4] (ic [] (Zhs (reuA kd x1 ((Z1 n.decls x2).length)) (Zm (reuA kd x1 ((Z1 n.decls x2).length)).steps) 17 x1 (hm:=(Zan _)) (ha:=(fun s2 hs2 h17=>Zok (Zs4 ((Zlv _).1 hwr) s2 (List.mem_of_mem_take hs2) (by rw [h17];rfl))))) ?_))))
   rintro _ _ ⟨rfl,rfl⟩
   refine irk 1 (.n 57 (.b (decide ((atF 17 x1 ((reuA kd x1 ((Z1 n.decls x2).length)).steps.take (Zm (reuA kd x1 ((Z1 n.decls x2).length)).steps)) 0)≥0))) .r) (ie (ac (decide ((atF 17 x1 ((reuA kd x1 ((Z1 n.decls x2).length)).steps.take (Zm (reuA kd x1 ((Z1 n.decls x2).length)).steps)) 0)≥0)) dq (fun hc3=>?_) (fun hc3=>?_)))
   ·refine az (irk 2 (.n 58 (nInt kept) (.n 59 (.i x1) .r)) (ic [] (Zq2 kept x1) ?_))
    rintro _ _ ⟨ys1,rfl,rfl,hp1⟩
    have hin:=hp1
    refine ir 1 [(3,nInt ys1),(4,.p b1 0),(8,.p b3 0),(10,.p b4 0)] (ie ?_)
    exact ⟨[(3,nInt _),(4,.p b1 0),(8,.p b3 0),(10,.p b4 0)],[.obj b4 (Z03 _),.obj b3 [nl,.i 0],.obj b1 (Zh n)],⟨_,_,(Z028 om hg1 hc2 hfl ((told ((Zxa kd).1 hnk)).1 hc3) hin.2),hwr,(Zxb hnk),ob,hin.1,rfl,rfl⟩,(wk [0,1,2] (fc (x:=nInt ys1) (AVLe.sl _ (congrArg Z8 (by first|rfl|(rw [if_pos hc2])|(rw [if_neg hc2])|(simp [hc2,hc3,hp1];done)|(rw [Bool.eq_iff_iff];simp [hc2,hc3,hp1];done)|omega))) fl))⟩
   refine ak ?_
   exact ⟨[(3,nInt _),(4,.p b1 0),(8,.p b3 0),(10,.p b4 0)],[.obj b4 (Z03 _),.obj b3 [nl,.i 0],.obj b1 (Zh n)],⟨_,_,(Zy6 om hg1 hc2 hfl (Classical.byContradiction fun z=>hc3 ((told ((Zxa kd).1 hnk)).2 z))),hwr,(Zxb hnk),ob,ob,rfl,rfl⟩,(wk [0,1,2] (fc (x:=nInt kept) (AVLe.sl _ (congrArg Z8 (by first|rfl|(rw [if_pos hc2])|(rw [if_neg hc2])|(simp [hc2,hc3];done)|(rw [Bool.eq_iff_iff];simp [hc2,hc3];done)|omega))) fl))⟩
  refine ak ?_
  exact ⟨[(3,nInt _),(4,.p b1 0),(8,.p b3 0),(10,.p b4 0)],[.obj b4 (Z03 _),.obj b3 [nl,.i 0],.obj b1 (Zh n)],⟨_,_,(Zef (fun z=>hc2 (hg1▸z.2))),hwk,(Zpp hnk),ob,ob,rfl,rfl⟩,(wk [0,0,1] (fc (x:=nInt kept) (AVLe.sl _ (congrArg Z8 (by first|rfl|(rw [if_pos hc2])|(rw [if_neg hc2])|(simp [hc2];done)|(rw [Bool.eq_iff_iff];simp [hc2];done)|omega))) fl))⟩
 rintro F h ⟨B2,K2,k1_0,k1_1,k1_2,k1_3,k1_4,rfl,rfl⟩
 refine ar (iR 3 [(8,.p b3 0),(61,Zi n),(62,Za B2),(63,nInt K2)] [2,0] [b1,b4] (ic [] (ih B2 K2 (by first|exact hwk|exact k1_1) (by first|exact Zpp hnk|exact k1_2) ob ob) ?_))
 rintro _ _ ⟨rfl,rfl⟩
 refine iS 1 b3 0 (Z03 (ruB n.decls K2 B2)) [nl,.i 0] (Z03 (ruB n.decls K2 B2)) (ie ?_)
 exact at_ (r3 [] [Za (ruB n.decls K2 B2)] [0] [(b3,b3)] ⟨rfl,rfl⟩ (AVLe.agg (.cons (AVLe.sl _ (congrArg Zo (by rw [k1_0]))) (.cons (li (by rw [k1_0])) .nil))))
theorem Zaz (n:Normal) (b:Block) (kept:List Int) (hn:NOk n) (hw:wB n.decls b) (hn2:nrk b) (hK:kept.length+b.sz≤900000000) (ih:∀(s:Step) (j:Nat) (kept:List Int) (kd:Block),(wS n.decls s)→(s.kids[j]? = some kd)→(nrB kd)→(kept.length+s.sz≤900000000)→(s.sz<b.sz)→Z3 Tryz.prog 138 [Zi n,Z0g s,.i j,nInt kept] [] (fun r h=>r=Za (ruK n.decls kept s.op s.num s.args j kd)∧h=[])):Z3 Tryz.prog 85 [Zi n,Za b,nInt kept] [] (fun r h=>r=Za (ruB n.decls kept b)∧h=[]):=by
 have hdk:=hn.decls
 have hbz:=Z4d b
 refine enter Tryz.func85 kr (n:=61) kr kr (ar (iA (Zh n) ?_))
 intro b1
 refine iA (Z03 b) ?_
 intro b2
 refine iA [nl,.i 0] ?_
 intro b3
 refine ie (ar (iL (Zo []) 0 5 ?_))
 intro v1
 refine iR 3 [(2,nInt kept),(3,.p b1 0),(4,.p b2 0),(6,.p b3 0),(15,.agg [Z5c [] v1,.i b.result])] [2] [b2] (iA [nl,.i 0] ?_)
 intro b4
 refine iS 0 b4 0 [Z5c [] v1,.i b.result] [nl,.i 0] [Z5c [] v1,.i b.result] (ie (aq (ar (irk 1 (.n 8 (.i 0) .r) (ie (ab 0 (al (fun m F h=>∃(k:Nat) (xs:List Step) (v:Value),(k≤b.steps.length)∧(xs.length=k)∧(xs++ruSs n.decls kept (b.steps.drop k)=ruSs n.decls kept b.steps)∧F=[(2,nInt kept),(3,.p b1 0),(4,.p b2 0),(6,.p b3 0),(7,.p b4 0),(8,.i k)]∧h=[.obj b4 [Z5c xs v,.i b.result],.obj b3 [nl,.i 0],.obj b2 (Z03 b),.obj b1 (Zh n),.tail v 5]∧m=b.steps.length-k) _ _ _ ⟨0,[],v1,ob,ob,rfl,rfl,rfl,rfl⟩ (wk [0,1,1,1,0] (fq (fr (fc (x:=.i 0) li fl)))) ?_)))))))
 rintro m F h ⟨k,xs,v,c0_0,c0_1,c0_2,rfl,rfl,rfl⟩
 refine aq (ar (irK 3 (.n 16 (.i k) (.n 18 (Z0b b.steps) .r)) [2] [b2] (iw (Z0l b.steps) (irk 1 (.n 20 (.b (decide ((k:Int)<(b.steps.length:Int)))) .r) (ie (ac (decide ((k:Int)<(b.steps.length:Int))) dq (fun hc1=>?_) (fun hc1=>?_)))))))
 ·refine ak (aq (ab 1 (ar (irK 3 (.n 24 (Z0b b.steps) (.n 25 (.i k) .r)) [2] [b2] ?_))))
  obtain ⟨x1,hx1⟩:=Z6 (xs:=b.steps) (j:=k) om
  have hsz:=Zdh hx1
  have hws:=Z06m hw hx1
  have hkz:=Z5m x1
  have haz:=Z86 x1
  refine is_ (Z0 (es:=Zo b.steps) (hv:=none) (j:=(k:Int)) (sz:=5) (y:=Z0g x1) kr om (Z0y hx1) rfl) (irk 1 (.n 27 (Z0g x1) .r) (iA [.i 0,.i 0,.i 0,nl,nl] ?_))
  intro b5
  refine iS 0 b5 0 (Z02 x1) [.i 0,.i 0,.i 0,nl,nl] (Z02 x1) (ie (ar (iL (Z19 []) 0 2 ?_)))
  intro v2
  refine irk 1 (.n 10 (Z5n [] v2) .r) (ie (aq (ar (irk 1 (.n 11 (.i 0) .r) (ie (ab 2 (al (fun m F h=>∃(j:Nat) (u:Value) (ks:List Block),(j≤x1.kids.length)∧(ks.length=j)∧(ks++ruKs n.decls kept x1.op x1.num x1.args (x1.kids.drop j) j=ruKs n.decls kept x1.op x1.num x1.args x1.kids 0)∧F=[(2,nInt kept),(3,.p b1 0),(4,.p b2 0),(6,.p b3 0),(7,.p b4 0),(8,.i k),(9,.p b5 0),(10,Z5n ks u),(11,.i j)]∧h=[.obj b5 (Z02 x1),.obj b4 [Z5c xs v,.i b.result],.obj b3 [nl,.i 0],.obj b2 (Z03 b),.obj b1 (Zh n),.tail u 2,.tail v 5]∧m=x1.kids.length-j) _ _ _ ⟨0,v2,[],ob,ob,(by simp),rfl,rfl,rfl⟩ (wk [1,1,1,1,1,0,0] (fq (fq (fc (x:=.i 0) li fl)))) ?_)))))))
  rintro m F h ⟨j,u,ks,c1_0,c1_1,c1_2,rfl,rfl,rfl⟩
  refine aq (ar (irK 3 (.n 29 (.i j) (.n 31 (Zv x1.kids) .r)) [0] [b5] (iw (Z0f x1.kids) (irk 1 (.n 33 (.b (decide ((j:Int)<(x1.kids.length:Int)))) .r) (ie (ac (decide ((j:Int)<(x1.kids.length:Int))) dq (fun hc2=>?_) (fun hc2=>?_)))))))
  ·obtain ⟨kd,hkd⟩:=Z6 (xs:=x1.kids) (j:=j) om
   refine ak (aq (ab 3 (az (irK 5 (.n 36 (Z5n ks u) (.n 37 (Zi n) (.n 38 (Z0g x1) (.n 39 (.i j) (.n 40 (nInt kept) .r))))) [4,0] [b1,b5] (ic [] (ih x1 j kept kd hws hkd (Z061 hn2 hx1 hkd) ob ob) ?_)))))
   rintro _ _ ⟨rfl,rfl⟩
   refine iL [Za (ruK n.decls kept x1.op x1.num x1.args j kd)] 1 2 ?_
   intro v3
   refine irk 0 (.n 42 (.sl [Za (ruK n.decls kept x1.op x1.num x1.args j kd)] none) (.p .r)) (ip 6 (Z19 (ks++[ruK n.decls kept x1.op x1.num x1.args j kd])) (Z19 ks) [Za (ruK n.decls kept x1.op x1.num x1.args j kd)] u none 2 (Zgr _) (Z98 rfl) rfl (by simp<;>omega) (by simp [Zi9,Z4f]) ?_)
   intro v4
   refine irk 1 (.n 10 (Z5n (ks++[ruK n.decls kept x1.op x1.num x1.args j kd]) v4) (.p (.d (.p (.d (.d (.d (.d (.d (.d (.p (.d (.d (.w (.k (.k (.k (.d .r)))))))))))))))))) (ie (az (irk 1 (.n 34 (.i j) .r) (ia (((j+1:Nat):Int)) (((j:Int))+(1)) (irk 1 (.n 11 (.i (j+1:Nat)) (.p (.d (.w (.w .z))))) (ie ?_))))))
   exact ⟨_,_,_,ob,⟨j+1,v4,(ks++[ruK n.decls kept x1.op x1.num x1.args j kd]),ob,(by simp;omega),(Zro hkd c1_2),rfl,rfl,rfl⟩,(wk [2,2,2,2,2,0,1] (fq (fq (fc (x:=.i (j+1:Nat)) li fl))))⟩
  have hK:=Zy5 om c1_2
  refine ax 2 (aE 17 (dtK (fuel:=6) 17 [0,1,2,3,4,5,6,7,8,9,11] (.n 45 (Z5c xs v) (.n 47 (.i x1.op) (.n 49 (.i x1.num) (.n 51 (.i x1.into) (.n 53 (nInt x1.args) (.n 55 (Z5n ks u) .r)))))) [1,0,0,0,0] [b4,b5,b5,b5,b5] (do_ 10 (dc 10 [] [0,0,0,1] [b5,b5,b5,b4] (Z26 x1.args) ?_))))
  rintro _ _ ⟨v5,rfl,rfl⟩
  refine dtk (fuel:=4) 5 [12] (.n 56 (.agg [.i x1.op,.i x1.num,.i x1.into,nInt x1.args,Zv ks]) .r) (do_ 13 (dL 13 [1] [b4] [Z0g (Step.mk x1.op x1.num x1.into x1.args ks)] 1 5 ?_))
  intro v6
  refine dtk (fuel:=3) 3 [] (.n 57 (.sl [Z0g (Step.mk x1.op x1.num x1.into x1.args ks)] none) (.p .r)) (do_ 14 (dp 14 8 [] [] (Zo (xs++[Step.mk x1.op x1.num x1.into x1.args ks])) (Zo xs) [Z0g (Step.mk x1.op x1.num x1.into x1.args ks)] v none 5 (Z57 _) (Z98 rfl) rfl (by simp<;>omega) (by simp [Z4p,Z31]) ?_))
  intro v7
  refine dtk (fuel:=1) 2 [15] (.n 59 (.p b4 0) .r) (do_ 16 (dS 16 4 [] [] b4 0 [Z5c (xs++[Step.mk x1.op x1.num x1.into x1.args ks]) v7] [Z5c xs v,.i b.result] [Z5c (xs++[Step.mk x1.op x1.num x1.into x1.args ks]) v7,.i b.result] (de (az (irk 1 (.n 21 (.i k) .r) (ia (((k+1:Nat):Int)) (((k:Int))+(1)) (ir 1 [(2,nInt kept),(3,.p b1 0),(4,.p b2 0),(6,.p b3 0),(7,.p b4 0),(8,.i (k+1:Nat))] (ie ?_))))))))
  exact ⟨_,_,_,ob,⟨k+1,(xs++[Step.mk x1.op x1.num x1.into x1.args ks]),v7,ob,(by simp;omega),(by have h:=Z06c hx1 c0_2;rw [←hK] at h;exact h),rfl,rfl,rfl⟩,(wk [0,4,4,4,0] (fq (fr (fc (x:=.i (k+1:Nat)) li fl))))⟩
 refine ax 0 (ar (irK 1 (.n 60 (.agg [Z5c xs v,.i b.result]) .r) [0] [b4] (iS 1 b3 0 [Z5c xs v,.i b.result] [nl,.i 0] [Z5c xs v,.i b.result] (ie ?_))))
 exact at_ (r3 [] [.agg [Z5c xs v,.i b.result]] [0] [(b3,b3)] ⟨rfl,rfl⟩ (AVLe.agg (.cons (AVLe.sl _ (congrArg Zo (by rw [Znx];exact Z029 om c0_2))) (.cons (li (by rw [Znx];rfl)) .nil))))
theorem Zim (n:Normal) (hn:NOk n) (k:Nat):(∀(s:Step) (j:Nat) (kept:List Int) (kd:Block),(wS n.decls s)→(s.kids[j]? = some kd)→(nrB kd)→(kept.length+s.sz≤900000000)→(s.sz≤k)→Z3 Tryz.prog 138 [Zi n,Z0g s,.i j,nInt kept] [] (fun r h=>r=Za (ruK n.decls kept s.op s.num s.args j kd)∧h=[]))∧(∀(b:Block) (kept:List Int),(wB n.decls b)→(nrk b)→(kept.length+b.sz≤900000000)→(b.sz≤k)→Z3 Tryz.prog 85 [Zi n,Za b,nInt kept] [] (fun r h=>r=Za (ruB n.decls kept b)∧h=[])):=by
 induction k with
 | zero=>exact ⟨fun s j K kd h1 h2 h3 h4 h5=>by have:=s.sz_pos;omega,fun b K h1 h2 h3 h4=>by have:=b.sz_eq;omega⟩
 | succ k ih=>exact ⟨fun s j K kd h1 h2 h3 h4 h5=>Zdf n s j K kd hn h1 h2 h3 h4 fun b2 K2 q1 q2 q3 q4=>ih.2 b2 K2 q1 q2 q3 om,fun b K h1 h2 h3 h4=>Zaz n b K hn h1 h2 h3 fun s j K2 kd q1 q2 q3 q4 q5=>ih.1 s j K2 kd q1 q2 q3 q4 om⟩
theorem Zde (n:Normal) (b:Block) (kept:List Int) (hn:NOk n:=by exact ob) (hw:wB n.decls b:=by exact ob) (hn2:nrk b:=by exact ob) (hK:kept.length+b.sz≤900000000:=by exact ob):Z3 Tryz.prog 85 [Zi n,Za b,nInt kept] [] (fun r h=>r=Za (ruB n.decls kept b)∧h=[]):=(Zim n hn b.sz).2 b kept hw hn2 hK (Nat.le_refl _)
theorem Zdc (b:Block) (c0:List Int) (q:Int) (hcb:CB c0 q) (hq:0≤q∧q+b.sz≤4000000000000) (hz:b.sz≤1000000000) (ih:∀(b2:Block) (c2:List Int) (q:Int),(CB c2 q)→(0≤q∧q+b2.sz≤4000000000000)→(b2.sz≤1000000000)→(b2.sz<b.sz)→Z3 Tryz.prog 84 [Za b2,nInt c2] [] (fun r h=>∃(w:Hd),r=.h w∧h=[rV w (cnB b2 c2)])):Z3 Tryz.prog 84 [Za b,nInt c0] [] (fun r h=>∃(w:Hd),r=.h w∧h=[rV w (cnB b c0)]):=by
 have hbz:=Z4d b
 have hbe:=b.sz_eq
 have hlc0:=hcb.len
 refine enter Tryz.func84 kr (n:=67) kr kr (ar (iA (Z03 b) ?_))
 intro b1
 refine ir 1 [(1,nInt c0),(2,.p b1 0)] (ie (ar (irk 1 (.n 8 (nInt c0) .r) (ic [] (Z2t c0) ?_))))
 rintro _ _ ⟨v1,rfl,rfl⟩
 refine irk 1 (.n 5 (.h v1) .r) (ie (aq (ar (irk 1 (.n 6 (.i 0) .r) (ie (ab 0 (al (fun m F h=>∃(k:Nat) (c:List Int) (w:Hd),(k≤b.steps.length)∧(CB c (q+ssz (b.steps.take k)))∧(cnSs (b.steps.drop k) c=cnSs b.steps c0)∧F=[(2,.p b1 0),(5,.h w),(6,.i k)]∧h=[.obj b1 (Z03 b),rV w c]∧m=b.steps.length-k) _ _ _ ⟨0,c0,v1,ob,(hcb.le (by rw [List.take_zero,ssz];omega)),rfl,rfl,rfl,rfl⟩ (wk [1,0] (fw (fc (x:=.i 0) li fl))) ?_)))))))
 rintro m F h ⟨k,c,w,c0_0,c0_1,c0_2,rfl,rfl,rfl⟩
 refine aq (ar (irK 3 (.n 10 (.i k) (.n 12 (Z0b b.steps) .r)) [0] [b1] (iw (Z0l b.steps) (irk 1 (.n 14 (.b (decide ((k:Int)<(b.steps.length:Int)))) .r) (ie (ac (decide ((k:Int)<(b.steps.length:Int))) dq (fun hc1=>?_) (fun hc1=>?_)))))))
 ·refine ak (aq (ab 1 (aq (ar (irK 3 (.n 18 (Z0b b.steps) (.n 19 (.i k) .r)) [0] [b1] ?_)))))
  obtain ⟨x1,hx1⟩:=Z6 (xs:=b.steps) (j:=k) om
  have hsz:=Zdh hx1
  have hlc:=c0_1.len
  have hkz:=Z5m x1
  have htk:=Zrv hx1
  have htl:=Zhu b.steps (k+1)
  have hse:=x1.sz_eq
  refine is_ (Z0 (es:=Zo b.steps) (hv:=none) (j:=(k:Int)) (sz:=5) (y:=Z0g x1) kr om (Z0y hx1) rfl) (irk 2 (.n 22 (.i x1.op) .r) (ic [] (Z82 x1.op) ?_))
  rintro _ _ ⟨rfl,rfl⟩
  refine ie (Z6a (fun F h=>∃(w2:Hd),F=[(2,.p b1 0),(5,.h w2),(6,.i k)]∧h=[.obj b1 (Z03 b),rV w2 (cn1 x1.op c)]) ?_ ?_)
  ·refine ac (Z0q x1.op) Iff.rfl (fun hc2=>?_) (fun hc2=>?_)
   ·have hr:=Zml hc2
    have hgx:0≤gI c (x1.op-14)∧gI c (x1.op-14)≤q+ssz (b.steps.take k):=c0_1.at om
    refine aE 21 (dT (fuel:=17) 21 [0,1,2,3] [(2,.p b1 0),(5,.h w),(6,.i k),(24,.h w),(26,Z0b b.steps),(27,.i k)] [0] [b1] (dx 4 (Z0 (es:=Zo b.steps) (hv:=none) (j:=(k:Int)) (sz:=5) (y:=Z0g x1) kr om (Z0y hx1) rfl) (dtk (fuel:=14) 16 [5,6] (.n 30 (.i x1.op) .r) (da 7 ((x1.op-14)) ((x1.op)-(14)) (dtK (fuel:=9) 13 [8,9,10,11] (.n 32 (.h w) (.n 34 (Z0b b.steps) (.n 35 (.i k) .r))) [0] [b1] (dx 12 (Z0 (es:=Zo b.steps) (hv:=none) (j:=(k:Int)) (sz:=5) (y:=Z0g x1) kr om (Z0y hx1) rfl) (dtk (fuel:=6) 8 [13,14] (.n 38 (.i x1.op) .r) (da 15 ((x1.op-14)) ((x1.op)-(14)) (dx 16 (vIdx 1 w c (x1.op-14) ((x1.op-14).toNat) (hq:=rfl)) ?_)))))))))
    obtain ⟨x2,hx2⟩:=Z6 (xs:=c) (j:=((x1.op-14).toNat)) om
    have hgy:=Z5a hx2
    refine dx_ 17 (vGet 1 w c ((x1.op-14).toNat) x2 hx2) (da 18 ((x2+1)) ((x2)+(1)) (dx 19 (vIdx 1 w c (x1.op-14) ((x1.op-14).toNat) (hq:=rfl)) (do_ 20 (dVS 20 1 [] [] w c ((x1.op-14).toNat) (x2+1) (de ?_)))))
    exact ⟨[(2,.p b1 0),(5,.h w),(6,.i k)],[.obj b1 (Z03 b),rV w (cn1 x1.op c)],⟨w,rfl,rfl⟩,(wk [1,0] fl (e:=(rc (rv (xs:=(c.set ((x1.op-14).toNat) (x2+1))) (by rw [Zv2 hc2,hgy]) rz))))⟩
   refine ak ?_
   exact ⟨[(2,.p b1 0),(5,.h w),(6,.i k)],[.obj b1 (Z03 b),rV w (cn1 x1.op c)],⟨w,rfl,rfl⟩,(wk [0,0] fl (e:=(rc (rv (xs:=c) (Z01y hc2).symm rz))))⟩
  rintro F h ⟨w2,rfl,rfl⟩
  refine ar (ir 1 [(2,.p b1 0),(5,.h w2),(6,.i k),(7,.i 0)] (ie (ab 2 (al (fun m F h=>∃(j:Nat) (c2:List Int) (u:Hd),(j≤x1.kids.length)∧(CB c2 (q+ssz (b.steps.take k)+1+bsz (x1.kids.take j)))∧(cnBs (x1.kids.drop j) c2=cnBs x1.kids (cn1 x1.op c))∧F=[(2,.p b1 0),(5,.h u),(6,.i k),(7,.i j)]∧h=[.obj b1 (Z03 b),rV u c2]∧m=x1.kids.length-j) _ _ _ ⟨0,(cn1 x1.op c),w2,ob,((c0_1.one om x1.op).le (by rw [List.take_zero,bsz];omega)),rfl,rfl,rfl,rfl⟩ (wk [0,0] (fw (fr (fc (x:=.i 0) li fl)))) ?_))))
  rintro m F h ⟨j,c2,u,c1_0,c1_1,c1_2,rfl,rfl,rfl⟩
  refine aq (ar (irK 4 (.n 44 (.i j) (.n 46 (Z0b b.steps) (.n 47 (.i k) .r))) [0] [b1] (is_ (Z0 (es:=Zo b.steps) (hv:=none) (j:=(k:Int)) (sz:=5) (y:=Z0g x1) kr om (Z0y hx1) rfl) (irk 2 (.n 50 (Zv x1.kids) .r) (iw (Z0f x1.kids) (irk 1 (.n 52 (.b (decide ((j:Int)<(x1.kids.length:Int)))) .r) (ie (ac (decide ((j:Int)<(x1.kids.length:Int))) dq (fun hc3=>?_) (fun hc3=>?_)))))))))
  ·refine ak (aq (ab 3 (az (irK 3 (.n 56 (Z0b b.steps) (.n 57 (.i k) .r)) [0] [b1] (is_ (Z0 (es:=Zo b.steps) (hv:=none) (j:=(k:Int)) (sz:=5) (y:=Z0g x1) kr om (Z0y hx1) rfl) (irk 3 (.n 60 (Zv x1.kids) (.n 61 (.i j) .r)) ?_))))))
   obtain ⟨x3,hx3⟩:=Z6 (xs:=x1.kids) (j:=j) om
   have hks:=Z9k hx3
   have hbt:=Zbf hx3
   refine is_ (Z0 (es:=Z19 x1.kids) (hv:=none) (j:=(j:Int)) (sz:=2) (y:=Za x3) kr om (Z1q hx3) rfl) (irk 2 (.n 63 (Za x3) (.n 64 (.h u) .r)) (iCL [1] [rV u c2] (ih x3 c2 (q+ssz (b.steps.take k)+1+bsz (x1.kids.take j)) c1_1 ob ob ob) cl2 (gS (gL (v:=u) 0 gN)) (Z1h Z2j) ?_))
   rintro _ _ ⟨w1,rfl,rfl⟩
   refine ir 1 [(2,.p b1 0),(5,.h w1),(6,.i k),(7,.i j)] (ie (az (irk 1 (.n 53 (.i j) .r) (ia (((j+1:Nat):Int)) (((j:Int))+(1)) (irk 1 (.n 7 (.i (j+1:Nat)) (.p (.d (.k (.k (.k .z)))))) (ie ?_))))))
   exact ⟨_,_,_,ob,⟨j+1,(cnB x3 c2),w1,ob,(by rw [Z1l hx3,Zke];exact ((c1_1.b x3 om).le om)),(Z020 hx3 c1_2),rfl,rfl,rfl⟩,(wk [2,0] (fw (fr (fc (x:=.i (j+1:Nat)) li fl))))⟩
  have hKe:=Zv3 om c1_2
  have hbj:=Zez (xs:=x1.kids) (k:=j) om
  refine ax 2 (az (irk 1 (.n 15 (.i k) .r) (ia (((k+1:Nat):Int)) (((k:Int))+(1)) (ir 1 [(2,.p b1 0),(5,.h u),(6,.i (k+1:Nat))] (ie ?_)))))
  exact ⟨_,_,_,ob,⟨k+1,(cnBs x1.kids (cn1 x1.op c)),u,ob,(by rw [←hKe];exact c1_1.le om),(Z022 hx1 c0_2),rfl,rfl,rfl⟩,(wk [0,0] (fw (fc (x:=.i (k+1:Nat)) li fl)) (e:=(rc (rv (xs:=c2) hKe rz))))⟩
 refine ax 0 (ar (ir 2 [(4,.h w)] (ie ?_)))
 exact at_ (r1 [1] ⟨w,rfl,rfl⟩ (eq:=(rv (xs:=c) (by rw [Z01z];exact Zv5 om c0_2) rz)))
theorem Zej (k:Nat):∀(b2:Block) (c2:List Int) (q:Int),(CB c2 q)→(0≤q∧q+b2.sz≤4000000000000)→(b2.sz≤1000000000)→(b2.sz<k)→Z3 Tryz.prog 84 [Za b2,nInt c2] [] (fun r h=>∃(w:Hd),r=.h w∧h=[rV w (cnB b2 c2)]):=by
 induction k with
 | zero=>intro b c q _ _ _ h;omega
 | succ k ih=>intro b c q h1 h2 h3 h4;exact Zdc b c q h1 h2 h3 fun b2 c2 q2 k1 k2 k3 k4=>ih b2 c2 q2 k1 k2 k3 om
theorem Zfp (b:Block) (c0:List Int) (q:Int) (hcb:CB c0 q:=by exact ob) (hq:0≤q∧q+b.sz≤4000000000000:=by exact ob) (hz:b.sz≤1000000000:=by exact ob):Z3 Tryz.prog 84 [Za b,nInt c0] [] (fun r h=>∃(w:Hd),r=.h w∧h=[rV w (cnB b c0)]):=Zej (b.sz+1) b c0 q hcb hq hz om
theorem Zlk (n:Normal) (hn:NOk n:=by exact ob) (hz:NSz n:=by exact ob):Z3 Tryz.prog 40 [Zi n] [] (fun r h=>∃(w:Hd),r=.h w∧h=[rV w (cntN n)]):=by
 have hzl:=hn.len
 refine enter Tryz.func40 kr (n:=22) kr kr (ar (iA (Zh n) ?_))
 intro b1
 refine ir 1 [(1,.p b1 0)] (ie (ar (iVL [0,0,0,0] 4 ?_)))
 intro v1
 refine irk 1 (.n 3 (.h v1) .r) (ie (aq (ar (irk 1 (.n 4 (.i 0) .r) (ie (ab 0 (al (fun m F h=>∃(k:Nat) (c:List Int) (w:Hd),(k≤n.routines.length)∧(CB c (10000000*k))∧(cnRs (n.routines.drop k) c=cntN n)∧F=[(1,.p b1 0),(3,.h w),(4,.i k)]∧h=[.obj b1 (Zh n),rV w c]∧m=n.routines.length-k) _ _ _ ⟨0,[0,0,0,0],v1,ob,⟨rfl,fun x hx=>by simp at hx;omega⟩,rfl,rfl,rfl,rfl⟩ (wk [1,0] (fw (fc (x:=.i 0) li fl))) ?_)))))))
 rintro m F h ⟨k,c,w,c0_0,c0_1,c0_2,rfl,rfl,rfl⟩
 refine aq (ar (irK 3 (.n 6 (.i k) (.n 8 (nRoutine n.routines) .r)) [0] [b1] (iw (Z0a n.routines) (irk 1 (.n 10 (.b (decide ((k:Int)<(n.routines.length:Int)))) .r) (ie (ac (decide ((k:Int)<(n.routines.length:Int))) dq (fun hc1=>?_) (fun hc1=>?_)))))))
 ·refine ak (aq (ab 1 (az (irK 3 (.n 14 (nRoutine n.routines) (.n 15 (.i k) .r)) [0] [b1] ?_))))
  obtain ⟨x1,hx1⟩:=Z6 (xs:=n.routines) (j:=k) om
  have hrm:=List.mem_of_getElem? hx1
  have hbz:=hz.body _ hrm
  refine is_ (Z0 (es:=Z0p n.routines) (hv:=none) (j:=(k:Int)) (sz:=5) (y:=Z0s x1) kr om (Z0v hx1) rfl) (irk 3 (.n 18 (Za x1.body) (.n 19 (.h w) .r)) (iCL [1] [rV w c] (Zfp x1.body c (10000000*(k:Int)) (hcb:=c0_1)) cl2 (gS (gL (v:=w) 0 gN)) (Z1h Z2j) ?_))
  rintro _ _ ⟨w1,rfl,rfl⟩
  refine ir 1 [(1,.p b1 0),(3,.h w1),(4,.i k)] (ie (az (irk 1 (.n 11 (.i k) .r) (ia (((k+1:Nat):Int)) (((k:Int))+(1)) (irk 1 (.n 4 (.i (k+1:Nat)) (.p (.d (.k (.k .z))))) (ie ?_))))))
  exact ⟨_,_,_,ob,⟨k+1,(cnB x1.body c),w1,ob,((c0_1.b x1.body om).le om),(Z021 hx1 c0_2),rfl,rfl,rfl⟩,(wk [2,0] (fw (fc (x:=.i (k+1:Nat)) li fl)))⟩
 refine ax 0 (ar (ir 2 [(2,.h w)] (ie ?_)))
 exact at_ (r1 [1] ⟨w,rfl,rfl⟩ (eq:=(rv (xs:=c) (Zv4 om c0_2) rz)))
theorem Zq3 (n:Normal) (hn:NOk n:=by exact ob) (hz:NSz n:=by exact ob) (hbt:∀r∈n.routines,0≤Zf n r.params r.body) (hnr:∀r∈n.routines,nrB r.body):Z3 Tryz.prog 41 [Zi n] [] (fun r h=>r=Zi (ruN n)∧h=[]):=by
 have hzl:=hn.len
 refine enter Tryz.func41 kr (n:=38) kr kr (ar (iA (Zh n) ?_))
 intro b1
 refine iA [nl,nl] ?_
 intro b2
 refine ie (ar (iR 2 [(1,.p b1 0),(2,.p b2 0),(6,Z2 n.decls)] [1] [b1] (ic [] (Zij n.decls (hd:=hn.decls)) ?_)))
 rintro _ _ ⟨rfl,rfl⟩
 refine iL (Z0p []) 0 5 ?_
 intro v1
 refine irk 1 (.n 9 (.agg [Z2 n.decls,Z52 [] v1]) .r) (iA [nl,nl] ?_)
 intro b3
 refine iS 0 b3 0 [Z2 n.decls,Z52 [] v1] [nl,nl] [Z2 n.decls,Z52 [] v1] (ie (aq (ar (irk 1 (.n 4 (.i 0) .r) (ie (ab 0 (al (fun m F h=>∃(k:Nat) (v:Value),(k≤n.routines.length)∧F=[(1,.p b1 0),(2,.p b2 0),(3,.p b3 0),(4,.i k)]∧h=[.obj b3 [Z2 n.decls,Z52 ((n.routines.take k).map (ruR n.decls)) v],.obj b2 [nl,nl],.obj b1 (Zh n),.tail v 5]∧m=n.routines.length-k) _ _ _ ⟨0,v1,ob,rfl,rfl,rfl⟩ (wk [0,1,1,0] (fw (fr (fc (x:=.i 0) li fl)))) ?_)))))))
 rintro m F h ⟨k,v,c0_0,rfl,rfl,rfl⟩
 refine aq (ar (irK 3 (.n 10 (.i k) (.n 12 (nRoutine n.routines) .r)) [2] [b1] (iw (Z0a n.routines) (irk 1 (.n 14 (.b (decide ((k:Int)<(n.routines.length:Int)))) .r) (ie (ac (decide ((k:Int)<(n.routines.length:Int))) dq (fun hc1=>?_) (fun hc1=>?_)))))))
 ·refine ak (aq (ab 1 (aE 21 (dtK (fuel:=16) 21 [0,1,2,3,4] (.n 18 (Z52 ((n.routines.take k).map (ruR n.decls)) v) (.n 20 (nRoutine n.routines) (.n 21 (.i k) .r))) [0,2] [b3,b1] ?_))))
  obtain ⟨x1,hx1⟩:=Z6 (xs:=n.routines) (j:=k) om
  have hrm:=List.mem_of_getElem? hx1
  have hbz:=hz.body _ hrm
  have hpl:=hn.params_at hx1
  have hll:=hn.lent_at hx1
  have hwb:=Zq8 hn hz hbt _ hrm
  refine dx 5 (Z0 (es:=Z0p n.routines) (hv:=none) (j:=(k:Int)) (sz:=5) (y:=Z0s x1) kr om (Z0v hx1) rfl) (dtK (fuel:=10) 15 [6,7,8,9,10] (.n 23 (Z0s x1) (.n 24 (Zi n) (.n 26 (nRoutine n.routines) (.n 27 (.i k) .r)))) [2,2] [b1,b1] (dx 11 (Z0 (es:=Z0p n.routines) (hv:=none) (j:=(k:Int)) (sz:=5) (y:=Z0s x1) kr om (Z0v hx1) rfl) (dtk (fuel:=7) 9 [12,13] (.n 30 (Za x1.body) .r) (do_ 14 (dL 14 [2,2,2,0] [b1,b1,b1,b3] (Z8 []) 0 1 ?_)))))
  intro v2
  refine dtk (fuel:=6) 6 [] (.n 31 (nInt []) (.p .r)) (do_ 15 (dc 15 [] [2,0] [b1,b3] (Zde n x1.body [] (hw:=hwb) (hn2:=(Zpp (hnr _ hrm)))) ?_))
  rintro _ _ ⟨rfl,rfl⟩
  refine do_ 16 (dc 16 [] [0] [b3] (Zlm x1 (ruB n.decls [] x1.body)) ?_)
  rintro _ _ ⟨rfl,rfl⟩
  refine do_ 17 (dL 17 [0] [b3] (Z0p [Routine.mk x1.params x1.lent x1.result (ruB n.decls [] x1.body)]) 1 5 ?_)
  intro v3
  refine dtk (fuel:=3) 3 [] (.n 34 (nRoutine [Routine.mk x1.params x1.lent x1.result (ruB n.decls [] x1.body)]) (.p .r)) (do_ 18 (dp 18 5 [] [] (Z0p ((n.routines.take (k+1)).map (ruR n.decls))) (Z0p ((n.routines.take k).map (ruR n.decls))) (Z0p [Routine.mk x1.params x1.lent x1.result (ruB n.decls [] x1.body)]) v none 5 (Zcg _) (Zcg _) (Zki _) (by simp<;>omega) (by rw [Z1l hx1];simp [Z0p,ruR]) ?_))
  intro v4
  refine dtk (fuel:=1) 2 [19] (.n 36 (.p b3 1) .r) (do_ 20 (dS 20 3 [] [] b3 1 [Z52 ((n.routines.take (k+1)).map (ruR n.decls)) v4] [Z2 n.decls,Z52 ((n.routines.take k).map (ruR n.decls)) v] [Z2 n.decls,Z52 ((n.routines.take (k+1)).map (ruR n.decls)) v4] (de (az (irk 1 (.n 15 (.i k) .r) (ia (((k+1:Nat):Int)) (((k:Int))+(1)) (ir 1 [(1,.p b1 0),(2,.p b2 0),(3,.p b3 0),(4,.i (k+1:Nat))] (ie ?_))))))))
  exact ⟨_,_,_,ob,⟨k+1,v4,ob,rfl,rfl,rfl⟩,(wk [0,3,3,0] (fw (fr (fc (x:=.i (k+1:Nat)) li fl))))⟩
 refine ax 0 (ar (irK 1 (.n 37 (.agg [Z2 n.decls,Z52 ((n.routines.take k).map (ruR n.decls)) v]) .r) [0] [b3] (iS 1 b2 0 [Z2 n.decls,Z52 ((n.routines.take k).map (ruR n.decls)) v] [nl,nl] [Z2 n.decls,Z52 ((n.routines.take k).map (ruR n.decls)) v] (ie ?_))))
 exact at_ (r3 [] [.agg [Z2 n.decls,Z52 ((n.routines.take k).map (ruR n.decls)) v]] [0] [(b2,b2)] ⟨rfl,rfl⟩ (AVLe.agg (.cons (AVLe.sl _ (congrArg Z0i ob)) (.cons (AVLe.sl _ (congrArg Z0p (by rw [List.take_of_length_le om];rfl))) .nil))))
theorem Ztx (n:Normal) (hz:NSz n):Z3 Tryz.prog 15 [Zi n] [] (fun r h=>r=.tup [Zi ((reuF n).1),.b ((reuF n).2)]∧h=[]):=by
 refine enter Tryz.func15 kr (n:=17) kr kr (ar (iA (Zh n) ?_))
 intro b1
 refine iA [nl,nl] ?_
 intro b2
 refine ir 1 [(1,.p b1 0),(2,.p b2 0)] (ie (aq (ar (irK 1 (.n 4 (Zi n) .r) [1] [b1] (ic [] (Zfm n) ?_)))))
 rintro _ _ ⟨rfl,rfl⟩
 refine irk 2 (.n 7 (.b (!Z1x n)) .r) (ib (b:=(!Z1x n)) 7 (fun hb1=>?_) (fun hb1=>?_))
 ·have hp1:¬(Z1x n=true):=((Zc Iff.rfl)).1 hb1
  refine irk 6 (.n 13 (.b true) (.k (.d .r))) (ie (ac1 (ar (irk 1 (.n 14 (.agg [nl,nl]) .r) (iS 0 b2 0 [nl,nl] [nl,nl] [nl,nl] (irk 1 (.n 3 (.b false) .r) (ie ?_)))))))
  have hE:reuF n=(noN,false):=if_neg (fun z=>hp1 z.1)
  exact at_ (r3 [] [.agg [nl,nl],.b false] [0] [(b2,b2)] ⟨rfl,rfl⟩ (AVLe.tup (.cons (AVLe.agg (.cons (AVLe.sl _ (by rw [hE];rfl)) (.cons (AVLe.sl _ (by rw [hE];rfl)) .nil))) (.cons (lb (by rw [hE])) .nil))))
 have hp2:¬(¬(Z1x n=true)):=Zd (Zc Iff.rfl) hb1
 refine irK 1 (.n 8 (Zi n) (.k (.d .r))) [1] [b1] (ic [] (Zlk n (hn:=(Z64 hz (Classical.not_not.1 hp2)).1)) ?_)
 rintro _ _ ⟨w1,rfl,rfl⟩
 have hB:Z1x n=true:=Classical.not_not.1 hp2
 obtain ⟨hn,hsg,hbt⟩:=Z64 hz hB
 have hcl:(cntN n).length=4:=(Zaf n.routines rfl).1
 refine is_ (vIdx 0 w1 (cntN n) 3 3) ?_
 obtain ⟨x1,hx1⟩:=Z6 (xs:=(cntN n)) (j:=3) om
 have hgc:gI (cntN n) 3=x1:=Z5a (i:=3) hx1
 refine ix_ (vGet 0 w1 (cntN n) 3 x1 hx1) (irk 2 (.n 13 (.b (decide (x1>0))) .r) (ie (ac (decide (x1>0)) dq (fun hc1=>?_) (fun hc1=>?_))))
 ·refine ar (irk 1 (.n 14 (.agg [nl,nl]) .r) (iS 1 b2 0 [nl,nl] [nl,nl] [nl,nl] (irk 1 (.n 3 (.b false) .r) (ie ?_))))
  have hE:reuF n=(noN,false):=if_neg (fun z=>z.2 (by rw [hgc];exact hc1))
  exact at_ (r3 [] [.agg [nl,nl],.b false] [0] [(b2,b2)] ⟨rfl,rfl⟩ (AVLe.tup (.cons (AVLe.agg (.cons (AVLe.sl _ (by rw [hE];rfl)) (.cons (AVLe.sl _ (by rw [hE];rfl)) .nil))) (.cons (lb (by rw [hE])) .nil))))
 refine ak (ar (irK 1 (.n 15 (Zi n) .r) [2] [b1] (ic [] (Zq3 n (hbt:=hbt) (hnr:=(Z02x (by rw [hgc];exact hc1)))) ?_)))
 rintro _ _ ⟨rfl,rfl⟩
 refine iS 1 b2 0 (Zh (ruN n)) [nl,nl] (Zh (ruN n)) (irk 1 (.n 3 (.b true) .r) (ie ?_))
 have hE:reuF n=(ruN n,true):=if_pos ⟨hB,by rw [hgc];exact hc1⟩
 exact at_ (r3 [] [Zi (ruN n),.b true] [0] [(b2,b2)] ⟨rfl,rfl⟩ (AVLe.tup (.cons (AVLe.agg (.cons (AVLe.sl _ (congrArg Z0i (by rw [hE]))) (.cons (AVLe.sl _ (congrArg Z0p (by rw [hE]))) .nil))) (.cons (lb (by rw [hE])) .nil))))
theorem Zsl (s:Step) (cc:Nat) (g:Hd) (c0:List Int) (q:Int) (hcb:CB c0 q:=by exact ob) (hq:0≤q∧q≤4000000000000:=by exact ob):Z3 Tryz.prog 87 [Z0g s,.p cc 0] [.obj cc [.h g],rV g c0] (fun r h=>h=[.obj cc [.h g],rV g (cn1 s.op c0)]):=by
 refine enter Tryz.func87 kr (n:=14) kr kr (ar (iA (Z02 s) ?_))
 intro b1
 refine ie (ar (iR 2 [(1,.p cc 0),(2,.p b1 0),(4,.i s.op)] [0] [b1] (ic [] (Z32 s.op) ?_)))
 rintro _ _ ⟨rfl,rfl⟩
 refine ie (ac (Z0q s.op) Iff.rfl (fun hc1=>?_) (fun hc1=>?_))
 ·have hr:=Zml hc1
  have hgx:0≤gI c0 (s.op-14)∧gI c0 (s.op-14)≤q:=hcb.at om
  have hlc:=hcb.len
  refine az (iR 3 [(6,.h g),(8,.i s.op)] [1,0] [cc,b1] (ia ((s.op-14)) ((s.op)-(14)) (is_ (vIdx 2 g c0 (s.op-14) ((s.op-14).toNat) (hq:=rfl)) ?_)))
  obtain ⟨x1,hx1⟩:=Z6 (xs:=c0) (j:=((s.op-14).toNat)) om
  have hgy:=Z5a hx1
  refine ix_ (vGet 2 g c0 ((s.op-14).toNat) x1 hx1) (ia ((x1+1)) ((x1)+(1)) (is_ (vIdx 2 g c0 (s.op-14) ((s.op-14).toNat) (hq:=rfl)) (iVS 2 g c0 ((s.op-14).toNat) (x1+1) (ie ?_))))
  exact r2 [2,0] [] rfl (lr _) (eq:=(rc (rv (xs:=(c0.set ((s.op-14).toNat) (x1+1))) (by rw [Zv2 hc1,hgy]) rz)))
 refine ak ?_
 exact r2 [1,1] [] rfl (lr _) (eq:=(rc (rv (xs:=c0) (Z01y hc1).symm rz)))
theorem Zaw (b:Block) (cc:Nat) (g:Hd) (c0:List Int) (q:Int) (hcb:CB c0 q) (hq:0≤q∧q+b.sz≤4000000000000) (hz:b.sz≤1000000000) (ih:∀(b2:Block) (cc:Nat) (g:Hd) (c2:List Int) (q2:Int),(CB c2 q2)→(0≤q2∧q2+b2.sz≤4000000000000)→(b2.sz≤1000000000)→(b2.sz<b.sz)→Z3 Tryz.prog 86 [Za b2,.val (.func (.func 87) #[] #[.pointer (some ⟨cc,0,none⟩)])] [.obj cc [.h g],rV g c2] (fun r h=>h=[.obj cc [.h g],rV g (cnB b2 c2)])):Z3 Tryz.prog 86 [Za b,.val (.func (.func 87) #[] #[.pointer (some ⟨cc,0,none⟩)])] [.obj cc [.h g],rV g c0] (fun r h=>h=[.obj cc [.h g],rV g (cnB b c0)]):=by
 have hbz:=Z4d b
 have hbe:=b.sz_eq
 refine enter Tryz.func86 kr (n:=30) kr kr (ar (iA (Z03 b) ?_))
 intro b1
 refine ie (ar (iR 2 [(1,.val (.func (.func 87) #[] #[.pointer (some ⟨cc,0,none⟩)])),(9,Z0b b.steps)] [0] [b1] (iw (Z0l b.steps) (irk 1 (.n 11 (.i 0) .r) (ie (ab 0 (al (fun m F h=>∃(k:Nat) (c:List Int),(k≤b.steps.length)∧(CB c (q+ssz (b.steps.take k)))∧(cnSs (b.steps.drop k) c=cnSs b.steps c0)∧F=[(1,.val (.func (.func 87) #[] #[.pointer (some ⟨cc,0,none⟩)])),(9,Z0b b.steps),(10,.i b.steps.length),(11,.i k)]∧h=[.obj cc [.h g],rV g c]∧m=b.steps.length-k) _ _ _ ⟨0,c0,ob,(hcb.le (by rw [List.take_zero,ssz];omega)),rfl,rfl,rfl,rfl⟩ (wk [1,1] (fw (fr (fc (x:=.i 0) li fl)))) ?_)))))))
 rintro m F h ⟨k,c,c0_0,c0_1,c0_2,rfl,rfl,rfl⟩
 refine ar (irk 1 (.n 12 (.b (decide ((k:Int)<(b.steps.length:Int)))) .r) (ie (aq (ac (decide ((k:Int)<(b.steps.length:Int))) dq (fun hc1=>?_) (fun hc1=>?_)))))
 ·refine ak (aq (ab 1 (ar ?_)))
  obtain ⟨x1,hx1⟩:=Z6 (xs:=b.steps) (j:=k) om
  have hsz:=Zdh hx1
  have hkz:=Z5m x1
  have htk:=Zrv hx1
  have htl:=Zhu b.steps (k+1)
  have hse:=x1.sz_eq
  refine is_ (Z0 (es:=Zo b.steps) (hv:=none) (j:=(k:Int)) (sz:=5) (y:=Z0g x1) kr om (Z0y hx1) rfl) (irk 1 (.n 14 (Z0g x1) .r) (iA [.i 0,.i 0,.i 0,nl,nl] ?_))
  intro b2
  refine iS 0 b2 0 (Z02 x1) [.i 0,.i 0,.i 0,nl,nl] (Z02 x1) (ie (ar (irK 2 (.n 15 (.val (.func (.func 87) #[] #[.pointer (some ⟨cc,0,none⟩)])) (.n 16 (Z0g x1) .r)) [0] [b2] (ic [1,1] (Zsl x1 cc g c (q+ssz (b.steps.take k)) (hcb:=c0_1)) ?_))))
  rintro _ _ rfl
  refine ie (ar (irK 2 (.n 19 (Zv x1.kids) (.p .r)) [2] [b2] (iw (Z0f x1.kids) (irk 1 (.n 21 (.i 0) .r) (ie (ab 2 (al (fun m F h=>∃(j:Nat) (c2:List Int),(j≤x1.kids.length)∧(CB c2 (q+ssz (b.steps.take k)+1+bsz (x1.kids.take j)))∧(cnBs (x1.kids.drop j) c2=cnBs x1.kids (cn1 x1.op c))∧F=[(1,.val (.func (.func 87) #[] #[.pointer (some ⟨cc,0,none⟩)])),(9,Z0b b.steps),(10,.i b.steps.length),(11,.i k),(19,Zv x1.kids),(20,.i x1.kids.length),(21,.i j)]∧h=[.obj cc [.h g],rV g c2]∧m=x1.kids.length-j) _ _ _ ⟨0,(cn1 x1.op c),ob,((c0_1.one om x1.op).le (by rw [List.take_zero,bsz];omega)),rfl,rfl,rfl,rfl⟩ (wk [0,0] (fq (fw (fc (x:=.i 0) li fl)))) ?_)))))))
  rintro m F h ⟨j,c2,c1_0,c1_1,c1_2,rfl,rfl,rfl⟩
  refine ar (irk 1 (.n 22 (.b (decide ((j:Int)<(x1.kids.length:Int)))) .r) (ie (aq (ac (decide ((j:Int)<(x1.kids.length:Int))) dq (fun hc2=>?_) (fun hc2=>?_)))))
  ·refine ak (aq (ab 3 (ar ?_)))
   obtain ⟨x2,hx2⟩:=Z6 (xs:=x1.kids) (j:=j) om
   have hks:=Z9k hx2
   have hbt:=Zbf hx2
   refine is_ (Z0 (es:=Z19 x1.kids) (hv:=none) (j:=(j:Int)) (sz:=2) (y:=Za x2) kr om (Z1q hx2) rfl) (irk 1 (.n 24 (Za x2) .r) (iA [nl,.i 0] ?_))
   intro b3
   refine iS 0 b3 0 (Z03 x2) [nl,.i 0] (Z03 x2) (ie (az (irK 2 (.n 25 (Za x2) (.n 26 (.val (.func (.func 87) #[] #[.pointer (some ⟨cc,0,none⟩)])) .r)) [0] [b3] (ic [1,1] (ih x2 cc g c2 (q+ssz (b.steps.take k)+1+bsz (x1.kids.take j)) c1_1 ob ob ob) ?_))))
   rintro _ _ rfl
   refine ie (az (ia (((j+1:Nat):Int)) (((j:Int))+(1)) (irk 1 (.n 21 (.i (j+1:Nat)) (.p (.p (.d (.d (.p (.d (.p (.d (.w (.k (.k .z)))))))))))) (ie ?_))))
   exact ⟨_,_,_,ob,⟨j+1,(cnB x2 c2),ob,(by rw [Z1l hx2,Zke];exact ((c1_1.b x2 om).le om)),(Z020 hx2 c1_2),rfl,rfl,rfl⟩,(wk [0,0] (fq (fw (fc (x:=.i (j+1:Nat)) li fl))))⟩
  have hKe:=Zv3 om c1_2
  have hbj:=Zez (xs:=x1.kids) (k:=j) om
  refine ax 2 (az (ia (((k+1:Nat):Int)) (((k:Int))+(1)) (irk 1 (.n 11 (.i (k+1:Nat)) (.p (.d (.k (.k (.k .z)))))) (ie ?_))))
  exact ⟨_,_,_,ob,⟨k+1,(cnBs x1.kids (cn1 x1.op c)),ob,(by rw [←hKe];exact c1_1.le om),(Z022 hx1 c0_2),rfl,rfl,rfl⟩,(wk [0,0] (fw (fr (fc (x:=.i (k+1:Nat)) li fl))) (e:=(rc (rv (xs:=c2) hKe rz))))⟩
 refine ax 0 ?_
 exact r2 [0,0] [] rfl (lr _) (eq:=(rc (rv (xs:=c) (by rw [Z01z];exact Zv5 om c0_2) rz)))
theorem Z05w (s:Step) (q:Nat) :Z3 Tryz.prog 134 [Z0g s,.p q 0] [.obj q [.val (.func (.func 67) #[] #[])]] (fun r h=>r=.b (!Z0q s.op)∧h=[.obj q [.val (.func (.func 67) #[] #[])]]):=by
 refine enter Tryz.func134 kr (n:=9) kr kr (ar (iA (Z02 s) ?_))
 intro b1
 refine ir 1 [(1,.p q 0),(2,.p b1 0)] (ie (ar (iR 3 [(4,.val (.func (.func 67) #[] #[])),(6,.i s.op)] [1,0] [q,b1] (ic [] (Z32 s.op) ?_))))
 rintro _ _ ⟨rfl,rfl⟩
 refine ir 2 [(3,.b (!Z0q s.op))] (ie ?_)
 exact at_ (r1 [1] ⟨rfl,rfl⟩)
theorem Zt5 (xs:List Step) (q:Nat) (hl:xs.length≤1000000000:=by exact ob):Z3 Tryz.prog 90 [Z0b xs,.val (.func (.func 134) #[] #[.pointer (some ⟨q,0,none⟩)])] [.obj q [.val (.func (.func 67) #[] #[])]] (fun r h=>(r=.i (((Zm xs):Nat):Int)∧h=[.obj q [.val (.func (.func 67) #[] #[])]]∧Zm xs<xs.length)∨(r=.i (-1)∧h=[.obj q [.val (.func (.func 67) #[] #[])]]∧Zm xs=xs.length)):=by
 refine enter Tryz.func90 kr (n:=19) kr kr (ar (ir 1 [(0,Z0b xs),(1,.val (.func (.func 134) #[] #[.pointer (some ⟨q,0,none⟩)]))] (ie (aq (ar (irk 1 (.n 6 (Z0b xs) .r) (iw (Z0l xs) (irk 1 (.n 8 (.i 0) .r) (ie (ab 0 (al (fun m F h=>∃(k:Nat),(k≤xs.length)∧(k+Zm (xs.drop k)=Zm xs)∧F=[(0,Z0b xs),(1,.val (.func (.func 134) #[] #[.pointer (some ⟨q,0,none⟩)])),(7,.i xs.length),(8,.i k)]∧h=[.obj q [.val (.func (.func 67) #[] #[])]]∧m=xs.length-k) _ _ _ ⟨0,ob,(by simp),rfl,rfl,rfl⟩ (wk [0] (fw (fr (fc (x:=.i 0) li fl)))) ?_)))))))))))
 rintro m F h ⟨k,c0_0,c0_1,rfl,rfl,rfl⟩
 refine ar (irk 1 (.n 9 (.b (decide ((k:Int)<(xs.length:Int)))) .r) (ie (aq (ac (decide ((k:Int)<(xs.length:Int))) dq (fun hc1=>?_) (fun hc1=>?_)))))
 ·refine ak (aq (ab 1 (ar (irk 2 (.n 5 (.i k) .r) (ie (ar (irk 3 (.n 11 (.val (.func (.func 134) #[] #[.pointer (some ⟨q,0,none⟩)])) (.n 12 (Z0b xs) (.n 13 (.i k) .r))) ?_)))))))
  obtain ⟨x1,hx1⟩:=Z6 (xs:=xs) (j:=k) om
  refine is_ (Z0 (es:=Zo xs) (hv:=none) (j:=(k:Int)) (sz:=5) (y:=Z0g x1) kr om (Z0y hx1) rfl) (irk 1 (.n 15 (Z0g x1) .r) (ic [0] (Z05w x1 q) ?_))
  rintro _ _ ⟨rfl,rfl⟩
  refine ie (ac (!Z0q x1.op) (p:=¬(Z0q x1.op=true)) (Zc Iff.rfl) (fun hc2=>?_) (fun hc2=>?_))
  ·refine ar (ir 2 [(4,.i k)] (ie ?_))
   have hE:=Zjj hx1 hc2 c0_1
   exact at_ (r2 [0] [.i k] (.inl ⟨rfl,rfl,ob⟩) li)
  refine ak (az (ia (((k+1:Nat):Int)) (((k:Int))+(1)) (irk 1 (.n 8 (.i (k+1:Nat)) (.p (.p (.d (.p (.d (.d (.d (.d (.d (.k (.k (.k .z))))))))))))) (ie ?_))))
  exact ⟨_,_,_,ob,⟨k+1,ob,(Zji hx1 (Classical.not_not.1 hc2) c0_1),rfl,rfl,rfl⟩,(wk [0] (fw (fr (fc (x:=.i (k+1:Nat)) li fl))))⟩
 refine ax 0 (ar (ir 1 [(4,.i (-1))] (ie ?_)))
 have hE:=Znc om c0_1
 exact at_ (r1 [0] (.inr ⟨rfl,rfl,ob⟩))
theorem Zps (b:Block) (hz:b.steps.length≤1000000000:=by exact ob):Z3 Tryz.prog 78 [Za b,.val (.func (.func 67) #[] #[])] [] (fun r h=>r=.i (((Zm b.steps):Nat):Int)∧h=[]):=by
 refine enter Tryz.func78 kr (n:=16) kr kr (ar (iA (Z03 b) ?_))
 intro b1
 refine iA [.val (.func (.func 67) #[] #[])] ?_
 intro b2
 refine ir 1 [(2,.p b1 0),(3,.p b2 0)] (ie (ar (irK 3 (.n 7 (Z0b b.steps) (.n 8 (.val (.func (.func 134) #[] #[.pointer (some ⟨b2,0,none⟩)])) .r)) [1] [b1] (ic [0] (Zt5 b.steps b2) ?_))))
 rintro _ _ (⟨rfl,rfl,hp1⟩|⟨rfl,rfl,hp2⟩)
 ·refine irk 1 (.n 5 (.i (((Zm b.steps):Nat):Int)) .r) (ie (aq (ar (irk 2 (.n 11 (.b (decide ((((Zm b.steps):Nat):Int)<0))) .r) (ie (ac (decide ((((Zm b.steps):Nat):Int)<0)) dq (fun hc1=>?_) (fun hc1=>?_)))))))
  ·refine ar (iR 2 [(13,Z0b b.steps)] [1] [b1] (iw (Z0l b.steps) (ir 1 [(4,.i b.steps.length)] (ie ?_))))
   exact at_ (r2 [] [.i b.steps.length] ⟨rfl,rfl⟩ li)
  refine ak (ar (ir 2 [(4,.i (((Zm b.steps):Nat):Int))] (ie ?_)))
  exact at_ (r1 [] ⟨rfl,rfl⟩)
 refine irk 1 (.n 5 (.i (-1)) .r) (ie (aq (ar (irk 2 (.n 11 (.b (decide ((-1)<0))) .r) (ie (ac (decide ((-1)<0)) dq (fun hc2=>?_) (fun hc2=>?_)))))))
 ·refine ar (iR 2 [(13,Z0b b.steps)] [1] [b1] (iw (Z0l b.steps) (ir 1 [(4,.i b.steps.length)] (ie ?_))))
  exact at_ (r2 [] [.i b.steps.length] ⟨rfl,rfl⟩ li)
 refine ak (ar (ir 2 [(4,.i (-1))] (ie ?_)))
 exact at_ (r2 [] [.i (-1)] ⟨rfl,rfl⟩ li)
theorem Z015 (s:Step) (a:Arm) (q:Nat) (ha:s.op=16→∃v,s.args=[v]:=by exact ob):Z3 Tryz.prog 91 [Z0g s,.p q 0] [.obj q [.i a.mat,.i a.fst,nInt a.fds,.b a.chg]] (fun r h=>r=.b ((s.op==16)&&(gI s.args 0==a.mat))∧h=[.obj q [.i a.mat,.i a.fst,nInt a.fds,.b a.chg]]):=by
 refine enter Tryz.func91 kr (n:=16) kr kr (ar (iA (Z02 s) ?_))
 intro b1
 refine ir 1 [(1,.p q 0),(2,.p b1 0)] (ie (aD 13 (dtK (fuel:=9) 13 [0,1,2,3] (.n 7 (.b (s.op==16)) .r) [0] [b1] (db (b:=(s.op==16)) 7 (fun hb1=>?_) (fun hb1=>?_)))))
 ·have hp1:s.op=16:=(beq_iff_eq).1 hb1
  refine dtK (fuel:=7) 9 [4,5] (.n 9 (nInt s.args) (.k (.d .r))) [0] [b1] ?_
  obtain ⟨x1,hx1⟩:=Z6 (xs:=s.args) (j:=0) (by obtain ⟨v,hv⟩:=ha (by assumption);rw [hv];simp)
  have hg0:=gI0 hx1
  refine dx 6 (Z0 (es:=Z8 s.args) (hv:=none) (j:=0) (sz:=1) (y:=.i x1) kr om (Z9 hx1) rfl) (dT (fuel:=0) 6 [7,8,9,10,11,12] [(3,.b (x1==a.mat))] [1] [q] (de ?_))
  exact at_ (r2 [1] [.b (x1==a.mat)] ⟨rfl,rfl⟩ (lb (by rw [hg0];simp [hp1])))
 have hp2:¬(s.op=16):=Zd beq_iff_eq hb1
 refine dt (fuel:=0) 9 [4,5,6,7,8,9,10,11,12] [(3,.b false)] (de ?_)
 exact at_ (r2 [1] [.b false] ⟨rfl,rfl⟩ lb)
theorem Zt6 (xs:List Step) (a:Arm) (q:Nat) (hl:xs.length≤1000000000:=by exact ob) (ha:∀s∈xs,s.op=16→∃v,s.args=[v]):Z3 Tryz.prog 90 [Z0b xs,.val (.func (.func 91) #[] #[.pointer (some ⟨q,0,none⟩)])] [.obj q [.i a.mat,.i a.fst,nInt a.fds,.b a.chg]] (fun r h=>r=.i (atF 16 a.mat xs 0)∧h=[.obj q [.i a.mat,.i a.fst,nInt a.fds,.b a.chg]]):=by
 refine enter Tryz.func90 kr (n:=19) kr kr (ar (ir 1 [(0,Z0b xs),(1,.val (.func (.func 91) #[] #[.pointer (some ⟨q,0,none⟩)]))] (ie (aq (ar (irk 1 (.n 6 (Z0b xs) .r) (iw (Z0l xs) (irk 1 (.n 8 (.i 0) .r) (ie (ab 0 (al (fun m F h=>∃(k:Nat),(k≤xs.length)∧(atF 16 a.mat (xs.drop k) k=atF 16 a.mat xs 0)∧F=[(0,Z0b xs),(1,.val (.func (.func 91) #[] #[.pointer (some ⟨q,0,none⟩)])),(7,.i xs.length),(8,.i k)]∧h=[.obj q [.i a.mat,.i a.fst,nInt a.fds,.b a.chg]]∧m=xs.length-k) _ _ _ ⟨0,ob,rfl,rfl,rfl,rfl⟩ (wk [0] (fw (fr (fc (x:=.i 0) li fl)))) ?_)))))))))))
 rintro m F h ⟨k,c0_0,c0_1,rfl,rfl,rfl⟩
 refine ar (irk 1 (.n 9 (.b (decide ((k:Int)<(xs.length:Int)))) .r) (ie (aq (ac (decide ((k:Int)<(xs.length:Int))) dq (fun hc1=>?_) (fun hc1=>?_)))))
 ·refine ak (aq (ab 1 (ar (irk 2 (.n 5 (.i k) .r) (ie (ar (irk 3 (.n 11 (.val (.func (.func 91) #[] #[.pointer (some ⟨q,0,none⟩)])) (.n 12 (Z0b xs) (.n 13 (.i k) .r))) ?_)))))))
  obtain ⟨x1,hx1⟩:=Z6 (xs:=xs) (j:=k) om
  refine is_ (Z0 (es:=Zo xs) (hv:=none) (j:=(k:Int)) (sz:=5) (y:=Z0g x1) kr om (Z0y hx1) rfl) (irk 1 (.n 15 (Z0g x1) .r) (ic [0] (Z015 x1 a q (ha:=(ha _ (List.mem_of_getElem? hx1)))) ?_))
  rintro _ _ ⟨rfl,rfl⟩
  refine ie (ac ((x1.op==16)&&(gI x1.args 0==a.mat)) (p:=(x1.op=16)∧(gI x1.args 0=a.mat)) (Zj beq_iff_eq beq_iff_eq) (fun hc2=>?_) (fun hc2=>?_))
  ·refine ar (ir 2 [(4,.i k)] (ie ?_))
   exact at_ (r2 [0] [.i k] ⟨rfl,rfl⟩ (li (by have h:=Zqj hx1 hc2 c0_1;omega)))
  refine ak (az (ia (((k+1:Nat):Int)) (((k:Int))+(1)) (irk 1 (.n 8 (.i (k+1:Nat)) (.p (.p (.d (.p (.d (.d (.d (.d (.d (.k (.k (.k .z))))))))))))) (ie ?_))))
  exact ⟨_,_,_,ob,⟨k+1,ob,(Zkb hx1 hc2 c0_1),rfl,rfl,rfl⟩,(wk [0] (fw (fr (fc (x:=.i (k+1:Nat)) li fl))))⟩
 refine ax 0 (ar (ir 1 [(4,.i (-1))] (ie ?_)))
 exact at_ (r2 [0] [.i (-1)] ⟨rfl,rfl⟩ (li (by have h:=Zum om c0_1;omega)))
theorem Z04a (s:Step) (a:Arm) (q:Nat) (hl:s.args.length≤1000000000:=by exact ob) (hf:a.fds.length≤3:=by exact ob):Z3 Tryz.prog 92 [Z0g s,.p q 0] [.obj q [.i a.mat,.i a.fst,nInt a.fds,.b a.chg]] (fun r h=>r=.b (((s.op==6)&&(s.into==0))&&((s.args.length:Int)==(a.fds.length:Int)))∧h=[.obj q [.i a.mat,.i a.fst,nInt a.fds,.b a.chg]]):=by
 refine enter Tryz.func92 kr (n:=21) kr kr (ar (iA (Z02 s) ?_))
 intro b1
 refine ir 1 [(1,.p q 0),(2,.p b1 0)] (ie (ar (Z1n 8 [(1,.p q 0),(2,.p b1 0),(11,.b ((s.op==6)&&(s.into==0)))] [.obj b1 (Z02 s),.obj q [.i a.mat,.i a.fst,nInt a.fds,.b a.chg]] ?_ (fun hj1=>?_))))
 ·refine Z1n 17 [(20,.b (((s.op==6)&&(s.into==0))&&((s.args.length:Int)==(a.fds.length:Int))))] [.obj b1 (Z02 s),.obj q [.i a.mat,.i a.fst,nInt a.fds,.b a.chg]] ?_ (fun hj2=>?_)
  ·refine ir 1 [(3,.b (((s.op==6)&&(s.into==0))&&((s.args.length:Int)==(a.fds.length:Int))))] (ie ?_)
   exact at_ (r1 [1] ⟨rfl,rfl⟩)
  refine ir 1 [(1,.p q 0),(2,.p b1 0),(12,.b ((s.op==6)&&(s.into==0)))] (ib (b:=((s.op==6)&&(s.into==0))) 12 (fun hb1=>?_) (fun hb1=>?_))
  ·have hp1:(s.op=6)∧(s.into=0):=((Zj beq_iff_eq beq_iff_eq)).1 hb1
   refine irK 2 (.n 14 (nInt s.args) (.k (.k .z))) [0] [b1] (iw (Z4 s.args) (irK 2 (.n 17 (nInt a.fds) .r) [1] [q] (iw (Z4 a.fds) (ir 2 [(20,.b ((s.args.length:Int)==(a.fds.length:Int)))] ?_))))
   exact Zy (wk [0,0] (fc (x:=.b ((s.args.length:Int)==(a.fds.length:Int))) (lb (by simp only [hb1];rfl)) fl)) hj2
  have hp2:¬((s.op=6)∧(s.into=0)):=Zd (Zj beq_iff_eq beq_iff_eq) hb1
  refine ir 8 [(20,.b false)] ?_
  exact Zy (wk [0,0] (fc (x:=.b false) (lb (by simp only [hb1];rfl)) fl)) hj2
 refine iR 4 [(1,.p q 0),(2,.p b1 0),(7,.b (s.op==6))] [0] [b1] (ib (b:=(s.op==6)) 7 (fun hb2=>?_) (fun hb2=>?_))
 ·have hp3:s.op=6:=(beq_iff_eq).1 hb2
  refine irK 4 (.n 11 (.b (s.into==0)) (.d (.k (.k .z)))) [0] [b1] ?_
  exact Zy (wk [0,0] (fw (fc (x:=.b (s.into==0)) (lb (by simp only [hb2];rfl)) fl))) hj1
 have hp4:¬(s.op=6):=Zd beq_iff_eq hb2
 refine irk 4 (.n 11 (.b false) (.d (.k (.k .z)))) ?_
 exact Zy (wk [0,0] (fw (fc (x:=.b false) (lb (by simp only [hb2];rfl)) fl))) hj1
theorem Zwj (xs:List Step) (a:Arm) (q:Nat) (hl:xs.length≤1000000000:=by exact ob) (hf:a.fds.length≤3:=by exact ob) (hs:∀s∈xs,s.args.length≤1000000000):Z3 Tryz.prog 90 [Z0b xs,.val (.func (.func 92) #[] #[.pointer (some ⟨q,0,none⟩)])] [.obj q [.i a.mat,.i a.fst,nInt a.fds,.b a.chg]] (fun r h=>r=.i (conF a.fds.length xs 0)∧h=[.obj q [.i a.mat,.i a.fst,nInt a.fds,.b a.chg]]):=by
 refine enter Tryz.func90 kr (n:=19) kr kr (ar (ir 1 [(0,Z0b xs),(1,.val (.func (.func 92) #[] #[.pointer (some ⟨q,0,none⟩)]))] (ie (aq (ar (irk 1 (.n 6 (Z0b xs) .r) (iw (Z0l xs) (irk 1 (.n 8 (.i 0) .r) (ie (ab 0 (al (fun m F h=>∃(k:Nat),(k≤xs.length)∧(conF a.fds.length (xs.drop k) k=conF a.fds.length xs 0)∧F=[(0,Z0b xs),(1,.val (.func (.func 92) #[] #[.pointer (some ⟨q,0,none⟩)])),(7,.i xs.length),(8,.i k)]∧h=[.obj q [.i a.mat,.i a.fst,nInt a.fds,.b a.chg]]∧m=xs.length-k) _ _ _ ⟨0,ob,rfl,rfl,rfl,rfl⟩ (wk [0] (fw (fr (fc (x:=.i 0) li fl)))) ?_)))))))))))
 rintro m F h ⟨k,c0_0,c0_1,rfl,rfl,rfl⟩
 refine ar (irk 1 (.n 9 (.b (decide ((k:Int)<(xs.length:Int)))) .r) (ie (aq (ac (decide ((k:Int)<(xs.length:Int))) dq (fun hc1=>?_) (fun hc1=>?_)))))
 ·refine ak (aq (ab 1 (ar (irk 2 (.n 5 (.i k) .r) (ie (ar (irk 3 (.n 11 (.val (.func (.func 92) #[] #[.pointer (some ⟨q,0,none⟩)])) (.n 12 (Z0b xs) (.n 13 (.i k) .r))) ?_)))))))
  obtain ⟨x1,hx1⟩:=Z6 (xs:=xs) (j:=k) om
  refine is_ (Z0 (es:=Zo xs) (hv:=none) (j:=(k:Int)) (sz:=5) (y:=Z0g x1) kr om (Z0y hx1) rfl) (irk 1 (.n 15 (Z0g x1) .r) (ic [0] (Z04a x1 a q (hl:=(hs _ (List.mem_of_getElem? hx1)))) ?_))
  rintro _ _ ⟨rfl,rfl⟩
  refine ie (ac (((x1.op==6)&&(x1.into==0))&&((x1.args.length:Int)==(a.fds.length:Int))) (p:=((x1.op=6)∧(x1.into=0))∧((x1.args.length:Int)=(a.fds.length:Int))) (Zj (Zj beq_iff_eq beq_iff_eq) beq_iff_eq) (fun hc2=>?_) (fun hc2=>?_))
  ·refine ar (ir 2 [(4,.i k)] (ie ?_))
   exact at_ (r2 [0] [.i k] ⟨rfl,rfl⟩ (li (by have h:=Zmf hx1 (show conB a.fds.length x1 from ⟨hc2.1,by omega⟩) c0_1;omega)))
  refine ak (az (ia (((k+1:Nat):Int)) (((k:Int))+(1)) (irk 1 (.n 8 (.i (k+1:Nat)) (.p (.p (.d (.p (.d (.d (.d (.d (.d (.k (.k (.k .z))))))))))))) (ie ?_))))
  exact ⟨_,_,_,ob,⟨k+1,ob,(Zme hx1 (fun z=>hc2 ⟨z.1,by have:=z.2;omega⟩) c0_1),rfl,rfl,rfl⟩,(wk [0] (fw (fr (fc (x:=.i (k+1:Nat)) li fl))))⟩
 refine ax 0 (ar (ir 1 [(4,.i (-1))] (ie ?_)))
 exact at_ (r2 [0] [.i (-1)] ⟨rfl,rfl⟩ (li (by have h:=Zqq om c0_1;omega)))
theorem Z016 (o:Arm) (a:Arm) (q:Nat) :Z3 Tryz.prog 89 [.agg [.i o.mat,.i o.fst,nInt o.fds,.b o.chg],.p q 0] [.obj q [.i a.mat,.i a.fst,nInt a.fds,.b a.chg]] (fun r h=>r=.b (o.chg&&(o.mat==a.mat))∧h=[.obj q [.i a.mat,.i a.fst,nInt a.fds,.b a.chg]]):=by
 refine enter Tryz.func89 kr (n:=13) kr kr (ar (iA [.i o.mat,.i o.fst,nInt o.fds,.b o.chg] ?_))
 intro b1
 refine ir 1 [(1,.p q 0),(2,.p b1 0)] (ie (ar (Z1n 9 [(12,.b (o.chg&&(o.mat==a.mat)))] [.obj b1 [.i o.mat,.i o.fst,nInt o.fds,.b o.chg],.obj q [.i a.mat,.i a.fst,nInt a.fds,.b a.chg]] ?_ (fun hj1=>?_))))
 ·refine ir 1 [(3,.b (o.chg&&(o.mat==a.mat)))] (ie ?_)
  exact at_ (r1 [1] ⟨rfl,rfl⟩)
 refine iR 3 [(1,.p q 0),(2,.p b1 0),(6,.b o.chg)] [0] [b1] (ib (b:=o.chg) 6 (fun hb1=>?_) (fun hb1=>?_))
 ·have hp1:o.chg=true:=(Iff.rfl).1 hb1
  refine iR 6 [(12,.b (o.mat==a.mat))] [0,1] [b1,q] ?_
  exact Zy (wk [0,0] (fc (x:=.b (o.mat==a.mat)) (lb (by simp only [hb1];rfl)) fl)) hj1
 have hp2:¬(o.chg=true):=Zd Iff.rfl hb1
 refine ir 6 [(12,.b false)] ?_
 exact Zy (wk [0,0] (fc (x:=.b false) (lb (by simp only [hb1];rfl)) fl)) hj1
theorem Zwi (ys:List Arm) (a:Arm) (q:Nat) (g:Nat) (l:Nat) (mq:Nat) (c:Nat) (hl:ys.length≤1000000000:=by exact ob) (hm:mq≤ys.length:=by exact ob):Z3 Tryz.prog 139 [.ms g 0 mq c,.val (.func (.func 89) #[] #[.pointer (some ⟨q,0,none⟩)])] [.row (.slice (some ⟨g,0,none⟩) l c) 4 (flat (Z14 ys)),.obj q [.i a.mat,.i a.fst,nInt a.fds,.b a.chg]] (fun r h=>(∃(i:Nat),r=.i i∧h=[.row (.slice (some ⟨g,0,none⟩) l c) 4 (flat (Z14 ys)),.obj q [.i a.mat,.i a.fst,nInt a.fds,.b a.chg]]∧Z87 (ys.take mq) a.mat=true)∨(r=.i (-1)∧h=[.row (.slice (some ⟨g,0,none⟩) l c) 4 (flat (Z14 ys)),.obj q [.i a.mat,.i a.fst,nInt a.fds,.b a.chg]]∧Z87 (ys.take mq) a.mat=false)):=by
 refine enter Tryz.func139 kr (n:=19) kr kr (ar (ir 1 [(0,.ms g 0 mq c),(1,.val (.func (.func 89) #[] #[.pointer (some ⟨q,0,none⟩)]))] (ie (aq (ar (irk 1 (.n 6 (.ms g 0 mq c) .r) (io (.i mq) (.i mq) (lr _) (irk 1 (.n 8 (.i 0) .r) (ie (ab 0 (al (fun m F h=>∃(k:Nat),(k≤mq)∧(∀o∈(ys.take mq).take k,¬(o.chg=true∧o.mat=a.mat))∧F=[(0,.ms g 0 mq c),(1,.val (.func (.func 89) #[] #[.pointer (some ⟨q,0,none⟩)])),(7,.i mq),(8,.i k)]∧h=[.row (.slice (some ⟨g,0,none⟩) l c) 4 (flat (Z14 ys)),.obj q [.i a.mat,.i a.fst,nInt a.fds,.b a.chg]]∧m=mq-k) _ _ _ ⟨0,ob,(by simp),rfl,rfl,rfl⟩ (wk [0,0] (fw (fr (fc (x:=.i 0) li fl)))) ?_)))))))))))
 rintro m F h ⟨k,c0_0,c0_1,rfl,rfl,rfl⟩
 refine ar (irk 1 (.n 9 (.b (decide ((k:Int)<(mq:Int)))) .r) (ie (aq (ac (decide ((k:Int)<(mq:Int))) dq (fun hc1=>?_) (fun hc1=>?_)))))
 ·obtain ⟨x1,hx1⟩:=Z6 (xs:=ys) (j:=k) om
  have hx2:(ys.take mq)[k]? = some x1:=by rw [List.getElem?_take_of_lt om];exact hx1
  refine ak (aq (ab 1 (ar (irk 2 (.n 5 (.i k) .r) (ie (ar (irk 3 (.n 11 (.val (.func (.func 89) #[] #[.pointer (some ⟨q,0,none⟩)])) (.n 12 (.ms g 0 mq c) (.n 13 (.i k) .r))) (is_ (kIdx g mq c k 4 (k:Int)) (ix_ (Zwq 0 g l c 4 (k*4) (flat (Z14 ys)) (lArm x1) 96 (.agg [.i x1.mat,.i x1.fst,nInt x1.fds,.b x1.chg]) (Zms hx1)) (ic [1] (Z016 x1 a q) ?_))))))))))
  rintro _ _ ⟨rfl,rfl⟩
  refine ie (ac (x1.chg&&(x1.mat==a.mat)) (p:=(x1.chg=true)∧(x1.mat=a.mat)) (Zj Iff.rfl beq_iff_eq) (fun hc2=>?_) (fun hc2=>?_))
  ·refine ar (ir 2 [(4,.i k)] (ie ?_))
   exact at_ (r1 [1,0] (.inl ⟨k,rfl,rfl,(Zn8.2 ⟨x1,List.mem_of_getElem? hx2,hc2⟩)⟩))
  refine ak (az (ia (((k+1:Nat):Int)) (((k:Int))+(1)) (irk 1 (.n 8 (.i (k+1:Nat)) (.p (.p (.p (.p (.d (.d (.d (.d (.d (.k (.k (.k .z))))))))))))) (ie ?_))))
  exact ⟨_,_,_,ob,⟨k+1,ob,(Z01k hx2 c0_1 hc2),rfl,rfl,rfl⟩,(wk [1,0] (fw (fr (fc (x:=.i (k+1:Nat)) li fl))))⟩
 refine ax 0 (ar (ir 1 [(4,.i (-1))] (ie ?_)))
 exact at_ (r1 [0,0] (.inr ⟨rfl,rfl,(Z00g (by rw [List.take_of_length_le (by rw [List.length_take];omega)] at c0_1;exact c0_1))⟩))
theorem Zmj (ys:List Arm) (a:Arm) (q:Nat) (g:Nat) (l:Nat) (mq:Nat) (c:Nat) (hl:ys.length≤1000000000:=by exact ob) (hm:mq≤ys.length:=by exact ob):Z3 Tryz.prog 88 [.ms g 0 mq c,.val (.func (.func 89) #[] #[.pointer (some ⟨q,0,none⟩)])] [.row (.slice (some ⟨g,0,none⟩) l c) 4 (flat (Z14 ys)),.obj q [.i a.mat,.i a.fst,nInt a.fds,.b a.chg]] (fun r h=>r=.b (Z87 (ys.take mq) a.mat)∧h=[.row (.slice (some ⟨g,0,none⟩) l c) 4 (flat (Z14 ys)),.obj q [.i a.mat,.i a.fst,nInt a.fds,.b a.chg]]):=by
 refine enter Tryz.func88 kr (n:=9) kr kr (ar (ir 1 [(0,.ms g 0 mq c),(1,.val (.func (.func 89) #[] #[.pointer (some ⟨q,0,none⟩)]))] (ie (ar (ir 2 [(5,.ms g 0 mq c),(6,.val (.func (.func 89) #[] #[.pointer (some ⟨q,0,none⟩)]))] (ic [0,0] (Zwi ys a q g l mq c) ?_))))))
 rintro _ _ (⟨i1,rfl,rfl,hp1⟩|⟨rfl,rfl,hp2⟩)
 ·refine ir 2 [(4,.b (decide ((i1:Int)≥0)))] (ie ?_)
  exact at_ (r2 [0,0] [.b (decide ((i1:Int)≥0))] ⟨rfl,rfl⟩ lb)
 refine ir 2 [(4,.b (decide ((-1)≥0)))] (ie ?_)
 exact at_ (r2 [0,0] [.b (decide ((-1)≥0))] ⟨rfl,rfl⟩ lb)
theorem Zp2 (xs:List Step) (hl_xs:xs.length≤4294967296):Z3 Tryz.prog 93 [Z0b xs] [] (fun r h=>∃(v:Hd),r=.h v∧h=[rK v 5 (flat (Zo xs))]):=by
 refine enter Tryz.func93 kr (n:=8) kr kr (ar (ir 1 [(0,Z0b xs)] (ie (aq (ar (irk 1 (.n 3 (Z0b xs) .r) (iN (Zo xs) (fun hz1=>?_) ?_)))))))
 ·have hz1:=Zsq hz1
  refine ie (ac1 (ar (ir 1 [(2,nl)] (ie (Z2e (Zac (k:=5)) ?_)))))
  subst hz1
  exact at_ (r2 [0] [nl] ⟨hN,rfl,rfl⟩ (AVLe.hd (v:=hN)) (eq:=(rr (ls:=[]) (by rw [Z31];rfl) rz)))
 refine ie (ac0 (ak (ar (iKL 5 ?_))))
 intro g1
 refine irk 1 (.n 6 (Z0b xs) .r) (iKC 0 g1 5 (Zo xs) none (Z57 _) (by simp<;>omega) ?_)
 intro v1
 refine ir 1 [(2,.h v1)] (ie ?_)
 exact at_ (r1 [0] ⟨v1,rfl,rfl⟩)
theorem Zi8 (xs:List Step) (hl_xs:xs.length≤4294967296:=by exact ob) (h0:0<xs.length:=by exact ob):Z3 Tryz.prog 93 [Z0b xs] [] (fun r h=>∃(g:Nat) (c:Nat),r=.ms g 0 xs.length c∧h=[.row (.slice (some ⟨g,0,none⟩) xs.length c) 5 (flat (Zo xs))]):=(Zp2 xs hl_xs).form (T:=fun v=>.h v) (m:=xs.length) (Z4h _) om h0
theorem Zb2 (am:List Arm) (hl:am.length≤1000000000:=by exact ob):Z3 Tryz.prog 125 [nArm am] [] (fun r h=>∃(v:Hd),r=.h v∧h=[rK v 4 (flat (Z14 am))]):=by
 refine enter Tryz.func125 kr (n:=8) kr kr (ar (ir 1 [(0,nArm am)] (ie (aq (ar (irk 1 (.n 3 (nArm am) .r) (iN (Z14 am) (fun hz1=>?_) ?_)))))))
 ·have hz1:=Zmn hz1
  refine ie (ac1 (ar (ir 1 [(2,nl)] (ie (Z2e (Zac (k:=4)) ?_)))))
  subst hz1
  exact at_ (r2 [0] [nl] ⟨hN,rfl,rfl⟩ (AVLe.hd (v:=hN)) (eq:=(rr (ls:=[]) rfl rz)))
 refine ie (ac0 (ak (ar (iKL 4 ?_))))
 intro g1
 refine irk 1 (.n 6 (nArm am) .r) (iKC 0 g1 4 (Z14 am) none (Z46 _) (by simp<;>omega) ?_)
 intro v1
 refine ir 1 [(2,.h v1)] (ie ?_)
 exact at_ (r1 [0] ⟨v1,rfl,rfl⟩)
theorem Zka (am:List Arm) (a:Arm) (hl:am.length≤900000000):Z3 Tryz.prog 65 [nArm am,.agg [.i a.mat,.i a.fst,nInt a.fds,.b a.chg]] [] (fun r h=>∃(v:Hd),r=.h v∧h=[rK v 4 (flat (Z14 (am++[a])))]):=by
 refine enter Tryz.func65 kr (n:=10) kr kr (ar (iA [.i a.mat,.i a.fst,nInt a.fds,.b a.chg] ?_))
 intro b1
 refine ir 1 [(0,nArm am),(3,.p b1 0)] (ie (aD 6 (dT (fuel:=4) 6 [0,2] [(5,nArm am),(7,.agg [.i a.mat,.i a.fst,nInt a.fds,.b a.chg])] [0] [b1] (dK (fun F h=>∃(v3:Hd),F=[(4,.h v3)]∧h=[rK v3 4 (flat (Z14 am)++flat (Z14 [a])),.obj b1 [.i a.mat,.i a.fst,nInt a.fds,.b a.chg]]) ?_ ?_))))
 ·refine Zvi 1 3 ?_ ?_
  ·refine dc 1 [] [0] [b1] (Zb2 am) ?_
   rintro _ _ ⟨v1,rfl,rfl⟩
   refine do_ 3 (dL 3 [] [] (Z14 [a]) 1 4 ?_)
   intro v2
   refine dt (fuel:=2) 2 [] [(6,.h v1),(8,nArm [a])] (do_ 4 (dKA 4 1 am.length [] [] v1 4 (flat (Z14 am)) (Z14 [a]) none (Z8k am) (Z46 _) (Za3 _) (by simp [Z14]) (by simp<;>omega) ?_))
   intro v3
   refine dt (fuel:=0) 1 [5] [(4,.h v3)] (de ?_)
   exact ⟨[(4,.h v3)],[rK v3 4 (flat (Z14 am)++flat (Z14 [a])),.obj b1 [.i a.mat,.i a.fst,nInt a.fds,.b a.chg]],⟨v3,rfl,rfl⟩,(wk [0,1] fl)⟩
  refine dL 3 [] [] (Z14 [a]) 1 4 ?_
  intro v4
  refine do_ 1 (dc 1 [] [] [] (Zb2 am) ?_)
  rintro _ _ ⟨v5,rfl,rfl⟩
  refine dt (fuel:=2) 2 [] [(6,.h v5),(8,nArm [a])] (do_ 4 (dKA 4 0 am.length [] [] v5 4 (flat (Z14 am)) (Z14 [a]) none (Z8k am) (Z46 _) (Za3 _) (by simp [Z14]) (by simp<;>omega) ?_))
  intro v6
  refine dt (fuel:=0) 1 [5] [(4,.h v6)] (de ?_)
  exact ⟨[(4,.h v6)],[rK v6 4 (flat (Z14 am)++flat (Z14 [a])),.obj b1 [.i a.mat,.i a.fst,nInt a.fds,.b a.chg]],⟨v6,rfl,rfl⟩,(wk [0,1] fl)⟩
 rintro F h ⟨v3,rfl,rfl⟩
 exact at_ (r1 [0] ⟨v3,rfl,rfl⟩ (eq:=(rr (ls:=flat (Z14 am)++flat (Z14 [a])) (Zsu am a) rz)))
theorem Zey (am:List Arm) (a:Arm) (hl:am.length≤900000000:=by exact ob):Z3 Tryz.prog 65 [nArm am,.agg [.i a.mat,.i a.fst,nInt a.fds,.b a.chg]] [] (fun r h=>∃(g:Nat) (c:Nat),r=.ms g 0 (am.length+1) c∧h=[.row (.slice (some ⟨g,0,none⟩) (am.length+1) c) 4 (flat (Z14 (am++[a])))]):=(Zka am a hl).form (T:=fun v=>.h v) (m:=am.length+1) (by rw [Z8k];simp) om om
theorem Z06b (ds:List Decl) (am:List Arm) (a:Arm) (g:Nat) (c:Nat) (b:Block) (hal:am.length≤900000000:=by exact ob) (hw:wB ds b:=by exact ob) (hf:a.fds.length≤3:=by exact ob) (hm:0≤a.mat∧a.mat≤900000000:=by exact ob) (hz:b.pz≤900000000:=by exact ob):Z3 Tryz.prog 44 [.ms g 0 (am.length+1) c,Za b] [.row (.slice (some ⟨g,0,none⟩) (am.length+1) c) 4 (flat (Z14 (am++[a])))] (fun r h=>r=Za (ruI am a b)∧h=[.row (.slice (some ⟨g,0,none⟩) (am.length+1) c) 4 (flat (Z14 (am++[armI am a b])))]):=by
 have hbs:=(Zlv b).1 hw
 have hbz:=Zla b
 have hrl:=Zan b.steps
 have hal2:=Zzg am a
 have hlen:(am++[a]).length=am.length+1:=by simp
 have hsa:∀s∈b.steps,s.args.length≤1000000000:=fun s hs=>by
  obtain ⟨k,hk⟩:=List.getElem?_of_mem hs
  have h1:=Zxq hk
  have h2:=Zxp s
  omega
 have htk:(am++[a]).take am.length=am:=by simp
 refine enter Tryz.func44 kr (n:=71) kr kr (ar (iA (Z03 b) ?_))
 intro b1
 refine iA [nl,.i 0] ?_
 intro b2
 refine ie (ar (ir 2 [(0,.ms g 0 (am.length+1) c),(3,.p b1 0),(4,.p b2 0),(10,.ms g 0 (am.length+1) c),(11,.ms g 0 (am.length+1) c)] (io (.i (((am.length+1):Nat):Int)) (.i (((am.length+1):Nat):Int)) (lr _) (ia ((am.length:Int)) (((((am.length+1):Nat):Int))-(1)) (is_ (kIdx g (am.length+1) c am.length 4 (am.length:Int)) (ix_ (Zwq 2 g (am.length+1) c 4 (am.length*4) (flat (Z14 (am++[a]))) (lArm a) 96 (.agg [.i a.mat,.i a.fst,nInt a.fds,.b a.chg]) (Zms hal2)) (iA [.i 0,.i 0,nl,.b false] ?_)))))))
 intro b3
 refine iS 0 b3 0 [.i a.mat,.i a.fst,nInt a.fds,.b a.chg] [.i 0,.i 0,nl,.b false] [.i a.mat,.i a.fst,nInt a.fds,.b a.chg] (ie (aq (ar (irk 2 (.n 16 (.ms g 0 (am.length+1) c) (.n 17 (.ms g 0 (am.length+1) c) .r)) (io (.i (((am.length+1):Nat):Int)) (.i (((am.length+1):Nat):Int)) (lr _) (ia ((am.length:Int)) (((((am.length+1):Nat):Int))-(1)) (is_ (kCut 3 g (am.length+1) c am.length 4 (flat (Z14 (am++[a])))) (irk 1 (.n 21 (.val (.func (.func 89) #[] #[.pointer (some ⟨b3,0,none⟩)])) .r) (ic [3,0] (Zmj (am++[a]) a b3 g (am.length+1) am.length c) ?_)))))))))
 rintro _ _ ⟨rfl,rfl⟩
 refine ie (ac (Z87 ((am++[a]).take am.length) a.mat) Iff.rfl (fun hc1=>?_) (fun hc1=>?_))
 ·have hN:Za4 am a b:=.inl (by rw [htk] at hc1;exact hc1)
  refine ar (irK 1 (.n 23 (Za b) .r) [3] [b1] (iS 2 b2 0 (Z03 b) [nl,.i 0] (Z03 b) (ie ?_)))
  exact at_ (r3 [1] [Za b] [0] [(b2,b2)] ⟨rfl,rfl⟩ (AVLe.agg (.cons (AVLe.sl _ (congrArg Zo (by rw [Zju hN]))) (.cons (li (by rw [Zju hN])) .nil))) (eq:=(rr (ls:=flat (Z14 (am++[a]))) (by rw [Zou hN]) rz)))
 have hk0:¬Z87 am a.mat=true:=by rw [htk] at hc1;exact hc1
 refine ak (ar (irK 1 (.n 24 (Za b) .r) [3] [b1] (ic [] (Zps b) ?_)))
 rintro _ _ ⟨rfl,rfl⟩
 refine irk 1 (.n 6 (.i (((Zm b.steps):Nat):Int)) .r) (ie (ar (irK 3 (.n 27 (Z0b b.steps) (.n 28 (.i (((Zm b.steps):Nat):Int)) .r)) [3] [b1] (is_ (Z63 (es:=Zo b.steps) (hv:=none) (l:=0) (m:=(((Zm b.steps):Nat):Int)) (sz:=5) (es':=Zo (b.steps.take (Zm b.steps))) kr om (by simp<;>omega) (by simp<;>omega) (Z57 _) (by first|(simp only [Int.toNat_natCast,List.take_length,Z5z,Z5y];done)|(simp only [Int.toNat_natCast,List.take_length,Z5z,Z5y];rfl)|(simp [Z5z,Z5y];done))) (irk 1 (.n 30 (.val (.func (.func 91) #[] #[.pointer (some ⟨b3,0,none⟩)])) .r) (ic [1] (Zt6 (b.steps.take (Zm b.steps)) a b3 (ha:=(fun s hs h16=>Zok (Zs4 hbs s (List.mem_of_mem_take hs) (by rw [h16];rfl))))) ?_))))))
 rintro _ _ ⟨rfl,rfl⟩
 refine irk 1 (.n 7 (.i (atF 16 a.mat (b.steps.take (Zm b.steps)) 0)) .r) (ie (ar (irK 3 (.n 33 (Z0b b.steps) (.n 34 (.i (((Zm b.steps):Nat):Int)) .r)) [3] [b1] (is_ (Z63 (es:=Zo b.steps) (hv:=none) (l:=(((Zm b.steps):Nat):Int)) (m:=(((Zo b.steps).length:Nat):Int)) (sz:=5) (es':=Zo (b.steps.drop (Zm b.steps))) kr om (by simp<;>omega) (by simp<;>omega) (Z57 _) (by first|(simp only [Int.toNat_natCast,List.take_length,Z5z,Z5y];done)|(simp only [Int.toNat_natCast,List.take_length,Z5z,Z5y];rfl)|(simp [Z5z,Z5y];done))) (irk 1 (.n 36 (.val (.func (.func 92) #[] #[.pointer (some ⟨b3,0,none⟩)])) .r) (ic [0] (Zwj (b.steps.drop (Zm b.steps)) a b3 (hs:=(fun s hs=>hsa s (List.mem_of_mem_drop hs)))) ?_))))))
 rintro _ _ ⟨rfl,rfl⟩
 refine irk 1 (.n 8 (.i (conF a.fds.length (b.steps.drop (Zm b.steps)) 0)) .r) (ie (aq (ar (Z24 [(0,.ms g 0 (am.length+1) c),(3,.p b1 0),(4,.p b2 0),(5,.p b3 0),(6,.i (((Zm b.steps):Nat):Int)),(7,.i (atF 16 a.mat (b.steps.take (Zm b.steps)) 0)),(8,.i (conF a.fds.length (b.steps.drop (Zm b.steps)) 0)),(43,.b ((decide ((atF 16 a.mat (b.steps.take (Zm b.steps)) 0)<0))||(decide ((conF a.fds.length (b.steps.drop (Zm b.steps)) 0)<0))))] [.obj b3 [.i a.mat,.i a.fst,nInt a.fds,.b a.chg],.row (.slice (some ⟨g,0,none⟩) (am.length+1) c) 4 (flat (Z14 (am++[a]))),.obj b2 [nl,.i 0],.obj b1 (Z03 b)] ?_ ?_))))
 ·refine ir 3 [(0,.ms g 0 (am.length+1) c),(3,.p b1 0),(4,.p b2 0),(5,.p b3 0),(6,.i (((Zm b.steps):Nat):Int)),(7,.i (atF 16 a.mat (b.steps.take (Zm b.steps)) 0)),(8,.i (conF a.fds.length (b.steps.drop (Zm b.steps)) 0)),(40,.b (decide ((atF 16 a.mat (b.steps.take (Zm b.steps)) 0)<0)))] (ib (b:=(decide ((atF 16 a.mat (b.steps.take (Zm b.steps)) 0)<0))) 40 (fun hb1=>?_) (fun hb1=>?_))
  ·have hp1:(atF 16 a.mat (b.steps.take (Zm b.steps)) 0)<0:=(dq).1 hb1
   refine irk 3 (.n 43 (.b true) (.d (.w (.k (.k (.k .z)))))) (ie ?_)
   exact wk [0,0,0,0] (fq (fw (fr (fc (x:=.b true) (lb (by simp only [hb1];rfl)) fl))))
  have hp2:¬((atF 16 a.mat (b.steps.take (Zm b.steps)) 0)<0):=Zd dq hb1
  refine irk 3 (.n 43 (.b (decide ((conF a.fds.length (b.steps.drop (Zm b.steps)) 0)<0))) (.d (.w (.k (.k (.k .z)))))) (ie ?_)
  exact wk [0,0,0,0] (fq (fw (fr (fc (x:=.b (decide ((conF a.fds.length (b.steps.drop (Zm b.steps)) 0)<0))) (lb (by simp only [hb1];rfl)) fl))))
 refine ac ((decide ((atF 16 a.mat (b.steps.take (Zm b.steps)) 0)<0))||(decide ((conF a.fds.length (b.steps.drop (Zm b.steps)) 0)<0))) (p:=((atF 16 a.mat (b.steps.take (Zm b.steps)) 0)<0)∨((conF a.fds.length (b.steps.drop (Zm b.steps)) 0)<0)) (Zg dq dq) (fun hc2=>?_) (fun hc2=>?_)
 ·have hN:Za4 am a b:=.inr (hc2.elim .inl fun z=>.inr (Zzo z))
  refine ar (iR 1 [(4,.p b2 0),(44,Za b)] [3] [b1] (iS 2 b2 0 (Z03 b) [nl,.i 0] (Z03 b) (ie ?_)))
  exact at_ (r3 [2] [Za b] [0] [(b2,b2)] ⟨rfl,rfl⟩ (AVLe.agg (.cons (AVLe.sl _ (congrArg Zo (by rw [Zju hN]))) (.cons (li (by rw [Zju hN])) .nil))) (eq:=(rr (ls:=flat (Z14 (am++[a]))) (by rw [Zou hN]) rz)))
 have ho:¬Z4b b.steps a.mat<0:=fun z=>hc2 (.inl z)
 obtain ⟨hce,hcn⟩:=Zzp (xs:=b.steps) (many:=a.fds.length) (fun z=>hc2 (.inr z))
 have hcc:¬(Z4b b.steps a.mat<0∨Z3g b.steps a.fds.length<0):=fun z=>z.elim ho hcn
 have hN:¬Za4 am a b:=fun z=>z.elim hk0 hcc
 obtain ⟨o1,o2,so,o3,o4⟩:=Z6i ho
 obtain ⟨p1,p2,sc,p3,p4,p5⟩:=Z5g hcn
 have hsoe:so=cntS 16 a.mat:=Option.some.inj (o3.symm.trans (Z03y hbs ho))
 have p6:=Zap hcc (t:=Step.mk 17 so.num so.into so.args so.kids) p3
 rw [show Z4b b.steps a.mat=(atF 16 a.mat (b.steps.take (Zm b.steps)) 0) from rfl] at o1 o2
 rw [hce] at p1 p2 p3 p6
 refine ak (ar (iR 2 [(0,.ms g 0 (am.length+1) c),(3,.p b1 0),(4,.p b2 0),(5,.p b3 0),(6,.i (((Zm b.steps):Nat):Int)),(7,.i (atF 16 a.mat (b.steps.take (Zm b.steps)) 0)),(8,.i (conF a.fds.length (b.steps.drop (Zm b.steps)) 0)),(46,Z0b b.steps)] [3] [b1] (ic [] (Zi8 b.steps) ?_)))
 rintro _ _ ⟨g1,c1,rfl,rfl⟩
 refine irk 1 (.n 9 (.ms g1 0 b.steps.length c1) .r) (ie (ar (irk 2 (.n 48 (.ms g1 0 b.steps.length c1) (.n 49 (.i (atF 16 a.mat (b.steps.take (Zm b.steps)) 0)) .r)) (is_ (kIdx g1 b.steps.length c1 ((atF 16 a.mat (b.steps.take (Zm b.steps)) 0).toNat) 5 (atF 16 a.mat (b.steps.take (Zm b.steps)) 0)) (irk 1 (.n 51 (.val (.pointer (some ⟨g1,((atF 16 a.mat (b.steps.take (Zm b.steps)) 0).toNat)*5,none⟩))) .r) (iKS 0 g1 b.steps.length c1 5 (((atF 16 a.mat (b.steps.take (Zm b.steps)) 0).toNat)*5) [.i 17] (flat (Zo b.steps)) (flat (Zo (b.steps.set (atF 16 a.mat (b.steps.take (Zm b.steps)) 0).toNat (Step.mk 17 so.num so.into so.args so.kids)))) (by rw [Z4h];simp only [List.length_cons,List.length_nil];omega) (Z002 17 o3) (ie (ar (irk 3 (.n 52 (.ms g1 0 b.steps.length c1) (.n 53 (.i (((Zm b.steps):Nat):Int)) (.n 54 (.i (conF a.fds.length (b.steps.drop (Zm b.steps)) 0)) .r))) (ia (((((Zm b.steps):Nat):Int)+(conF a.fds.length (b.steps.drop (Zm b.steps)) 0))) (((((Zm b.steps):Nat):Int))+((conF a.fds.length (b.steps.drop (Zm b.steps)) 0))) (irK 2 (.n 57 (.i a.mat) .r) [1] [b3] (ia ((1+a.mat)) ((1)+(a.mat)) (is_ (kIdx g1 b.steps.length c1 (((((Zm b.steps):Nat):Int)+(conF a.fds.length (b.steps.drop (Zm b.steps)) 0)).toNat) 5 ((((Zm b.steps):Nat):Int)+(conF a.fds.length (b.steps.drop (Zm b.steps)) 0))) (irk 1 (.n 60 (.val (.pointer (some ⟨g1,(((((Zm b.steps):Nat):Int)+(conF a.fds.length (b.steps.drop (Zm b.steps)) 0)).toNat)*5+2,none⟩))) .r) (iKS 0 g1 b.steps.length c1 5 ((((((Zm b.steps):Nat):Int)+(conF a.fds.length (b.steps.drop (Zm b.steps)) 0)).toNat)*5+2) [.i (1+a.mat)] (flat (Zo (b.steps.set (atF 16 a.mat (b.steps.take (Zm b.steps)) 0).toNat (Step.mk 17 so.num so.into so.args so.kids)))) (flat (Zo ((b.steps.set (atF 16 a.mat (b.steps.take (Zm b.steps)) 0).toNat (Step.mk 17 so.num so.into so.args so.kids)).set (((Zm b.steps:Nat):Int)+(conF a.fds.length (b.steps.drop (Zm b.steps)) 0)).toNat (Z73 (1+a.mat) sc)))) (by rw [Z4h,List.length_set];simp only [List.length_cons,List.length_nil];omega) (Zsx (1+a.mat) p6) (ie (ar (irk 2 (.n 61 (.ms g 0 (am.length+1) c) (.n 62 (.ms g 0 (am.length+1) c) .r)) (io (.i (((am.length+1):Nat):Int)) (.i (((am.length+1):Nat):Int)) (lr _) (ia ((am.length:Int)) (((((am.length+1):Nat):Int))-(1)) (is_ (kIdx g (am.length+1) c am.length 4 (am.length:Int)) (irk 1 (.n 66 (.val (.pointer (some ⟨g,am.length*4+3,none⟩))) .r) (iKS 2 g (am.length+1) c 4 (am.length*4+3) [.b true] (flat (Z14 (am++[a]))) (flat (Z14 (am++[Arm.mk a.mat a.fst a.fds true]))) (by rw [Z8k,hlen];simp only [List.length_cons,List.length_nil];omega) (Zvy true) (ie (ar (irK 4 (.n 70 (.agg [.ms g1 0 b.steps.length c1,.i b.result]) .r) [4] [b1] (iS 3 b2 0 [.ms g1 0 b.steps.length c1,.i b.result] [nl,.i 0] [.ms g1 0 b.steps.length c1,.i b.result] (Z4v (tOFr 2 0 0 (.slice (some ⟨g1,0,none⟩) b.steps.length c1) 5 b2 (Zo ((b.steps.set (atF 16 a.mat (b.steps.take (Zm b.steps)) 0).toNat (Step.mk 17 so.num so.into so.args so.kids)).set (((Zm b.steps:Nat):Int)+(conF a.fds.length (b.steps.drop (Zm b.steps)) 0)).toNat (Z73 (1+a.mat) sc))) [.ms g1 0 b.steps.length c1,.i b.result] (Z57 _) rfl) (ie ?_)))))))))))))))))))))))))))))
 exact at_ (r3 [2] [.agg [Z5c ((b.steps.set (atF 16 a.mat (b.steps.take (Zm b.steps)) 0).toNat (Step.mk 17 so.num so.into so.args so.kids)).set (((Zm b.steps:Nat):Int)+(conF a.fds.length (b.steps.drop (Zm b.steps)) 0)).toNat (Z73 (1+a.mat) sc)) (.slice (some ⟨g1,0,none⟩) b.steps.length c1),.i b.result]] [0] [(b2,b2)] ⟨rfl,rfl⟩ (AVLe.agg (.cons (AVLe.sl _ (congrArg Zo (by rw [Zpw hN];show _=reuL b.steps a.mat a.fds.length;rw [←Zrh hcc p5,hce,hsoe];rfl))) (.cons (li (by rw [Zpw hN];rfl)) .nil))) (eq:=(rr (ls:=(flat (Z14 (am++[Arm.mk a.mat a.fst a.fds true])))) (by rw [Zqe hN]) rz)))
theorem Zya (ds:List Decl) (am:List Arm) (x:Int) (qm:Nat) (fs:List Int) (g:Nat) (c:Nat) (b:Block) (hal:am.length≤900000000:=by exact ob) (hw:wB ds b:=by exact ob) (hf:fs.length≤3:=by exact ob) (hm:0≤x∧x≤900000000:=by exact ob) (hz:b.pz≤900000000:=by exact ob):Z3 Tryz.prog 44 [.ms g 0 (am.length+1) c,Za b] [.row (.slice (some ⟨g,0,none⟩) (am.length+1) c) 4 (flat (Z14 (am++[Arm.mk x qm fs false])))] (fun r h=>r=Za (ruI am (Arm.mk x qm fs false) b)∧h=[.row (.slice (some ⟨g,0,none⟩) (am.length+1) c) 4 (flat (Z14 (am++[armI am (Arm.mk x qm fs false) b])))]):=Z06b ds am ⟨x,qm,fs,false⟩ g c b hal hw hf hm hz
theorem Zfi (n:Normal) (b:Block) (mm:Nat) (am:List Arm) (kept:List Int) (hn:NOk n) (hw:wB n.decls b) (hal:am.length+b.pz≤800000000) (hb:mm+4*b.pz≤900000000) (hkp:∀x,x∈kept↔Z87 am x=true) (ih:∀(b2:Block) (m2:Nat) (a2:List Arm) (K2:List Int),(wB n.decls b2)→(a2.length+b2.pz≤800000000)→(m2+4*b2.pz≤900000000)→(∀x,x∈K2↔Z87 a2 x=true)→(b2.pz<b.pz)→Z3 Tryz.prog 38 [.agg [Z2 n.decls,sq1 n],Za b2,.i m2,nArm a2,.val (.func (.func 44) #[] #[])] [] (fun r h=>∃(y:HBlock),r=Z3i y∧h=[.many (Z0d y)]∧y.er=ruB n.decls K2 b2)):Z3 Tryz.prog 38 [.agg [Z2 n.decls,sq1 n],Za b,.i mm,nArm am,.val (.func (.func 44) #[] #[])] [] (fun r h=>∃(y:HBlock),r=Z3i y∧h=[.many (Z0d y)]∧y.er=ruB n.decls kept b):=by
 have hdk:=hn.decls
 have hbz:=Zla b
 refine enter Tryz.func38 kr (n:=98) kr kr (ar (iA [Z2 n.decls,sq1 n] ?_))
 intro b1
 refine iA (Z03 b) ?_
 intro b2
 refine iA [nl,.i 0] ?_
 intro b3
 refine ie (ar (iR 3 [(2,.i mm),(3,nArm am),(4,.val (.func (.func 44) #[] #[])),(5,.p b1 0),(6,.p b2 0),(10,.p b3 0),(21,.agg [nl,.i b.result])] [1] [b2] (iA [nl,.i 0] ?_)))
 intro b4
 refine iS 0 b4 0 [nl,.i b.result] [nl,.i 0] [nl,.i b.result] (ie (aq (ar (irK 2 (.n 23 (Z0b b.steps) .r) [2] [b2] (iw (Z0l b.steps) (irk 1 (.n 25 (.i 0) .r) (ie (ab 0 (Z6b 5 (Z2e (tB [] [] [] (Z06 []) (by simp [Z0j,Z01,Z0u,Z0n,Zr,Z0o,Z04,Z06,Zp,Z1v,Z0d,Z1b,Z0m,Zl,Z40,Z2f,Z0r,Zz])) (al (fun m F h=>∃(k:Nat) (q:Nat) (xs:List HStep) (v:Value),(k≤b.steps.length)∧(q≤mm+k)∧(xs.length=k)∧(erSs xs++ruSs n.decls kept (b.steps.drop k)=ruSs n.decls kept b.steps)∧F=[(2,.i q),(3,nArm am),(4,.val (.func (.func 44) #[] #[])),(5,.p b1 0),(10,.p b3 0),(11,.p b4 0),(23,Z0b b.steps),(24,.i b.steps.length),(25,.i k)]∧h=[.obj b4 [Z3b xs v,.i b.result],.obj b3 [nl,.i 0],.obj b1 [Z2 n.decls,sq1 n],.tail v 5,.many (Z06 xs)]∧m=b.steps.length-k) _ _ _ ⟨0,mm,[],(.slice none 0 0),ob,ob,ob,rfl,rfl,rfl,rfl⟩ (wk [2,2,3,1,0] (fq (fq (fc (x:=.i 0) li fl)))) ?_)))))))))))
 rintro m F h ⟨k,q,xs,v,c0_0,c0_1,c0_2,c0_3,rfl,rfl,rfl⟩
 refine ar (irk 1 (.n 26 (.b (decide ((k:Int)<(b.steps.length:Int)))) .r) (ie (aq (ac (decide ((k:Int)<(b.steps.length:Int))) dq (fun hc1=>?_) (fun hc1=>?_)))))
 ·refine ak (aq (ab 1 (ar ?_)))
  obtain ⟨x1,hx1⟩:=Z6 (xs:=b.steps) (j:=k) om
  have hsz:=Zxq hx1
  have hws:=Z06m hw hx1
  have hkz:=Z042 x1
  have haz:=Zxp x1
  refine is_ (Z0 (es:=Zo b.steps) (hv:=none) (j:=(k:Int)) (sz:=5) (y:=Z0g x1) kr om (Z0y hx1) rfl) (irk 1 (.n 28 (Z0g x1) .r) (iA [.i 0,.i 0,.i 0,nl,nl] ?_))
  intro b5
  refine iS 0 b5 0 (Z02 x1) [.i 0,.i 0,.i 0,nl,nl] (Z02 x1) (ie (ar (irk 1 (.n 14 (nl) .r) (ie (aq (ar (irK 2 (.n 30 (Zv x1.kids) .r) [0] [b5] (iw (Z0f x1.kids) (irk 1 (.n 32 (.i 0) .r) (ie (ab 2 (Z6b 2 (Z2e (tB [] [] [] (Zp []) (by simp [Z0j,Z01,Z0u,Z0n,Zr,Z0o,Z04,Z06,Zp,Z1v,Z0d,Z1b,Z0m,Zl,Z40,Z2f,Z0r,Zz])) (al (fun m F h=>∃(j:Nat) (ys:List HBlock) (u:Value),(j≤x1.kids.length)∧(ys.length=j)∧(erBs ys++ruKs n.decls kept x1.op x1.num x1.args (x1.kids.drop j) j=ruKs n.decls kept x1.op x1.num x1.args x1.kids 0)∧F=[(2,.i q),(3,nArm am),(4,.val (.func (.func 44) #[] #[])),(5,.p b1 0),(10,.p b3 0),(11,.p b4 0),(13,.p b5 0),(14,Z1w ys u),(23,Z0b b.steps),(24,.i b.steps.length),(25,.i k),(30,Zv x1.kids),(31,.i x1.kids.length),(32,.i j)]∧h=[.obj b5 (Z02 x1),.obj b4 [Z3b xs v,.i b.result],.obj b3 [nl,.i 0],.obj b1 [Z2 n.decls,sq1 n],.many (Z06 xs),.tail u 2,.tail v 5,.many (Zp ys)]∧m=x1.kids.length-j) _ _ _ ⟨0,[],(.slice none 0 0),ob,ob,(by simp [erBs]),rfl,rfl,rfl⟩ (wk [2,2,2,2,3,1,1,0] (fq (fw (fr (fc (x:=nl) (AVLe.slh _ (by first|rfl|(subst_vars;rfl))) (fq (fr (fc (x:=.i 0) li fl)))))))) ?_))))))))))))))
  rintro m F h ⟨j,ys,u,c1_0,c1_1,c1_2,rfl,rfl,rfl⟩
  refine ar (irk 1 (.n 33 (.b (decide ((j:Int)<(x1.kids.length:Int)))) .r) (ie (aq (ac (decide ((j:Int)<(x1.kids.length:Int))) dq (fun hc2=>?_) (fun hc2=>?_)))))
  ·refine ak (aq (ab 3 (ar (irk 1 (.n 34 (.i j) .r) ?_))))
   obtain ⟨x2,hx2⟩:=Z6 (xs:=x1.kids) (j:=j) om
   have hkb:=hx2
   have hks:=Z067 hx2
   have hwk:=Z02f hws hx2
   have hst:=Zla x2
   refine is_ (Z0 (es:=Z19 x1.kids) (hv:=none) (j:=(j:Int)) (sz:=2) (y:=Za x2) kr om (Z1q hx2) rfl) (irk 1 (.n 36 (Za x2) .r) (iA [nl,.i 0] ?_))
   intro b6
   refine irk 1 (.n 15 (.i j) .r) (iS 0 b6 0 (Z03 x2) [nl,.i 0] (Z03 x2) (ie (aq (ar (irK 3 (.n 39 (.b (x1.op != 8)) .r) [1] [b5] (ie (ac (x1.op != 8) bne_iff_ne (fun hc3=>?_) (fun hc3=>?_))))))))
   ·refine ar (irK 6 (.n 40 (Z1w ys u) (.n 41 (.agg [Z2 n.decls,sq1 n]) (.n 42 (Za x2) (.n 43 (.i q) (.n 44 (nArm am) (.n 45 (.val (.func (.func 44) #[] #[])) .r)))))) [4,0] [b1,b6] (ic [] (ih x2 q am _ (by first|exact hwk|exact Zz6 hwk) (by first|omega|(rw [Zd6 hwk];simp only [List.length_append,List.length_cons,List.length_nil];omega)) (by first|omega|(rw [Zd6 hwk];omega)) (by first|exact hkp|exact Zh5 hkp rfl) (by first|omega|(rw [Zd6 hwk];omega))) ?_))
    rintro _ _ ⟨y1,rfl,rfl,hp1⟩
    have hy:(y1).er=ruK n.decls kept x1.op x1.num x1.args j x2:=by
     first
     | (rw [←Zef (fun z=>absurd z.1 om)];exact hp1)
     | exact Eq.trans hp1 (Zpx om hg1 hfk hkp)
    refine iL [Z3i y1] 1 2 ?_
    intro v1
    refine irk 0 (.n 47 (.sl [Z3i y1] none) (.p .r)) (ip 8 (Z1c (ys++[y1])) (Z1c ys) [Z3i y1] u none 2 (Z6e _) (Z98 rfl) rfl (by simp<;>omega) (by simp [Z5i,Z41]) ?_)
    intro v2
    refine Z4v (tB [10,2] [.many (Zp ys),.many (Z0d y1)] (Zp ys++(Z0d y1++[])) (Zp (ys++[y1])) (by simp [Z0j,Z01,Z0u,Z0n,Zr,Z0o,Z04,Z06,Zp,Z1v,Z0d,Z1b,Z0m,Zl,Z40,Z2f,Z0r,Zz])) (irk 1 (.n 14 (Z1w (ys++[y1]) v2) (.p (.d (.p (.d (.d (.d (.d (.d (.d (.d (.d (.p (.d (.p (.d (.d (.w (.k (.k (.k (.d .r)))))))))))))))))))))) (ie (ax 3 (az (ia (((j+1:Nat):Int)) (((j:Int))+(1)) (irk 1 (.n 32 (.i (j+1:Nat)) (.p (.w (.w (.w (.k .z)))))) (ie ?_)))))))
    exact ⟨_,_,_,ob,⟨j+1,(ys++[y1]),v2,ob,ob,(by rw [Zkk,Zkl,hy];exact Zro hkb c1_2),rfl,rfl,rfl⟩,(wk [4,4,4,4,4,1,3,0] (fq (fq (fq (fr (fc (x:=.i (j+1:Nat)) li fl))))))⟩
   refine ak (aD 15 (dtK (fuel:=13) 15 [0,1] (.n 50 (nInt x1.args) .r) [1] [b5] ?_))
   obtain ⟨x3,hx3⟩:=Z6 (xs:=x1.args) (j:=0) (by obtain ⟨⟨a,ha2,_⟩,_⟩:=Z9i hws om;rw [ha2];simp)
   have hg1:=gI0 hx3
   have hxb:0≤x3∧x3≤900000000:=by obtain ⟨⟨a,ha2,ha3⟩,_⟩:=Z9i hws om;rw [ha2] at hg1;have:a=x3:=hg1;omega
   refine dx 2 (Z0 (es:=Z8 x1.args) (hv:=none) (j:=0) (sz:=1) (y:=.i x3) kr om (Z9 hx3) rfl) (dtK (fuel:=6) 12 [3,4,5,6,7,9] (.n 52 (.i x3) (.n 53 (.i q) (.n 54 (.agg [Z2 n.decls,sq1 n]) (.n 56 (.i x1.num) (.n 58 (.i j) .r))))) [4,1] [b1,b5] (Zvi 8 13 ?_ ?_))
   ·refine dc 8 [] [1] [b5] (Z2b _ x1.num) ?_
    rintro _ _ ⟨rfl,rfl⟩
    obtain ⟨x4,hx4⟩:=Z6 (xs:=((Zb n.decls x1.num).map (Z1 n.decls))) (j:=j) (by have h:=(Z9i hws om).2;rw [List.length_map];omega)
    have hfk:=Zbk hx4
    have hxl:(x4).length≤3:=by rw [←hfk];exact Zbl hdk _ _
    refine dx 10 (Z0 (es:=Z3a ((Zb n.decls x1.num).map (Z1 n.decls))) (hv:=none) (j:=(j:Int)) (sz:=1) (y:=nInt x4) kr om (Z4o hx4) rfl) (dt (fuel:=2) 4 [11,12] [(2,.i q),(3,nArm am),(4,.val (.func (.func 44) #[] #[])),(5,.p b1 0),(10,.p b3 0),(11,.p b4 0),(13,.p b5 0),(14,Z1w ys u),(16,.p b6 0),(23,Z0b b.steps),(24,.i b.steps.length),(25,.i k),(30,Zv x1.kids),(31,.i x1.kids.length),(32,.i j),(61,.agg [.i x3,.i q,nInt x4,.b false])] (do_ 13 (dA 13 [1] [b5] [.i 0,.i 0,nl,.b false] ?_)))
    intro b7
    refine do_ 14 (dS 14 0 [] [] b7 0 [.i x3,.i q,nInt x4,.b false] [.i 0,.i 0,nl,.b false] [.i x3,.i q,nInt x4,.b false] (de (ar (irK 2 (.n 62 (nArm am) (.n 63 (.agg [.i x3,.i q,nInt x4,.b false]) .r)) [0] [b7] (ic [] (Zey am (Arm.mk x3 (q:Int) x4 false)) ?_)))))
    rintro _ _ ⟨g1,c1,rfl,rfl⟩
    refine irk 1 (.n 18 (.ms g1 0 (am.length+1) c1) .r) (ie (aE 17 (dtK (fuel:=9) 17 [0,1,2,3,4,6,7,8] (.n 65 (Z1w ys u) (.n 66 (.agg [Z2 n.decls,sq1 n]) (.n 67 (.val (.func (.func 44) #[] #[])) (.n 68 (.ms g1 0 (am.length+1) c1) (.n 69 (Za x2) (.n 71 (.i q) (.n 73 (nInt x4) .r))))))) [6,2,1] [b1,b6,b7] (dw 9 (Z4 x4) (da 10 (((q+x4.length:Nat):Int)) (((q:Int))+((x4.length:Int))) (dtk (fuel:=5) 7 [11,12] (.n 76 (.ms g1 0 (am.length+1) c1) (.n 77 (.val (.func (.func 44) #[] #[])) .r)) (do_ 5 (dc 5 [0] [0,5] [b7,b1] (Zya n.decls am _ q _ g1 c1 x2 (hw:=hwk) (hm:=hxb)) ?_))))))))
    rintro _ _ ⟨rfl,rfl⟩
    refine dFrz 76 0 (v:=(.slice (some ⟨g1,0,none⟩) (am.length+1) c1)) (Z14 (am++[armI am (Arm.mk x3 q x4 false) x2])) (Z46 _) (dt (fuel:=4) 4 [] [(2,.i q),(3,nArm am),(4,.val (.func (.func 44) #[] #[])),(5,.p b1 0),(10,.p b3 0),(11,.p b4 0),(13,.p b5 0),(14,Z1w ys u),(23,Z0b b.steps),(24,.i b.steps.length),(25,.i k),(30,Zv x1.kids),(31,.i x1.kids.length),(32,.i j),(65,Z1w ys u),(66,.agg [Z2 n.decls,sq1 n]),(70,Za (ruI am (Arm.mk x3 q x4 false) x2)),(75,.i (q+x4.length:Nat)),(76,nArm (am++[armI am (Arm.mk x3 q x4 false) x2])),(77,.val (.func (.func 44) #[] #[]))] (do_ 13 (dc 13 [] [] [] (ih (ruI am (Arm.mk x3 q x4 false) x2) (q+x4.length) (am++[armI am (Arm.mk x3 q x4 false) x2]) _ (by first|exact hwk|exact Zz6 hwk) (by first|omega|(rw [Zd6 hwk];simp only [List.length_append,List.length_cons,List.length_nil];omega)) (by first|omega|(rw [Zd6 hwk];omega)) (by first|exact hkp|exact Zh5 hkp rfl) (by first|omega|(rw [Zd6 hwk];omega))) ?_)))
    rintro _ _ ⟨y2,rfl,rfl,hp2⟩
    have hy:(y2).er=ruK n.decls kept x1.op x1.num x1.args j x2:=by
     first
     | (rw [←Zef (fun z=>absurd z.1 om)];exact hp2)
     | exact Eq.trans hp2 (Zpx om hg1 hfk hkp)
    refine do_ 14 (dL 14 [] [] [Z3i y2] 1 2 ?_)
    intro v3
    refine dtk (fuel:=2) 2 [] (.n 79 (.sl [Z3i y2] none) (.p .r)) (do_ 15 (dp 15 10 [] [] (Z1c (ys++[y2])) (Z1c ys) [Z3i y2] u none 2 (Z6e _) (Z98 rfl) rfl (by simp<;>omega) (by simp [Z5i,Z41]) ?_))
    intro v4
    refine Zcb (tB [12,2] [.many (Zp ys),.many (Z0d y2)] (Zp ys++(Z0d y2++[])) (Zp (ys++[y2])) (by simp [Z0j,Z01,Z0u,Z0n,Zr,Z0o,Z04,Z06,Zp,Z1v,Z0d,Z1b,Z0m,Zl,Z40,Z2f,Z0r,Zz])) (dtk (fuel:=0) 1 [16] (.n 14 (Z1w (ys++[y2]) v4) (.q 80 (.k (.q 78 (.w (.k (.k (.k (.d .r))))))))) (de (az (ia (((j+1:Nat):Int)) (((j:Int))+(1)) (irk 1 (.n 32 (.i (j+1:Nat)) (.p (.k (.d (.d (.d (.w (.w (.w .z))))))))) (ie ?_))))))
    exact ⟨_,_,_,ob,⟨j+1,(ys++[y2]),v4,ob,ob,(by rw [Zkk,Zkl,hy];exact Zro hkb c1_2),rfl,rfl,rfl⟩,(wk [6,6,6,6,6,1,5,0] (fq (fq (fq (fr (fc (x:=.i (j+1:Nat)) li fl))))))⟩
   refine dA 13 [1,4,1] [b5,b1,b5] [.i 0,.i 0,nl,.b false] ?_
   intro b8
   refine do_ 8 (dc 8 [] [2] [b5] (Z2b _ x1.num) ?_)
   rintro _ _ ⟨rfl,rfl⟩
   obtain ⟨x5,hx5⟩:=Z6 (xs:=((Zb n.decls x1.num).map (Z1 n.decls))) (j:=j) (by have h:=(Z9i hws om).2;rw [List.length_map];omega)
   have hfk:=Zbk hx5
   have hxl:(x5).length≤3:=by rw [←hfk];exact Zbl hdk _ _
   refine dx 10 (Z0 (es:=Z3a ((Zb n.decls x1.num).map (Z1 n.decls))) (hv:=none) (j:=(j:Int)) (sz:=1) (y:=nInt x5) kr om (Z4o hx5) rfl) (dt (fuel:=1) 3 [11,12] [(2,.i q),(3,nArm am),(4,.val (.func (.func 44) #[] #[])),(5,.p b1 0),(10,.p b3 0),(11,.p b4 0),(13,.p b5 0),(14,Z1w ys u),(16,.p b6 0),(17,.p b8 0),(23,Z0b b.steps),(24,.i b.steps.length),(25,.i k),(30,Zv x1.kids),(31,.i x1.kids.length),(32,.i j),(61,.agg [.i x3,.i q,nInt x5,.b false])] (do_ 14 (dS 14 0 [] [] b8 0 [.i x3,.i q,nInt x5,.b false] [.i 0,.i 0,nl,.b false] [.i x3,.i q,nInt x5,.b false] (de (ar (irK 2 (.n 62 (nArm am) (.n 63 (.agg [.i x3,.i q,nInt x5,.b false]) .r)) [0] [b8] (ic [] (Zey am (Arm.mk x3 (q:Int) x5 false)) ?_)))))))
   rintro _ _ ⟨g2,c2,rfl,rfl⟩
   refine irk 1 (.n 18 (.ms g2 0 (am.length+1) c2) .r) (ie (aE 17 (dtK (fuel:=9) 17 [0,1,2,3,4,6,7,8] (.n 65 (Z1w ys u) (.n 66 (.agg [Z2 n.decls,sq1 n]) (.n 67 (.val (.func (.func 44) #[] #[])) (.n 68 (.ms g2 0 (am.length+1) c2) (.n 69 (Za x2) (.n 71 (.i q) (.n 73 (nInt x5) .r))))))) [6,2,1] [b1,b6,b8] (dw 9 (Z4 x5) (da 10 (((q+x5.length:Nat):Int)) (((q:Int))+((x5.length:Int))) (dtk (fuel:=5) 7 [11,12] (.n 76 (.ms g2 0 (am.length+1) c2) (.n 77 (.val (.func (.func 44) #[] #[])) .r)) (do_ 5 (dc 5 [0] [0,5] [b8,b1] (Zya n.decls am _ q _ g2 c2 x2 (hw:=hwk) (hm:=hxb)) ?_))))))))
   rintro _ _ ⟨rfl,rfl⟩
   refine dFrz 76 0 (v:=(.slice (some ⟨g2,0,none⟩) (am.length+1) c2)) (Z14 (am++[armI am (Arm.mk x3 q x5 false) x2])) (Z46 _) (dt (fuel:=4) 4 [] [(2,.i q),(3,nArm am),(4,.val (.func (.func 44) #[] #[])),(5,.p b1 0),(10,.p b3 0),(11,.p b4 0),(13,.p b5 0),(14,Z1w ys u),(23,Z0b b.steps),(24,.i b.steps.length),(25,.i k),(30,Zv x1.kids),(31,.i x1.kids.length),(32,.i j),(65,Z1w ys u),(66,.agg [Z2 n.decls,sq1 n]),(70,Za (ruI am (Arm.mk x3 q x5 false) x2)),(75,.i (q+x5.length:Nat)),(76,nArm (am++[armI am (Arm.mk x3 q x5 false) x2])),(77,.val (.func (.func 44) #[] #[]))] (do_ 13 (dc 13 [] [] [] (ih (ruI am (Arm.mk x3 q x5 false) x2) (q+x5.length) (am++[armI am (Arm.mk x3 q x5 false) x2]) _ (by first|exact hwk|exact Zz6 hwk) (by first|omega|(rw [Zd6 hwk];simp only [List.length_append,List.length_cons,List.length_nil];omega)) (by first|omega|(rw [Zd6 hwk];omega)) (by first|exact hkp|exact Zh5 hkp rfl) (by first|omega|(rw [Zd6 hwk];omega))) ?_)))
   rintro _ _ ⟨y3,rfl,rfl,hp3⟩
   have hy:(y3).er=ruK n.decls kept x1.op x1.num x1.args j x2:=by
    first
    | (rw [←Zef (fun z=>absurd z.1 om)];exact hp3)
    | exact Eq.trans hp3 (Zpx om hg1 hfk hkp)
   refine do_ 14 (dL 14 [] [] [Z3i y3] 1 2 ?_)
   intro v5
   refine dtk (fuel:=2) 2 [] (.n 79 (.sl [Z3i y3] none) (.p .r)) (do_ 15 (dp 15 10 [] [] (Z1c (ys++[y3])) (Z1c ys) [Z3i y3] u none 2 (Z6e _) (Z98 rfl) rfl (by simp<;>omega) (by simp [Z5i,Z41]) ?_))
   intro v6
   refine Zcb (tB [12,2] [.many (Zp ys),.many (Z0d y3)] (Zp ys++(Z0d y3++[])) (Zp (ys++[y3])) (by simp [Z0j,Z01,Z0u,Z0n,Zr,Z0o,Z04,Z06,Zp,Z1v,Z0d,Z1b,Z0m,Zl,Z40,Z2f,Z0r,Zz])) (dtk (fuel:=0) 1 [16] (.n 14 (Z1w (ys++[y3]) v6) (.q 80 (.k (.q 78 (.w (.k (.k (.k (.d .r))))))))) (de (az (ia (((j+1:Nat):Int)) (((j:Int))+(1)) (irk 1 (.n 32 (.i (j+1:Nat)) (.p (.k (.d (.d (.d (.w (.w (.w .z))))))))) (ie ?_))))))
   exact ⟨_,_,_,ob,⟨j+1,(ys++[y3]),v6,ob,ob,(by rw [Zkk,Zkl,hy];exact Zro hkb c1_2),rfl,rfl,rfl⟩,(wk [6,6,6,6,6,1,5,0] (fq (fq (fq (fr (fc (x:=.i (j+1:Nat)) li fl))))))⟩
  have hK:=Zy5 om c1_2
  refine ax 2 (aD 9 (dtK (fuel:=5) 9 [0,1,2,3] (.n 83 (Z3b xs v) (.n 84 (Z0g x1) (.n 85 (Z1w ys u) .r))) [1,0] [b4,b5] (do_ 4 (dc 4 [] [1] [b4] (Zkt x1 ys u) ?_))))
  rintro _ _ ⟨u1,rfl,rfl⟩
  refine do_ 5 (dL 5 [1] [b4] [Zc6 (HStep.mk x1.op x1.num x1.into x1.args u1 ys u)] 1 5 ?_)
  intro v7
  refine dtk (fuel:=3) 3 [] (.n 87 (.sl [Zc6 (HStep.mk x1.op x1.num x1.into x1.args u1 ys u)] none) (.p .r)) (do_ 6 (dp 6 8 [] [] (Z28 (xs++[HStep.mk x1.op x1.num x1.into x1.args u1 ys u])) (Z28 xs) [Zc6 (HStep.mk x1.op x1.num x1.into x1.args u1 ys u)] v none 5 (Zbj _) (Z98 rfl) rfl (by simp<;>omega) (by simp [Zb4,Z5x]) ?_))
  intro v8
  refine Zcb (tB [7,2,7,6] [.many (Z06 xs),.tail u1 1,.many (Zp ys),.tail u 2] (Z06 xs++((u1,1)::(Zp ys++((u,2)::[])))) (Z06 (xs++[HStep.mk x1.op x1.num x1.into x1.args u1 ys u])) (by simp [Z0j,Z01,Z0u,Z0n,Zr,Z0o,Z04,Z06,Zp,Z1v,Z0d,Z1b,Z0m,Zl,Z40,Z2f,Z0r,Zz])) (dtk (fuel:=1) 2 [7] (.n 89 (.p b4 0) .r) (do_ 8 (dS 8 4 [] [] b4 0 [Z3b (xs++[HStep.mk x1.op x1.num x1.into x1.args u1 ys u]) v8] [Z3b xs v,.i b.result] [Z3b (xs++[HStep.mk x1.op x1.num x1.into x1.args u1 ys u]) v8,.i b.result] (de (ar (irK 2 (.n 91 (.i x1.op) .r) [4] [b5] (ic [] (Z32 x1.op) ?_)))))))
  rintro _ _ ⟨rfl,rfl⟩
  refine irk 1 (.n 93 (.b (!Z0q x1.op)) .r) (ie (Zlx (fun F h=>F=[(2,.i (((if Z0q x1.op=true then q else q+1):Nat):Int)),(3,nArm am),(4,.val (.func (.func 44) #[] #[])),(5,.p b1 0),(10,.p b3 0),(11,.p b4 0),(23,Z0b b.steps),(24,.i b.steps.length),(25,.i k)]∧h=[.obj b4 [Z3b (xs++[HStep.mk x1.op x1.num x1.into x1.args u1 ys u]) v8,.i b.result],.many (Z06 (xs++[HStep.mk x1.op x1.num x1.into x1.args u1 ys u])),.obj b3 [nl,.i 0],.obj b1 [Z2 n.decls,sq1 n],.tail v8 5]) (fun _ _=>rfl) ?_ ?_))
  ·refine ac (!Z0q x1.op) (p:=¬(Z0q x1.op=true)) (Zc Iff.rfl) (fun hc4=>?_) (fun hc4=>?_)
   ·refine az (ir 1 [(3,nArm am),(4,.val (.func (.func 44) #[] #[])),(5,.p b1 0),(10,.p b3 0),(11,.p b4 0),(23,Z0b b.steps),(24,.i b.steps.length),(25,.i k),(94,.i q)] (ia (((q+1:Nat):Int)) (((q:Int))+(1)) (irk 1 (.n 2 (.i (q+1:Nat)) .r) (ie ?_))))
    exact ⟨[(2,.i (((if Z0q x1.op=true then q else q+1):Nat):Int)),(3,nArm am),(4,.val (.func (.func 44) #[] #[])),(5,.p b1 0),(10,.p b3 0),(11,.p b4 0),(23,Z0b b.steps),(24,.i b.steps.length),(25,.i k)],[.obj b4 [Z3b (xs++[HStep.mk x1.op x1.num x1.into x1.args u1 ys u]) v8,.i b.result],.many (Z06 (xs++[HStep.mk x1.op x1.num x1.into x1.args u1 ys u])),.obj b3 [nl,.i 0],.obj b1 [Z2 n.decls,sq1 n],.tail v8 5],⟨rfl,rfl⟩,(wk [0,0,3,3,0] (fc (x:=.i (q+1:Nat)) (li (by rw [if_neg hc4])) fl))⟩
   refine ak ?_
   exact ⟨[(2,.i (((if Z0q x1.op=true then q else q+1):Nat):Int)),(3,nArm am),(4,.val (.func (.func 44) #[] #[])),(5,.p b1 0),(10,.p b3 0),(11,.p b4 0),(23,Z0b b.steps),(24,.i b.steps.length),(25,.i k)],[.obj b4 [Z3b (xs++[HStep.mk x1.op x1.num x1.into x1.args u1 ys u]) v8,.i b.result],.many (Z06 (xs++[HStep.mk x1.op x1.num x1.into x1.args u1 ys u])),.obj b3 [nl,.i 0],.obj b1 [Z2 n.decls,sq1 n],.tail v8 5],⟨rfl,rfl⟩,(wk [0,0,3,3,0] (fc (x:=.i q) (li (by rw [if_pos (Classical.not_not.1 hc4)])) fl))⟩
  rintro F h ⟨rfl,rfl⟩
  refine az (ia (((k+1:Nat):Int)) (((k:Int))+(1)) (ir 1 [(2,.i (((if Z0q x1.op=true then q else q+1):Nat):Int)),(3,nArm am),(4,.val (.func (.func 44) #[] #[])),(5,.p b1 0),(10,.p b3 0),(11,.p b4 0),(23,Z0b b.steps),(24,.i b.steps.length),(25,.i (k+1:Nat))] (ie ?_)))
  exact ⟨_,_,_,ob,⟨k+1,(if Z0q x1.op=true then q else q+1),(xs++[HStep.mk x1.op x1.num x1.into x1.args u1 ys u]),v8,ob,(by split<;>omega),ob,(by rw [Z000,Z001,HStep.er,hK];exact Z06c hx1 c0_3),rfl,rfl,rfl⟩,(wk [0,1,1,1,0] (fq (fq (fc (x:=.i (k+1:Nat)) li fl))))⟩
 refine ax 0 (ar (irK 1 (.n 97 (.agg [Z3b xs v,.i b.result]) .r) [0] [b4] (iS 1 b3 0 [Z3b xs v,.i b.result] [nl,.i 0] [Z3b xs v,.i b.result] (ie (Z2e (tB [4,3] [.many (Z06 xs),.tail v 5] (Z06 xs++((v,5)::[])) (Z0d (HBlock.mk xs v b.result)) (by simp [Z0j,Z01,Z0u,Z0n,Zr,Z0o,Z04,Z06,Zp,Z1v,Z0d,Z1b,Z0m,Zl,Z40,Z2f,Z0r,Zz])) ?_)))))
 exact at_ (r3 [0] [.agg [Z3b xs v,.i b.result]] [1] [(b3,b3)] ⟨(HBlock.mk xs v b.result),rfl,rfl,(by rw [HBlock.er,Znx,Z029 om c0_3])⟩ (lr _))
theorem Zh4 (n:Normal) (hn:NOk n) (k:Nat):∀(b2:Block) (m2:Nat) (a2:List Arm) (K2:List Int),(wB n.decls b2)→(a2.length+b2.pz≤800000000)→(m2+4*b2.pz≤900000000)→(∀x,x∈K2↔Z87 a2 x=true)→(b2.pz<k)→Z3 Tryz.prog 38 [.agg [Z2 n.decls,sq1 n],Za b2,.i m2,nArm a2,.val (.func (.func 44) #[] #[])] [] (fun r h=>∃(y:HBlock),r=Z3i y∧h=[.many (Z0d y)]∧y.er=ruB n.decls K2 b2):=by
 induction k with
 | zero=>intro b mm am K _ _ _ _ h;omega
 | succ k ih=>intro b mm am K h1 h2 h3 h4 h5;exact Zfi n b mm am K hn h1 h2 h3 h4 fun b2 m2 a2 K2 k1 k2 k3 k4 k5=>ih b2 m2 a2 K2 k1 k2 k3 k4 om
theorem Zid (n:Normal) (b:Block) (mm:Nat) (am:List Arm) (kept:List Int) (hn:NOk n:=by exact ob) (hw:wB n.decls b:=by exact ob) (hal:am.length+b.pz≤800000000:=by exact ob) (hb:mm+4*b.pz≤900000000:=by exact ob) (hkp:∀x,x∈kept↔Z87 am x=true):Z3 Tryz.prog 38 [.agg [Z2 n.decls,sq1 n],Za b,.i mm,nArm am,.val (.func (.func 44) #[] #[])] [] (fun r h=>∃(y:HBlock),r=Z3i y∧h=[.many (Z0d y)]∧y.er=ruB n.decls kept b):=Zh4 n hn (b.pz+1) b mm am kept hw hal hb hkp om
theorem Zn1 (n:Normal) (rt:Routine) (b:Block) (bs:Nat) (hn:NOk n:=by exact ob) (hw:wB n.decls b:=by exact ob) (hp:rt.params.length≤4:=by exact ob) (hb:b.pz≤200000000:=by exact ob):Z3 Tryz.prog 43 [Z0s rt,Za b,.p bs 0] [.obj bs [Z2 n.decls,sq1 n]] (fun r h=>∃(y:HBlock),r=Z3i y∧h=[.many (Z0d y),.obj bs [Z2 n.decls,sq1 n]]∧y.er=ruB n.decls [] b):=by
 refine enter Tryz.func43 kr (n:=12) kr kr (ar (iA (Z1s rt) ?_))
 intro b1
 refine iA (Z03 b) ?_
 intro b2
 refine iA [nl,.i 0] ?_
 intro b3
 refine ie (ar (iR 4 [(5,.p b3 0),(6,.agg [Z2 n.decls,sq1 n]),(7,Za b),(9,nInt rt.params)] [3,1,2] [bs,b2,b1] (iw (Z4 rt.params) (ic [] (Z3.args_le (Zid n b rt.params.length [] [] (hkp:=(fun x=>by simp [Z87]))) (.cons (lr _) (.cons (lr _) (.cons (lr _) (.cons (AVLe.forget [] (some nilV)) (.cons (lr _) .nil)))))) ?_))))
 rintro _ _ ⟨y1,rfl,rfl,hp1⟩
 refine iS 1 b3 0 (Z7m y1) [nl,.i 0] (Z7m y1) (ie ?_)
 exact at_ (r3 [1,3] [Z3i y1] [0] [(b3,b3)] ⟨y1,rfl,rfl,ob⟩ (lr _))
theorem Zfh (n:Normal) (bs:Nat) (hn:NOk n:=by exact ob) (hz:NSz n:=by exact ob) (hbt:∀r∈n.routines,0≤Zf n r.params r.body):Z3 Tryz.prog 26 [Zi n,.val (.func (.func 43) #[] #[.pointer (some ⟨bs,0,none⟩)])] [.obj bs [Z2 n.decls,sq1 n]] (fun r h=>∃(y:HNormal),r=Z2h y∧h=[.many (Zz y),.obj bs [Z2 n.decls,sq1 n]]∧y.er=Normal.mk n.decls (n.routines.map (ruR n.decls))):=by
 have hzl:=hn.len
 refine enter Tryz.func26 kr (n:=40) kr kr (ar (iA (Zh n) ?_))
 intro b1
 refine iA [nl,nl] ?_
 intro b2
 refine ie (ar (iR 2 [(1,.val (.func (.func 43) #[] #[.pointer (some ⟨bs,0,none⟩)])),(2,.p b1 0),(4,.p b2 0),(9,Z2 n.decls)] [1] [b1] (ic [] (Zh3 n.decls (hd:=hn.decls)) ?_)))
 rintro _ _ ⟨ys1,w1,rfl,rfl,hp1⟩
 have hde:=hp1
 refine irk 1 (.n 11 (.agg [Z4w ys1 w1,nl]) .r) (iA [nl,nl] ?_)
 intro b3
 refine iS 0 b3 0 [Z4w ys1 w1,nl] [nl,nl] [Z4w ys1 w1,nl] (ie (aq (ar (irK 2 (.n 13 (nRoutine n.routines) .r) [4] [b1] (iw (Z0a n.routines) (irk 1 (.n 15 (.i 0) .r) (ie (ab 0 (Z6b 5 (Z2e (tB [] [] [] (Zl []) (by simp [Z0j,Z01,Z0u,Z0n,Zr,Z0o,Z04,Z06,Zp,Z1v,Z0d,Z1b,Z0m,Zl,Z40,Z2f,Z0r,Zz])) (al (fun m F h=>∃(k:Nat) (xs:List HRoutine) (v:Value),(k≤n.routines.length)∧(xs.map HRoutine.er=(n.routines.take k).map (ruR n.decls))∧(xs.length=k)∧F=[(1,.val (.func (.func 43) #[] #[.pointer (some ⟨bs,0,none⟩)])),(4,.p b2 0),(5,.p b3 0),(13,nRoutine n.routines),(14,.i n.routines.length),(15,.i k)]∧h=[.obj b3 [Z4w ys1 w1,Z2z xs v],.many (Z0m ys1),.obj b2 [nl,nl],.obj bs [Z2 n.decls,sq1 n],.tail v 5,.tail w1 3,.many (Zl xs)]∧m=n.routines.length-k) _ _ _ ⟨0,[],(.slice none 0 0),ob,rfl,rfl,rfl,rfl,rfl⟩ (wk [2,2,3,4,1,1,0] (fq (fr (fc (x:=.i 0) li fl)))) ?_)))))))))))
 rintro m F h ⟨k,xs,v,c0_0,c0_1,c0_2,rfl,rfl,rfl⟩
 refine ar (irk 1 (.n 16 (.b (decide ((k:Int)<(n.routines.length:Int)))) .r) (ie (aq (ac (decide ((k:Int)<(n.routines.length:Int))) dq (fun hc1=>?_) (fun hc1=>?_)))))
 ·refine ak (aq (ab 1 (ar ?_)))
  obtain ⟨x1,hx1⟩:=Z6 (xs:=n.routines) (j:=k) om
  have hrm:=List.mem_of_getElem? hx1
  have hbz:=hz.body _ hrm
  have hpl:=hn.params_at hx1
  have hll:=hn.lent_at hx1
  have hwb:=Zq8 hn hz hbt _ hrm
  have hpb:=Block.pz_le (x1).body
  refine is_ (Z0 (es:=Z0p n.routines) (hv:=none) (j:=(k:Int)) (sz:=5) (y:=Z0s x1) kr om (Z0v hx1) rfl) (irk 1 (.n 18 (Z0s x1) .r) (iA [nl,nl,.i 0,nl,.i 0] ?_))
  intro b4
  refine iS 0 b4 0 (Z1s x1) [nl,nl,.i 0,nl,.i 0] (Z1s x1) (ie (aE 20 (dtK (fuel:=8) 20 [0,1,2,3,5,6,8,9,10,11,12,13] (.n 20 (Z2z xs v) (.n 22 (nInt x1.params) (.n 25 (nInt x1.lent) (.n 28 (.i x1.result) (.n 29 (.val (.func (.func 43) #[] #[.pointer (some ⟨bs,0,none⟩)])) (.n 30 (Z0s x1) (.n 32 (Za x1.body) .r))))))) [1,0,0,0,0,0] [b3,b4,b4,b4,b4,b4] (do_ 4 (dc 4 [] [0,0,0,0,1] [b4,b4,b4,b4,b3] (Z8i x1.params) ?_)))))
  rintro _ _ ⟨v1,rfl,rfl⟩
  refine do_ 7 (dc 7 [] [0,0,0,1] [b4,b4,b4,b3] (Z8i x1.lent) ?_)
  rintro _ _ ⟨v2,rfl,rfl⟩
  refine do_ 14 (dc 14 [6] [0,1] [b4,b3] (Zn1 _ x1 x1.body bs (hw:=hwb)) ?_)
  rintro _ _ ⟨y1,rfl,rfl,hp2⟩
  refine dtk (fuel:=4) 5 [15] (.n 34 (.agg [oInt x1.params v1,oInt x1.lent v2,.i x1.result,Z3b y1.steps y1.sv,.i y1.result]) .r) (do_ 16 (dL 16 [2] [b3] (Z0x [HRoutine.mk x1.params v1 x1.lent v2 x1.result (HBlock.mk y1.steps y1.sv y1.result)]) 1 5 ?_))
  intro v3
  refine dtk (fuel:=3) 3 [] (.n 35 (Zx8 [HRoutine.mk x1.params v1 x1.lent v2 x1.result (HBlock.mk y1.steps y1.sv y1.result)]) (.p .r)) (do_ 17 (dp 17 9 [] [] (Z0x (xs++[HRoutine.mk x1.params v1 x1.lent v2 x1.result (HBlock.mk y1.steps y1.sv y1.result)])) (Z0x xs) (Z0x [HRoutine.mk x1.params v1 x1.lent v2 x1.result (HBlock.mk y1.steps y1.sv y1.result)]) v none 5 (Z65 _) (Z65 _) (Zib _) (by simp<;>omega) (by simp [Z8j,Z0x]) ?_))
  intro v4
  refine Zcb (tB [11,5,4,2] [.many (Zl xs),.tail v1 1,.tail v2 1,.many (Z0d y1)] (Zl xs++((v1,1)::((v2,1)::(Z0d y1++[])))) (Zl (xs++[HRoutine.mk x1.params v1 x1.lent v2 x1.result (HBlock.mk y1.steps y1.sv y1.result)])) (by simp [Z0j,Z01,Z0u,Z0n,Zr,Z0o,Z04,Z06,Zp,Z1v,Z0d,Z1b,Z0m,Zl,Z40,Z2f,Z0r,Zz,Zaj,HBlock.steps,HBlock.sv])) (dtk (fuel:=1) 2 [18] (.n 37 (.p b3 1) .r) (do_ 19 (dS 19 5 [] [] b3 1 [Z2z (xs++[HRoutine.mk x1.params v1 x1.lent v2 x1.result (HBlock.mk y1.steps y1.sv y1.result)]) v4] [Z4w ys1 w1,Z2z xs v] [Z4w ys1 w1,Z2z (xs++[HRoutine.mk x1.params v1 x1.lent v2 x1.result (HBlock.mk y1.steps y1.sv y1.result)]) v4] (de (az (ia (((k+1:Nat):Int)) (((k:Int))+(1)) (irk 1 (.n 15 (.i (k+1:Nat)) (.p (.d (.p (.d (.d (.p (.p (.p (.d (.d (.d (.d (.d (.d (.d (.p (.d (.p (.d (.w (.k .z)))))))))))))))))))))) (ie ?_))))))))
  exact ⟨_,_,_,ob,⟨k+1,(xs++[HRoutine.mk x1.params v1 x1.lent v2 x1.result (HBlock.mk y1.steps y1.sv y1.result)]),v4,ob,(Z03t c0_1 hx1 (by show Routine.mk _ _ _ (HBlock.er (HBlock.mk y1.steps y1.sv y1.result))=Routine.mk _ _ _ _;rw [HBlock.eta];exact congrArg (Routine.mk x1.params x1.lent x1.result) (by assumption))),(by simp [c0_2]),rfl,rfl,rfl⟩,(wk [0,5,5,3,1,3,0] (fq (fr (fc (x:=.i (k+1:Nat)) li fl))))⟩
 refine ax 0 (ar (irK 1 (.n 39 (.agg [Z4w ys1 w1,Z2z xs v]) .r) [0] [b3] (iS 2 b2 0 [Z4w ys1 w1,Z2z xs v] [nl,nl] [Z4w ys1 w1,Z2z xs v] (ie (Z2e (tB [2,4,4,3] [.many (Z0m ys1),.tail w1 3,.many (Zl xs),.tail v 5] (Z0m ys1++((w1,3)::(Zl xs++((v,5)::[])))) (Zz (HNormal.mk ys1 w1 xs v)) (by simp [Z0j,Z01,Z0u,Z0n,Zr,Z0o,Z04,Z06,Zp,Z1v,Z0d,Z1b,Z0m,Zl,Z40,Z2f,Z0r,Zz])) ?_)))))
 exact at_ (r3 [0,2] [.agg [Z4w ys1 w1,Z2z xs v]] [1] [(b2,b2)] ⟨(HNormal.mk ys1 w1 xs v),rfl,rfl,(by show Normal.mk (ys1.map HDecl.er) (xs.map HRoutine.er)=_;rw [hde,c0_1,List.take_of_length_le om])⟩ (lr _))
theorem Zbn (k:Nat):∀(b2:Block) (cc:Nat) (g:Hd) (c2:List Int) (q2:Int),(CB c2 q2)→(0≤q2∧q2+b2.sz≤4000000000000)→(b2.sz≤1000000000)→(b2.sz<k)→Z3 Tryz.prog 86 [Za b2,.val (.func (.func 87) #[] #[.pointer (some ⟨cc,0,none⟩)])] [.obj cc [.h g],rV g c2] (fun r h=>h=[.obj cc [.h g],rV g (cnB b2 c2)]):=by
 induction k with
 | zero=>intro b cc g c q _ _ _ h;omega
 | succ k ih=>intro b cc g c q h1 h2 h3 h4;exact Zaw b cc g c q h1 h2 h3 fun b2 cc2 g2 c2 q2 k1 k2 k3 k4=>ih b2 cc2 g2 c2 q2 k1 k2 k3 om
theorem Zcr (b:Block) (cc:Nat) (g:Hd) (c0:List Int) (q:Int) (hcb:CB c0 q:=by exact ob) (hq:0≤q∧q+b.sz≤4000000000000:=by exact ob) (hz:b.sz≤1000000000:=by exact ob):Z3 Tryz.prog 86 [Za b,.val (.func (.func 87) #[] #[.pointer (some ⟨cc,0,none⟩)])] [.obj cc [.h g],rV g c0] (fun r h=>h=[.obj cc [.h g],rV g (cnB b c0)]):=Zbn (b.sz+1) b cc g c0 q hcb hq hz om
theorem Zks (n:Normal) (hz:NSz n:=by exact ob) (hr:∀r∈n.routines,r.body.rng):Z3 Tryz.prog 42 [Zi n] [] (fun r h=>∃(w:Hd),r=.h w∧h=[rV w (if Z05 n=true then cntN n else [])]):=by
 refine enter Tryz.func42 kr (n:=23) kr kr (ar (iA (Zh n) ?_))
 intro b1
 refine ir 1 [(1,.p b1 0)] (ie (aq (ar (irK 1 (.n 6 (Zi n) .r) [0] [b1] (ic [] (Z7j n (hr:=hr)) ?_)))))
 rintro _ _ ⟨rfl,rfl⟩
 refine irk 1 (.n 8 (.b (!Z05 n)) .r) (ie (ac (!Z05 n) (p:=¬(Z05 n=true)) (Zc Iff.rfl) (fun hc1=>?_) (fun hc1=>?_)))
 ·refine ar (ir 1 [(2,nl)] (ie (Z2e tNil ?_)))
  exact at_ (r2 [0] [nl] ⟨hN,rfl,rfl⟩ (AVLe.hd (v:=hN)) (eq:=(rv (xs:=[]) (by rw [if_neg hc1]) rz)))
 have hV:Z05 n=true:=Classical.not_not.1 hc1
 obtain ⟨hn,hvt⟩:=Z4t hz hV
 have hzl:=hn.len
 refine ak (ar (iVM 4 ?_))
 intro v1
 refine iA [nl] ?_
 intro b2
 refine iS 0 b2 0 [.h v1] [nl] [.h v1] (ie (aq (ar (irK 2 (.n 11 (nRoutine n.routines) .r) [2] [b1] (iw (Z0a n.routines) (irk 1 (.n 13 (.i 0) .r) (ie (ab 0 (al (fun m F h=>∃(k:Nat) (c:List Int),(k≤n.routines.length)∧(CB c (10000000*k))∧(cnRs (n.routines.drop k) c=cntN n)∧F=[(3,.p b2 0),(11,nRoutine n.routines),(12,.i n.routines.length),(13,.i k)]∧h=[.obj b2 [.h v1],rV v1 c]∧m=n.routines.length-k) _ _ _ ⟨0,(List.replicate 4 0),ob,⟨rfl,fun x hx=>by simp at hx;omega⟩,rfl,rfl,rfl,rfl⟩ (wk [0,0] (fw (fr (fc (x:=.i 0) li fl)))) ?_)))))))))
 rintro m F h ⟨k,c,c0_0,c0_1,c0_2,rfl,rfl,rfl⟩
 refine ar (irk 1 (.n 14 (.b (decide ((k:Int)<(n.routines.length:Int)))) .r) (ie (aq (ac (decide ((k:Int)<(n.routines.length:Int))) dq (fun hc2=>?_) (fun hc2=>?_)))))
 ·refine ak (aq (ab 1 (ar ?_)))
  obtain ⟨x1,hx1⟩:=Z6 (xs:=n.routines) (j:=k) om
  have hrm:=List.mem_of_getElem? hx1
  have hbz:=hz.body _ hrm
  refine is_ (Z0 (es:=Z0p n.routines) (hv:=none) (j:=(k:Int)) (sz:=5) (y:=Z0s x1) kr om (Z0v hx1) rfl) (irk 1 (.n 16 (Z0s x1) .r) (iA [nl,nl,.i 0,nl,.i 0] ?_))
  intro b3
  refine iS 0 b3 0 (Z1s x1) [nl,nl,.i 0,nl,.i 0] (Z1s x1) (ie (az (irK 3 (.n 18 (Za x1.body) (.n 19 (.val (.func (.func 87) #[] #[.pointer (some ⟨b2,0,none⟩)])) .r)) [0] [b3] (ic [1,1] (Zcr x1.body b2 v1 c (10000000*(k:Int)) (hcb:=c0_1)) ?_))))
  rintro _ _ rfl
  refine ie (az (ia (((k+1:Nat):Int)) (((k:Int))+(1)) (irk 1 (.n 13 (.i (k+1:Nat)) (.p (.p (.d (.d (.p (.d (.p (.d (.k (.k (.k .z)))))))))))) (ie ?_))))
  exact ⟨_,_,_,ob,⟨k+1,(cnB x1.body c),ob,((c0_1.b x1.body om).le om),(Z021 hx1 c0_2),rfl,rfl,rfl⟩,(wk [0,0] (fw (fr (fc (x:=.i (k+1:Nat)) li fl))))⟩
 refine ax 0 (ar (iR 2 [(2,.h v1)] [0] [b2] (ie ?_)))
 exact at_ (r1 [1] ⟨v1,rfl,rfl⟩ (eq:=(rv (xs:=c) (by rw [if_pos hV];exact Zv4 om c0_2) rz)))
theorem Zt2 (n:Normal) (hz:NSz n) (hr:∀r∈n.routines,r.body.rng):Z3 Tryz.prog 16 [Zi n] [] (fun r h=>∃(y:HNormal),r=.tup [Z2h y,.b ((reuF n).2)]∧h=[.many (Zz y)]∧y.er=(reuF n).1):=by
 refine enter Tryz.func16 kr (n:=25) kr kr (ar (iA (Zh n) ?_))
 intro b1
 refine iA [nl,nl] ?_
 intro b2
 refine ir 1 [(1,.p b1 0),(2,.p b2 0)] (ie (aq (ar (irK 1 (.n 6 (Zi n) .r) [1] [b1] (ic [] (Zfe n (hr:=hr)) ?_)))))
 rintro _ _ ⟨rfl,rfl⟩
 refine irk 2 (.n 9 (.b (!Z1x n)) .r) (ib (b:=(!Z1x n)) 9 (fun hb1=>?_) (fun hb1=>?_))
 ·have hp1:¬(Z1x n=true):=((Zc Iff.rfl)).1 hb1
  refine irk 6 (.n 15 (.b true) (.k (.d .r))) (ie (ac1 (ar (irk 1 (.n 16 (.agg [nl,nl]) .r) (iS 0 b2 0 [nl,nl] [nl,nl] [nl,nl] (irk 1 (.n 3 (.b false) .r) (ie ?_)))))))
  have hE:reuF n=(noN,false):=if_neg (fun z=>hp1 z.1)
  refine Z6b 5 (Z6b 3 (Z2e (tB [0,0] [.tail (.slice none 0 0) 3,.tail (.slice none 0 0) 5] (((.slice none 0 0),3)::(((.slice none 0 0),5)::[])) (Zz (HNormal.mk [] (.slice none 0 0) [] (.slice none 0 0))) (by simp [Z0j,Z01,Z0u,Z0n,Zr,Z0o,Z04,Z06,Zp,Z1v,Z0d,Z1b,Z0m,Zl,Z40,Z2f,Z0r,Zz])) ?_))
  exact at_ (r3 [0] [.agg [nl,nl],.b false] [1] [(b2,b2)] ⟨(HNormal.mk [] (.slice none 0 0) [] (.slice none 0 0)),rfl,rfl,(by rw [hE];rfl)⟩ (AVLe.tup (.cons (lr _) (.cons (lb (by rw [hE])) .nil))))
 have hp2:¬(¬(Z1x n=true)):=Zd (Zc Iff.rfl) hb1
 refine irK 1 (.n 10 (Zi n) (.k (.d .r))) [1] [b1] (ic [] (Zks n (hr:=hr)) ?_)
 rintro _ _ ⟨w1,rfl,rfl⟩
 have hB:Z1x n=true:=Classical.not_not.1 hp2
 obtain ⟨hn,hsg,hbt⟩:=Z64 hz hB
 have hV:Z05 n=true:=by rw [Z1x,Bool.and_eq_true] at hB;exact hB.1
 have hcl:(if Z05 n=true then cntN n else []).length=4:=by rw [if_pos hV];exact (Zaf n.routines rfl).1
 refine is_ (vIdx 0 w1 (if Z05 n=true then cntN n else []) 3 3) ?_
 obtain ⟨x1,hx1⟩:=Z6 (xs:=(if Z05 n=true then cntN n else [])) (j:=3) om
 have hgc:gI (cntN n) 3=x1:=by have h:=Z5a (i:=3) hx1;rw [if_pos hV] at h;exact h
 refine ix_ (vGet 0 w1 (if Z05 n=true then cntN n else []) 3 x1 hx1) (irk 2 (.n 15 (.b (decide (x1>0))) .r) (ie (ac (decide (x1>0)) dq (fun hc1=>?_) (fun hc1=>?_))))
 ·refine ar (irk 1 (.n 16 (.agg [nl,nl]) .r) (iS 1 b2 0 [nl,nl] [nl,nl] [nl,nl] (irk 1 (.n 3 (.b false) .r) (ie ?_))))
  have hE:reuF n=(noN,false):=if_neg (fun z=>z.2 (by rw [hgc];exact hc1))
  refine Z6b 5 (Z6b 3 (Z2e (tB [0,0] [.tail (.slice none 0 0) 3,.tail (.slice none 0 0) 5] (((.slice none 0 0),3)::(((.slice none 0 0),5)::[])) (Zz (HNormal.mk [] (.slice none 0 0) [] (.slice none 0 0))) (by simp [Z0j,Z01,Z0u,Z0n,Zr,Z0o,Z04,Z06,Zp,Z1v,Z0d,Z1b,Z0m,Zl,Z40,Z2f,Z0r,Zz])) ?_))
  exact at_ (r3 [0] [.agg [nl,nl],.b false] [1] [(b2,b2)] ⟨(HNormal.mk [] (.slice none 0 0) [] (.slice none 0 0)),rfl,rfl,(by rw [hE];rfl)⟩ (AVLe.tup (.cons (lr _) (.cons (lb (by rw [hE])) .nil))))
 refine ak (ar (irK 1 (.n 18 (Zi n) .r) [2] [b1] (ic [] (Z7l n ob ob) ?_)))
 rintro _ _ ⟨rfl,rfl⟩
 refine irk 3 (.n 20 (.agg [Z2 n.decls,sq1 n]) (.n 21 (.b (Z0e n)) .r)) (iA [nl,nl] ?_)
 intro b3
 refine iS 0 b3 0 [Z2 n.decls,sq1 n] [nl,nl] [Z2 n.decls,sq1 n] (irk 1 .r (ie (ar (irK 2 (.n 22 (Zi n) (.n 23 (.val (.func (.func 43) #[] #[.pointer (some ⟨b3,0,none⟩)])) .r)) [3] [b1] (ic [0] (Zfh n b3 (hbt:=hbt)) ?_)))))
 rintro _ _ ⟨y1,rfl,rfl,hp3⟩
 have hy:y1.er=ruN n:=hp3
 refine iS 3 b2 0 (Zam y1) [nl,nl] (Zam y1) (irk 1 (.n 3 (.b true) .r) (ie ?_))
 have hE:reuF n=(ruN n,true):=if_pos ⟨hB,by rw [hgc];exact hc1⟩
 exact at_ (r3 [1] [Z2h y1,.b true] [0] [(b2,b2)] ⟨y1,rfl,rfl,(by rw [hE];exact hy)⟩ (AVLe.tup (.cons (lr _) (.cons (lb (by rw [hE])) .nil))))
theorem Z04m (z:HNormal) (n:Normal) (he:z.er=n) (hz:NSz n):Z3 Tryz.prog 15 [Z2h z] [] (fun r h=>r=.tup [Zi ((reuF n).1),.b ((reuF n).2)]∧h=[]):=by
 subst he
 have h1:Z3 Tryz.prog 15 [Z2h z] [] _:=(Ztx z.er hz).args_le (.cons (Z7d z) .nil)
 exact h1
theorem Zwe (z:HNormal) (n:Normal) (he:z.er=n) (hz:NSz n) (hr:∀r∈n.routines,r.body.rng):Z3 Tryz.prog 16 [Z2h z] [] (fun r h=>∃(y:HNormal),r=.tup [Z2h y,.b ((reuF n).2)]∧h=[.many (Zz y)]∧y.er=(reuF n).1):=by
 subst he
 exact (Zt2 z.er hz hr).args_le (.cons (Z7d z) .nil)
theorem Zwf (z:HNormal) (n:Normal) (S:List Nat) (M:Mem) (he:z.er=n) (hz:NSz n) (hr:∀r∈n.routines,r.body.rng) (hrp:RepN S M z):Z3 Tryz.prog 16 [av z] [.own S M] (fun r h=>∃(y:HNormal) (S2:List Nat) (M2:Mem),r=.tup [av y,.b ((reuF n).2)]∧h=[.own S2 M2,.own S M]∧(y.er=(reuF n).1∧Z44 M2 S2 y∧(Z09 y).Nodup∧RepN S2 M2 y)):=by
 refine ((Zwe z n he hz hr).thaw2.lendO [.own S M] (.lent (List.mem_singleton.2 rfl) hrp .nil) sgl ?_).mono ?_
 ·rintro r h ⟨y,S2,M2,rfl,rfl,_⟩
  refine ⟨.tup fun q hq=>?_,fun q hq=>by rw [List.mem_singleton.1 hq];trivial⟩
  rcases List.mem_cons.1 hq with rfl|hq
  ·exact .agg fun q hq=>by
    rcases List.mem_cons.1 hq with rfl|hq
    ·exact .val
    ·rw [List.mem_singleton.1 hq];exact .val
  ·rw [List.mem_singleton.1 hq];exact .val
 ·rintro r h ⟨h1,⟨y,S2,M2,rfl,rfl,hp⟩,rfl⟩;exact ⟨y,S2,M2,rfl,rfl,hp⟩
theorem Zwt (n:Normal) (hl:Z4l n≤9223372036854775807) (hr:∀r∈n.routines,r.body.rng):Z3 Tryz.prog 5 [Zi n] [] (fun r h=>r=.b true∧h=[]):=by
 refine enter Tryz.func5 kr (n:=96) kr kr (ar (iA (Zh n) ?_))
 intro b1
 refine ir 1 [(1,.p b1 0)] (ie (ar (irk 1 (.n 3 (.i 1048576) .r) (ie (ar (irK 2 (.n 14 (Zi n) (.n 15 (.i 1048576) .r)) [0] [b1] (ic [] (Zfj n 1048576 ob ob) ?_)))))))
 rintro _ _ ⟨rfl,rfl⟩
 refine ir 1 [(1,.p b1 0),(3,.i (szL (Z4l n) 1048576))] (ie (aq (ar (irk 2 (.n 18 (.b (decide ((szL (Z4l n) 1048576)<0))) .r) (ie (ac (decide ((szL (Z4l n) 1048576)<0)) dq (fun hc1=>?_) (fun hc1=>?_)))))))
 ·refine ar (ir 1 [(2,.b true)] (ie ?_))
  exact at_ (r1 [] ⟨rfl,rfl⟩)
 have hsz:Z4l n≤1048576:=by unfold szL at hc1;split at hc1<;>omega
 have hz:=Z062 (n:=n) om
 have hxc:=Z069 hz
 refine ak (ar (irK 1 (.n 20 (Zi n) .r) [0] [b1] (ic [] (Zdn n ob) ?_)))
 rintro _ _ ⟨y1,rfl,rfl,hp1⟩
 have hnhp1:Z4l y1.er≤1000000000:=by rw [hp1];omega
 refine ic [] (Z04m y1 n ob ob) ?_
 rintro _ _ ⟨rfl,rfl⟩
 refine irk 3 (.n 23 (Zi ((reuF n).1)) (.n 24 (.b ((reuF n).2)) .r)) (iA [nl,nl] ?_)
 intro b2
 refine iS 0 b2 0 (Zh ((reuF n).1)) [nl,nl] (Zh ((reuF n).1)) (irk 1 (.n 5 (.b ((reuF n).2)) .r) (ie (ar (irK 1 (.n 25 (Zi n) .r) [2] [b1] (ic [] (Z06l n ob) ?_)))))
 rintro _ _ ⟨y2,S1,M1,rfl,rfl,hp2⟩
 obtain ⟨ho1,ho2,ho3,ho4⟩:=hp2
 have ho5:=Zit y2
 have ho6:=Z023 (y:=y2)
 rw [ho1] at ho5 ho6
 have ho7:∀d∈y2.decls,d.cons.length≤4000000000000:=fun d hd=>by have:=ho6 d hd;omega
 refine iA [nl,nl] ?_
 intro b3
 refine iS 0 b3 0 [.val ((hdOf y2.dv).v),.val ((hdOf y2.rv).v)] [nl,nl] [.val ((hdOf y2.dv).v),.val ((hdOf y2.rv).v)] (ie (ar (irK 1 (.n 28 (.agg [.val ((hdOf y2.dv).v),.val ((hdOf y2.rv).v)]) .r) [0] [b3] (ic [1] (Zwf y2 n S1 M1 ob ob ob ob) ?_))))
 rintro _ _ ⟨y3,S21,M21,rfl,rfl,hp3⟩
 obtain ⟨hg1,hg2,hg3,hg4⟩:=hp3
 have hg5:=Zit y3
 have hg6:=Z023 (y:=y3)
 rw [hg1] at hg5 hg6
 have hg7:∀d∈y3.decls,d.cons.length≤4000000000000:=fun d hd=>by have:=hg6 d hd;omega
 refine irk 3 (.n 30 (.agg [.val ((hdOf y3.dv).v),.val ((hdOf y3.rv).v)]) (.n 31 (.b ((reuF n).2)) .r)) (iA [nl,nl] ?_)
 intro b4
 refine iS 0 b4 0 [.val ((hdOf y3.dv).v),.val ((hdOf y3.rv).v)] [nl,nl] [.val ((hdOf y3.dv).v),.val ((hdOf y3.rv).v)] (irk 1 (.n 8 (.b ((reuF n).2)) .r) (ie (aq (ar (irK 2 (.n 32 (.agg [.val ((hdOf y3.dv).v),.val ((hdOf y3.rv).v)]) (.n 33 (Zi ((reuF n).1)) .r)) [0,4] [b4,b2] (ic [1] (Z037 y3 ((reuF n).1) S21 M21 ob ob ob) ?_))))))
 rintro _ _ ⟨rfl,rfl⟩
 refine irk 4 (.n 36 (.b false) (.n 37 (.b ((reuF n).2)) (.n 38 (.b ((reuF n).2)) .r))) (is_ (kBne ((reuF n).2) ((reuF n).2)) (irk 1 (.n 40 (.b (((reuF n).2) != ((reuF n).2))) .r) (ie (ac (((reuF n).2) != ((reuF n).2)) bne_iff_ne (fun hc2=>?_) (fun hc2=>?_)))))
 ·refine ar (ir 1 [(2,.b false)] (ie ?_))
  exact at_ (r2 [] [.b false] ⟨rfl,rfl⟩ (lb (absurd rfl hc2)))
 refine ak (aq (aD 5 (dtK (fuel:=3) 5 [0,1] (.n 41 (.agg [.val ((hdOf y2.dv).v),.val ((hdOf y2.rv).v)]) (.n 42 (Zi n) .r)) [3,6] [b3,b1] (do_ 2 (dc 2 [] [1] [b3] (Zdn n ob) ?_)))))
 rintro _ _ ⟨y4,rfl,rfl,hp4⟩
 have hnhp4:Z4l y4.er≤1000000000:=by rw [hp4];omega
 refine do_ 3 (dc 3 [3] [] [] (Z06u y2 y4 S1 M1 (by rw [ho1];symm;assumption) ob ob) ?_)
 rintro _ _ ⟨rfl,rfl⟩
 refine dtk (fuel:=0) 1 [4] (.n 45 (.b false) .r) (de (ac0 (ak (ar (irk 1 (.n 9 (.i 1) .r) (ie (ar (irK 2 (.n 46 (.agg [.val ((hdOf y2.dv).v),.val ((hdOf y2.rv).v)]) (.n 47 (.i 1) .r)) [4] [b3] (ic [0] (Zx6 S1 M1 y2 1 ob ob ob) ?_)))))))))
 rintro _ _ ⟨rfl,rfl⟩
 refine irk 1 (.n 9 (.i ((1:Int)+((Z09 y2).length:Nat))) (.q 48 (.k (.k (.d .r))))) (ie (aq (ar (Z1n 8 [(1,.p b1 0),(4,.p b2 0),(5,.b ((reuF n).2)),(7,.p b4 0),(8,.b ((reuF n).2)),(56,.b (decide (((1:Int)+((Z09 y2).length:Nat))<0)))] [.own S1 (wr M1 (Z09 y2) 1),.many (Zz y4),.own S21 M21,.obj b4 [.val ((hdOf y3.dv).v),.val ((hdOf y3.rv).v)],.obj b3 [.val ((hdOf y2.dv).v),.val ((hdOf y2.rv).v)],.obj b2 (Zh ((reuF n).1)),.many (Zz y1),.obj b1 (Zh n)] ?_ (fun hj1=>?_)))))
 ·refine Z24 [(1,.p b1 0),(4,.p b2 0),(5,.b ((reuF n).2)),(7,.p b4 0),(61,.b ((decide (((1:Int)+((Z09 y2).length:Nat))<0))||(((reuF n).2) != ((reuF n).2))))] [.own S1 (wr M1 (Z09 y2) 1),.many (Zz y4),.own S21 M21,.obj b4 [.val ((hdOf y3.dv).v),.val ((hdOf y3.rv).v)],.obj b3 [.val ((hdOf y2.dv).v),.val ((hdOf y2.rv).v)],.obj b2 (Zh ((reuF n).1)),.many (Zz y1),.obj b1 (Zh n)] ?_ ?_
  ·refine ir 1 [(1,.p b1 0),(4,.p b2 0),(5,.b ((reuF n).2)),(7,.p b4 0),(8,.b ((reuF n).2)),(57,.b (decide (((1:Int)+((Z09 y2).length:Nat))<0)))] (ib (b:=(decide (((1:Int)+((Z09 y2).length:Nat))<0))) 57 (fun hb1=>?_) (fun hb1=>?_))
   ·have hp5:((1:Int)+((Z09 y2).length:Nat))<0:=(dq).1 hb1
    refine irk 4 (.n 61 (.b true) (.d (.w .z))) (ie ?_)
    exact wk [0,0,0,0,0,0,0,0] (fq (fc (x:=.b true) (lb (by simp only [hb1];rfl)) fl))
   have hp6:¬(((1:Int)+((Z09 y2).length:Nat))<0):=Zd dq hb1
   refine irk 2 (.n 58 (.b ((reuF n).2)) (.n 59 (.b ((reuF n).2)) (.w (.k .z)))) (is_ (kBne ((reuF n).2) ((reuF n).2)) (irk 1 (.n 61 (.b (((reuF n).2) != ((reuF n).2))) .r) (ie ?_)))
   exact wk [0,0,0,0,0,0,0,0] (fq (fc (x:=.b (((reuF n).2) != ((reuF n).2))) (lb (by simp only [hb1];rfl)) fl))
  refine ac ((decide (((1:Int)+((Z09 y2).length:Nat))<0))||(((reuF n).2) != ((reuF n).2))) (p:=(((1:Int)+((Z09 y2).length:Nat))<0)∨(((reuF n).2)≠((reuF n).2))) (Zg dq bne_iff_ne) (fun hc3=>?_) (fun hc3=>?_)
  ·refine ar (ir 1 [(2,.b false)] (ie ?_))
   exact at_ (r2 [] [.b false] ⟨rfl,rfl⟩ (lb (hc3.elim (fun q=>by omega) fun q=>absurd rfl q)))
  refine ak (ar (ir 1 [(1,.p b1 0),(4,.p b2 0),(5,.b ((reuF n).2)),(7,.p b4 0),(10,.i 1)] (ie (ar (irK 2 (.n 62 (.agg [.val ((hdOf y3.dv).v),.val ((hdOf y3.rv).v)]) (.n 63 (.i 1) .r)) [3] [b4] (ic [2] (Zx6 S21 M21 y3 1 ob ob ob) ?_))))))
  rintro _ _ ⟨rfl,rfl⟩
  refine irk 1 (.n 10 (.i ((1:Int)+((Z09 y3).length:Nat))) (.p (.d (.d (.w .z))))) (ie (ar (irk 1 (.n 11 (.i 1) .r) (ie (ar (irK 2 (.n 65 (.agg [.val ((hdOf y3.dv).v),.val ((hdOf y3.rv).v)]) (.n 66 (.i 1) .r)) [3] [b4] (ic [0] (Zw8 S21 (wr M21 (Z09 y3) 1) y3 1 (Zhp ((Kp.refl _).wr (Zev hg2) 1) hg2) ob (Zph _ _ _ hg3) ob) ?_)))))))
  rintro _ _ ⟨rfl,rfl⟩
  refine irk 1 (.n 11 (.i ((1:Int)+((Z09 y3).length:Nat))) (.p (.d (.d (.d .r))))) (ie (aq (ar (irk 2 (.n 69 (.b (decide (((1:Int)+((Z09 y3).length:Nat))<0))) .r) (ie (ac (decide (((1:Int)+((Z09 y3).length:Nat))<0)) dq (fun hc4=>?_) (fun hc4=>?_)))))))
  ·refine ar (ir 1 [(2,.b false)] (ie ?_))
   exact at_ (r2 [] [.b false] ⟨rfl,rfl⟩ lb)
  refine ak (aq (ar (irk 3 (.n 72 (.b (((1:Int)+((Z09 y3).length:Nat)) != ((1:Int)+((Z09 y3).length:Nat)))) .r) (ie (ac (((1:Int)+((Z09 y3).length:Nat)) != ((1:Int)+((Z09 y3).length:Nat))) bne_iff_ne (fun hc5=>?_) (fun hc5=>?_))))))
  ·refine ar (ir 1 [(2,.b false)] (ie ?_))
   exact at_ (r2 [] [.b false] ⟨rfl,rfl⟩ lb)
  refine ak (ar (irK 1 (.n 74 (Zi n) .r) [7] [b1] (ic [] (Zdn n ob) ?_)))
  rintro _ _ ⟨y5,rfl,rfl,hp7⟩
  have hnhp7:Z4l y5.er≤1000000000:=by rw [hp7];omega
  refine ic [] (Zwe y5 n ob ob ob) ?_
  rintro _ _ ⟨y6,rfl,rfl,hp8⟩
  refine irk 3 (.n 77 (Z2h y6) (.n 78 (.b ((reuF n).2)) .r)) (iA [nl,nl] ?_)
  intro b5
  refine iS 0 b5 0 (Zam y6) [nl,nl] (Zam y6) (irk 1 (.n 13 (.b ((reuF n).2)) .r) (ie (aq (ar (irK 2 (.n 79 (Z2h y6) (.n 80 (Zi ((reuF n).1)) .r)) [0,8] [b5,b2] (ic [] (Z06t y6 ((reuF n).1) ob ob) ?_))))))
  rintro _ _ ⟨rfl,rfl⟩
  refine irk 4 (.n 83 (.b false) (.n 84 (.b ((reuF n).2)) (.n 85 (.b ((reuF n).2)) .r))) (is_ (kBne ((reuF n).2) ((reuF n).2)) (irk 1 (.n 87 (.b (((reuF n).2) != ((reuF n).2))) .r) (ie (ac (((reuF n).2) != ((reuF n).2)) bne_iff_ne (fun hc6=>?_) (fun hc6=>?_)))))
  ·refine ar (ir 1 [(2,.b false)] (ie ?_))
   exact at_ (r2 [] [.b false] ⟨rfl,rfl⟩ (lb (absurd rfl hc6)))
  refine ak (ar (ir 1 [(7,.p b4 0),(10,.i ((1:Int)+((Z09 y3).length:Nat))),(11,.i 1)] (ie (ar (irK 2 (.n 88 (.agg [.val ((hdOf y3.dv).v),.val ((hdOf y3.rv).v)]) (.n 89 (.i 1) .r)) [6] [b4] (ic [3] (Zw8 S21 (wr M21 (Z09 y3) 1) y3 1 (Zhp ((Kp.refl _).wr (Zev hg2) 1) hg2) ob (Zph _ _ _ hg3) ob) ?_))))))
  rintro _ _ ⟨rfl,rfl⟩
  refine irk 1 (.n 11 (.i ((1:Int)+((Z09 y3).length:Nat))) (.p (.d (.d (.d (.k .z)))))) (ie (aq (ar (irk 2 (.n 92 (.b (decide (((1:Int)+((Z09 y3).length:Nat))<0))) .r) (ie (ac (decide (((1:Int)+((Z09 y3).length:Nat))<0)) dq (fun hc7=>?_) (fun hc7=>?_)))))))
  ·refine ar (ir 1 [(2,.b false)] (ie ?_))
   exact at_ (r2 [] [.b false] ⟨rfl,rfl⟩ lb)
  refine ak (aq (ar (ir 3 [(95,.b (((1:Int)+((Z09 y3).length:Nat)) != ((1:Int)+((Z09 y3).length:Nat))))] (ie (ac (((1:Int)+((Z09 y3).length:Nat)) != ((1:Int)+((Z09 y3).length:Nat))) bne_iff_ne (fun hc8=>?_) (fun hc8=>?_))))))
  ·refine ar (ir 1 [(2,.b false)] (ie ?_))
   exact at_ (r2 [] [.b false] ⟨rfl,rfl⟩ lb)
  refine ak (ar (ir 1 [(2,.b true)] (ie ?_)))
  exact at_ (r1 [] ⟨rfl,rfl⟩)
 refine ir 3 [(1,.p b1 0),(4,.p b2 0),(5,.b ((reuF n).2)),(7,.p b4 0),(8,.b ((reuF n).2)),(51,.b (decide (((1:Int)+((Z09 y2).length:Nat))<0)))] (ib (b:=(decide (((1:Int)+((Z09 y2).length:Nat))<0))) 51 (fun hb2=>?_) (fun hb2=>?_))
 ·have hp9:((1:Int)+((Z09 y2).length:Nat))<0:=(dq).1 hb2
  refine irk 5 (.n 56 (.b true) (.d (.w (.k .z)))) ?_
  exact Zy (wk [0,0,0,0,0,0,0,0] (fq (fr (fc (x:=.b true) (lb (by simp only [hb2])) fl)))) hj1
 have hp10:¬(((1:Int)+((Z09 y2).length:Nat))<0):=Zd dq hb2
 refine irK 2 (.n 52 (.agg [.val ((hdOf y3.dv).v),.val ((hdOf y3.rv).v)]) (.n 53 (Zi ((reuF n).1)) (.w (.k (.k .z))))) [3,5] [b4,b2] (ic [2] (Z037 y3 ((reuF n).1) S21 M21 ob ob ob) ?_)
 rintro _ _ ⟨rfl,rfl⟩
 refine irk 2 (.n 56 (.b false) .r) ?_
 exact Zy (wk [1,1,0,0,0,0,0,0] (fq (fr (fc (x:=.b false) (lb (by simp only [hb2])) fl)))) hj1
end Go.Abs
section
namespace Go.Proofs.YtjneabekegkopaaGreat.fnExactReuse
open Go.ChangeShapes Go.WideShapes Go.ChangeAt Go.RowKit Go.Abs
theorem own:ownKnob Tryz.prog.godebug=none:=by kernel_rfl
theorem kids:Kids Tryz.prog (·<Tryz.prog.types.size):=kids_rows kr kr
theorem full:∀t e,t<Tryz.prog.types.size→Tryz.prog.underlying t=some (.slice e)→0<Tryz.prog.cellsOf e:=slices_full_of Tryz.prog kr
theorem Z058 {v:Value} (h:v.cells.toList.length=2):v=.agg v.cells:=by
 cases v<;>first|rfl|(simp [Value.cells] at h)
theorem Zyc {w w':World} {G G':Prot} {h':List Res} (hx:Ext w G [] w' G' h'):∀b,b<w.heap.size→w'.heap[b]? = w.heap[b]?:=
 fun b hb=>(hx.same b hb).eq fun o ⟨r,hr,_⟩=>by cases hr
theorem Zuz {w w':World} {b o:Nat} (h:w'.heap[b]? = w.heap[b]?):w'.cell? ⟨b,o,none⟩=w.cell? ⟨b,o,none⟩:=by simp [World.cell?,h]
theorem Z03s {t:Nat} (h:Nat.blt t Tryz.prog.types.size=true):t<Tryz.prog.types.size:=Nat.le_of_ble_eq_true h
theorem Zzq (H:Type) (enc:TypeId × Value→H) (W:World) (base:Nat) (args:Array Value) (ds gs:List (DataW H)) (before:List MemPlace) (hkb:Rows.uptoSmall H (ds++gs)=true)
  (hW:DataW.Whole enc Tryz.prog Tryz.f5.params.toList Rows.fnExactReuseSpec.vars false W args.toList ds gs before) :
  Calls Tryz.prog 5 args W fun e W'=>∃v,e=.returned v∧Rows.fnExactReuseSpec.post enc Tryz.prog Tryz.f5 false true false false W args v W':=by
 have hW':=hW
 obtain ⟨p,q,hA0,hV,rfl,hfz,hnd⟩:=hW
 have hA:DataW.TrodAll enc Tryz.prog W 0 (fun _=>true) true Tryz.f5.params.toList args.toList ds p:=hA0
 rw [Tryz.params5] at hA
 obtain ⟨v0,vs0,d0,ds0,p0,q0,hargs,rfl,rfl,h0,r0⟩:=trodAll_cons hA
 obtain ⟨rfl,rfl,rfl⟩:=trodAll_nil r0
 obtain rfl:args=#[v0]:=by cases args;simp_all
 obtain ⟨rfl,rfl⟩:=trodVars_none hV
 obtain ⟨fuel,htr⟩:=h0
 obtain ⟨a,hrc,hsz,hrg⟩:=Zxt htr
 have hb:Rows.uptoBulkAll ([d0]++[])≤1048576:=of_decide_eq_true hkb
 simp only [List.append_nil,Rows.uptoBulkAll] at hb
 have hsz:Z4l a≤Rows.uptoBulk d0:=hsz
 have hv0:v0=.agg v0.cells:=Z058 (by rw [hrc.length];rfl)
 have hrv:RV W (GA W) (Zi a) v0:=by
  rw [hv0]
  have:=RV.agg hrc
  simpa using this
 have hh:HOk W (GA W) []:=⟨(fun r hr=>by cases hr),List.Pairwise.nil,(fun r hr=>by cases hr),fun b o hg=>hg⟩
 refine (Zwt a om hrg W (GA W) [v0] (.cons hrv .nil) hh).mono ?_
 rintro e W' ⟨v,r,h',G',rfl,⟨rfl,rfl⟩,hv,hh',hx⟩
 have hvb:=hv.val_inv
 subst hvb
 refine ⟨_,rfl,[d0],[],p0++[]++[],[],p0++[],[],hW',?_,?_,rfl,?_,(fun h=>by cases h)⟩
 ·exact trodAll_cons_mk (shut_bool Tryz.underlying4 _) trodAll_mk0
 ·have hold:∀b,b<W.heap.size→W'.heap[b]? = W.heap[b]?:=Zyc hx
  have hlt:=hW'.lt
  have hcar:DataW.TrodAll enc Tryz.prog W' 0 (fun _=>true) true Tryz.f5.params.toList [v0] [d0] (p0++[]):=by
   rw [Tryz.params5]
   refine ⟨p0,[],⟨fuel,DataW.trod_carry fuel 25 _ _ htr fun y hy=>?_⟩,rfl,rfl⟩
   have hyl:=hlt y (by simpa using hy)
   cases y with
   | cell b o=>exact Zuz (hold b hyl)
   | map b=>exact hold b hyl
  exact DataW.TrodAll.respare kids full (by rw [Tryz.params5];intro t ht;rw [List.mem_singleton.1 ht];exact Z03s kr) hcar (fun y hy=>by have:=hlt y (by simpa using hy);simpa using this)
 ·refine ⟨hx.os,hx.output,fun i hi=>?_⟩
  rw [Zyc hx i hi]
  cases W.heap[i]? with
  | none=>rfl
  | some o=>cases o<;>first | rfl | exact ⟨rfl,rfl,rfl,fun _ _=>rfl⟩ | exact .inr ⟨rfl,rfl⟩
set_option maxRecDepth 100000 in
theorem Z05x (os:Os) (started:os.Started) (H:Type) (enc:TypeId × Value→H) (F:Stop.Interp) :
  ReturnsInHanded {} Tryz.checked os 5 .any ((Rows.OpenSpec.upto Rows.fnExactReuseSpec).pre6 enc Tryz.prog Tryz.f5 Rows.fnExactReuseUptoRow.domain false) (((Rows.OpenSpec.upto Rows.fnExactReuseSpec).at F).post enc Tryz.prog Tryz.f5 false true false false):=by
 refine returnsInHanded_of_cond (C:=Tryz.checked) (s:=Rows.OpenSpec.upto Rows.fnExactReuseSpec) (k:=Rows.uptoSmall) rfl own started kr Tryz.func5
  (OpenSpec.witness (enc:=enc) (C:=Tryz.checked) (s:=Rows.OpenSpec.upto Rows.fnExactReuseSpec) (k:=Rows.uptoSmall) rfl false ⟨#[],#[.agg #[.slice none 0 0,.slice none 0 0]],[]⟩ 8 kr kr kr
   (x:=([.agg [.nil,.nil]],[],[])) kr rfl kr) ?_
 intro W base args ds gs before hval hW _ hk _
 exact Zzq H enc W base args ds gs before hk hW
theorem over:Rows.fnExactReuseUptoRow.holds Tryz.pinned (Rows.OpenSpec.upto Rows.fnExactReuseSpec):=
 OpenClaim.holds_of_cond 5 Tryz.f5 rfl rfl rfl rfl rfl rfl rfl ⟨rfl,rfl,rfl,rfl,rfl⟩ rfl rfl rfl rfl rfl kr Tryz.func5 kr
  (of_decide_eq_true kr) (by unfold Func.isWrapper;first|(rw [if_pos (by decide +kernel)];kernel_rfl)|(rw [if_neg (by decide +kernel)];exact ⟨rfl,rfl⟩))
  (fun os started H enc _ F=>Z05x os started H enc F)
theorem proved:Rows.FnExactReuseUptoSaid:=
 over
#print axioms proved
end Go.Proofs.YtjneabekegkopaaGreat.fnExactReuse
end
